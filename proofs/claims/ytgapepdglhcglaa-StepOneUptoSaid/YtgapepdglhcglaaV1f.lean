/-
  Typed formulas of the program's functions, and the theorems that the contracts follow from them; printed by lift.py off the code.
-/
import Derived.Test.YtgapepdglhcglaaV1
namespace Go.Proofs.Ytgapepdglhcglaa
open Go.RowKit
set_option maxRecDepth 100000
set_option maxHeartbeats 2000000

/- function 18: (*gnomon/step.state).next -/
def T_gnomon_step_state_next (x0 : Tstep_state) (x0_3 : (List Int)) (x0_4 : (List (List Int))) (x0_6 : (List Tapi_Event)) (H : Hp) (K : Int → Bool → Hp → Prop) : Prop :=
 (0 : Int) ≤ x0.fpoint ∧ (x0.fpoint : Int) < x0.ffrom.n ∧ ∃ x_3 : Sl, EltH H x0.ffrom x0.fpoint 1 [(vs x_3)] ∧ 
 (((decide (x0.fpoint = x0.fc.fExit)) || (decide ((x_3.n : Int) = 0))) = true →
 K (-1) false H) ∧
 (((decide (x0.fpoint = x0.fc.fExit)) || (decide ((x_3.n : Int) = 0))) = false →
 (0 : Int) ≤ 0 ∧ (0 : Int) < x_3.n ∧ ∃ x_14 : Int, EltH H x_3 0 1 [(vi x_14)] ∧ 
 (0 : Int) ≤ x_14 ∧ (x_14 : Int) < x0.fc.fEdges.n ∧ ∃ x_21 : Tapi_Edge, EltH H x0.fc.fEdges x_14 10 (cs_api_Edge x_21) ∧ 
 TG ((decide (x_21.fKind = 12)) = true) (C_gnomon_step_state_value (Tstep_state.mk x0.fc x0.ffrom x0.fpoint (Sl.mk none 0 0) (Sl.mk none 0 0) x0.fscript (Sl.mk none 0 0)) x0_3 x0_4 x0_6 x_21.fA H) 0 H (fun (r0_46 : Int) (H_38 : Hp) =>
 TG ((decide (x_21.fKind = 12)) = true) (C_gnomon_step_state_value (Tstep_state.mk x0.fc x0.ffrom x0.fpoint (Sl.mk none 0 0) (Sl.mk none 0 0) x0.fscript (Sl.mk none 0 0)) x0_3 x0_4 x0_6 x_21.fB H_38) 0 H_38 (fun (r0_55 : Int) (H_47 : Hp) =>
 TG ((decide (x_21.fKind = 12)) = true) (C_gnomon_num_Cmp x_21.fOp r0_46 r0_55 H_47) false H_47 (fun (r0_64 : Bool) (H_56 : Hp) =>
 (((decide (x_21.fKind = 12)) && (!r0_64)) = true →
 (0 : Int) ≤ 1 ∧ (1 : Int) < x_3.n ∧ ∃ x_65 : Int, EltH H_56 x_3 1 1 [(vi x_65)] ∧ 
 K x_65 true H_56) ∧
 (((decide (x_21.fKind = 12)) && (!r0_64)) = false →
 K x_14 true H_56)))))
theorem LF_gnomon_step_state_next (x0 : Tstep_state) (x0_3 : (List Int)) (x0_4 : (List (List Int))) (x0_6 : (List Tapi_Event)) (g0 : Nat) (sx0_3 : Sl) (Fx0_3 : Frag) (sx0_4 : Sl) (Fx0_4 : Frag) (sx0_6 : Sl) (Fx0_6 : Frag) (hx0_3 : RowL 2 1 cs_int64 sx0_3 x0_3 Fx0_3) (hx0_4 : RowsL 27 2 1 cs_int64 sx0_4 x0_4 Fx0_4) (hx0_6 : RowL 74 3 cs_api_Event sx0_6 x0_6 Fx0_6) {w0 w : World} {ps0 : Nat → Prop} {H0 H : Hp} {K : Int → Bool → Hp → Prop} {R : Value → World → Prop} {E : Pan} (I : Inv w0 ps0 H0 H [bx g0 58 [(vs x0.fc.fVars), (vi x0.fc.fTemps), (vs x0.fc.fArrays), (vi x0.fc.fPoints), (vi x0.fc.fExit), (vs x0.fc.fEdges), (vs x0.ffrom), (vi x0.fpoint), (vs sx0_3), (vs sx0_4), (vs x0.fscript), (vs sx0_6)], Fx0_3, Fx0_4, Fx0_6] w) (hR : ∀ (r0 : Int) (r1 : Bool) (H' : Hp) (w' : World) (_ : Inv w0 ps0 H0 H' [bx g0 58 [(vs x0.fc.fVars), (vi x0.fc.fTemps), (vs x0.fc.fArrays), (vi x0.fc.fPoints), (vi x0.fc.fExit), (vs x0.fc.fEdges), (vs x0.ffrom), (vi x0.fpoint), (vs sx0_3), (vs sx0_4), (vs x0.fscript), (vs sx0_6)], Fx0_3, Fx0_4, Fx0_6] w') (_ : K r0 r1 H'), R (Value.tuple #[(vi r0), (Value.bool r1)]) w') (h : T_gnomon_step_state_next x0 x0_3 x0_4 x0_6 H K) : F18 (Value.pointer (some ⟨g0, 0, none⟩)) w R E := by
 unfold T_gnomon_step_state_next at h
 unfold F18
 refine s_dX I fun w_1 I_2 => ?_
 refine qP_pu (pu_nilp _) ?_
 refine qP_pu pu_fa_58_1 ?_
 refine qP_pu (pu_nilp _) ?_
 refine qP_pu pu_fa_58_2 ?_
 refine qL_ld (ld1 Try.isAgg55 (I_2.at1 (o := 6) (vs := [(vs x0.ffrom)]) (nb rfl) rfl)) ?_
 refine qL_ld (ld1 Try.isAgg3 (I_2.at1 (o := 7) (vs := [(vi x0.fpoint)]) (nb rfl) rfl)) ?_
 obtain ⟨h_6, h_7, x_3, h_9, h⟩ := h
 obtain ⟨g_4, o_5, h_8, h_9⟩ := h_9
 refine qP_pu (pu_ix_55 h_8 _ _ _ _ h_6 h_7) ?_
 refine qL_ld (ld1 (v := (vs x_3)) Try.isAgg68 (I_2.atH h_9)) ?_
 refine s_dX I_2 fun w_10 I_11 => ?_
 refine qP_pu (pu_nilp _) ?_
 refine qP_pu pu_fa_58_2 ?_
 refine qP_pu (pu_nilp _) ?_
 refine qP_pu pu_fa_58_0 ?_
 refine qP_pu pu_fa_26_4 ?_
 refine qL_ld (ld1 Try.isAgg3 (I_11.at1 (o := 7) (vs := [(vi x0.fpoint)]) (nb rfl) rfl)) ?_
 refine qL_ld (ld1 Try.isAgg3 (I_11.at1 (o := 4) (vs := [(vi x0.fc.fExit)]) (nb rfl) rfl)) ?_
 refine qP_pu (pu_eql _ _ _ _ _ _) ?_
 try simp only [gval_b]
 refine qP_pu (Pu.g fun hb => by have hb_0 := hb; first | exact (pu_len_68 _ _ _) | (simp only [gv_t hb_0]; exact (pu_len_68 _ _ _)) | (simp only [gval_t hb_0, gv_t hb_0, gv_t hb, gva_ff hb_0, gv_n]; exact (pu_len_68 _ _ _))) ?_
 refine qP_pu (Pu.g fun hb => by have hb_0 := hb; first | exact (pu_eql _ _ _ _ _ _) | (simp only [gv_t hb_0]; exact (pu_eql _ _ _ _ _ _)) | (simp only [gval_t hb_0, gv_t hb_0, gv_t hb, gva_ff hb_0, gv_n]; exact (pu_eql _ _ _ _ _ _))) ?_
 refine qP_pu (pu_or _ _) ?_
 refine xcond_b (fun c_83 => ?_) (fun c_83 => ?_)
 ·replace h := h.1 c_83
  exact hR (-1) false H _ ((((I_11.bring 3).bring 3).bring 3).bring 3) h
 ·replace h := h.2 c_83
  refine s_dX I_11 fun w_12 I_13 => ?_
  refine qP_pu (pu_nilp _) ?_
  refine qP_pu pu_fa_58_0 ?_
  refine qP_pu pu_fa_26_5 ?_
  obtain ⟨h_17, h_18, x_14, h_20, h⟩ := h
  obtain ⟨g_15, o_16, h_19, h_20⟩ := h_20
  refine qP_pu (pu_ix_68 h_19 _ _ _ _ h_17 h_18) ?_
  refine qL_ld (ld1 Try.isAgg24 (I_13.at1 (o := 5) (vs := [(vs x0.fc.fEdges)]) (nb rfl) rfl)) ?_
  refine qL_ld (ld1 (v := (vi x_14)) Try.isAgg3 (I_13.atH h_20)) ?_
  obtain ⟨h_24, h_25, x_21, h_27, h⟩ := h
  obtain ⟨g_22, o_23, h_26, h_27⟩ := h_27
  refine qP_pu (pu_ix_24 h_26 _ _ _ _ h_24 h_25) ?_
  refine qL_ld (ldA (vs := (cs_api_Edge x_21)) Try.isAgg52 Try.sizeOf52 rfl (I_13.atH h_27)) ?_
  refine s_alloc I_13 Try.zeroValue52 (cs := [(vi 0), (vi 0), (vi 0), (vi 0), (vi 0), (vi 0), (vi 0), (vi 0), (vi 0), (vi 0)]) rfl fun g_29 w_30 I_31 k_32 => ?_
  refine ⟨(k_32 _ (I_13.atH_lt h_27)), (k_32 _ (I_13.atH_lt h_20)), (k_32 _ I_13.lt1), ?_⟩
  refine s_store I_31 Try.sizeOf52 (vs := (cs_api_Edge x_21)) (cs' := (cs_api_Edge x_21)) rfl rfl (nb rfl) rfl rfl fun w_33 I_34 k_35 => ?_
  refine s_dX I_34 fun w_36 I_37 => ?_
  refine qP_pu pu_fa_52_2 ?_
  refine qL_ld (ld1 Try.isAgg3 (I_37.at1 (o := 2) (vs := [(vi x_21.fKind)]) (nb rfl) rfl)) ?_
  refine qP_pu (pu_eql _ _ _ _ _ _) ?_
  refine qP_pu (Pu.g fun hb => by have hb_0 := hb; first | exact pu_fa_52_5 | (simp only [gval_t hb_0, gv_t hb_0, gv_t hb, gva_tt hb_0]; exact pu_fa_52_5) | (simp only [gval_t hb_0, gv_t hb_0, gv_t hb, gva_tf hb_0, gv_n]; exact pu_fa_52_5)) ?_
  try simp only [gval_b]
  refine qP_pu (Pu.g fun hb => by have hb_0 := hb; first | exact pu_fa_52_6 | (simp only [gval_t hb_0, gv_t hb_0, gv_t hb, gva_tt hb_0]; exact pu_fa_52_6) | (simp only [gval_t hb_0, gv_t hb_0, gv_t hb, gva_tf hb_0, gv_n]; exact pu_fa_52_6)) ?_
  try simp only [gval_b, gv_gv, gvl_tt, gvl_tf, gvl_ft, gvl_ff, gvg_tt, gvg_tf, gvg_ft, gvg_ff]
  refine qP_pu (Pu.g fun hb => by have hb_0 := hb; first | exact pu_fa_52_7 | (simp only [gval_t hb_0, gv_t hb_0, gv_t hb, gva_tt hb_0]; exact pu_fa_52_7) | (simp only [gval_t hb_0, gv_t hb_0, gv_t hb, gva_tf hb_0, gv_n]; exact pu_fa_52_7)) ?_
  refine qL_g (p := (Value.pointer (some ⟨g_29, 5, none⟩))) rfl (Ld.g fun hb => by have hb_0 := hb; first | exact (ld1 Try.isAgg3 (I_37.at1 (o := 5) (vs := [(vi x_21.fOp)]) (nb rfl) rfl)) | (simp only [gv_t hb_0]; exact (ld1 Try.isAgg3 (I_37.at1 (o := 5) (vs := [(vi x_21.fOp)]) (nb rfl) rfl))) | (simp only [gval_t hb_0, gv_t hb_0, gv_t hb, gva_tf hb_0, gv_n]; exact (ld1 Try.isAgg3 (I_37.at1 (o := 5) (vs := [(vi x_21.fOp)]) (nb rfl) rfl)))) ?_
  refine qL_g (p := (Value.pointer (some ⟨g_29, 6, none⟩))) rfl (Ld.g fun hb => by have hb_0 := hb; first | exact (ldA Try.isAgg50 Try.sizeOf50 rfl (I_37.at1 (o := 6) (vs := (cs_api_Operand x_21.fA)) (nb rfl) rfl)) | (simp only [gv_t hb_0]; exact (ldA Try.isAgg50 Try.sizeOf50 rfl (I_37.at1 (o := 6) (vs := (cs_api_Operand x_21.fA)) (nb rfl) rfl))) | (simp only [gval_t hb_0, gv_t hb_0, gv_t hb, gva_tf hb_0, gv_n]; exact (ldA Try.isAgg50 Try.sizeOf50 rfl (I_37.at1 (o := 6) (vs := (cs_api_Operand x_21.fA)) (nb rfl) rfl)))) ?_
  refine qL_g (p := (Value.pointer (some ⟨g_29, 8, none⟩))) rfl (Ld.g fun hb => by have hb_0 := hb; first | exact (ldA Try.isAgg50 Try.sizeOf50 rfl (I_37.at1 (o := 8) (vs := (cs_api_Operand x_21.fB)) (nb rfl) rfl)) | (simp only [gv_t hb_0]; exact (ldA Try.isAgg50 Try.sizeOf50 rfl (I_37.at1 (o := 8) (vs := (cs_api_Operand x_21.fB)) (nb rfl) rfl))) | (simp only [gval_t hb_0, gv_t hb_0, gv_t hb, gva_tf hb_0, gv_n]; exact (ldA Try.isAgg50 Try.sizeOf50 rfl (I_37.at1 (o := 8) (vs := (cs_api_Operand x_21.fB)) (nb rfl) rfl)))) ?_
  refine opK_g2 (D := fun v_42 w_39 => ∃ (r0_46 : Int) (H_38 : Hp), v_42 = (gv (decide (x_21.fKind = 12)) true (vi r0_46)) ∧ (Inv w0 ps0 H0 H_38 [bx g0 58 [(vs x0.fc.fVars), (vi x0.fc.fTemps), (vs x0.fc.fArrays), (vi x0.fc.fPoints), (vi x0.fc.fExit), (vs x0.fc.fEdges), (vs x0.ffrom), (vi x0.fpoint), (vs sx0_3), (vs sx0_4), (vs x0.fscript), (vs sx0_6)], Fx0_3, Fx0_4, Fx0_6, bx g_29 52 (cs_api_Edge x_21)] w_39) ∧ (∀ i, i < w_36.heap.size → ¬ inF [bx g0 58 [(vs x0.fc.fVars), (vi x0.fc.fTemps), (vs x0.fc.fArrays), (vi x0.fc.fPoints), (vi x0.fc.fExit), (vs x0.fc.fEdges), (vs x0.ffrom), (vi x0.fpoint), (vs sx0_3), (vs sx0_4), (vs x0.fscript), (vs sx0_6)], Fx0_3, Fx0_4, Fx0_6] i → w_39.heap[i]? = w_36.heap[i]?) ∧ Hle H H_38 ∧ (TG ((decide (x_21.fKind = 12)) = true) (C_gnomon_step_state_value (Tstep_state.mk x0.fc x0.ffrom x0.fpoint (Sl.mk none 0 0) (Sl.mk none 0 0) x0.fscript (Sl.mk none 0 0)) x0_3 x0_4 x0_6 x_21.fB H_38) 0 H_38 (fun (r0_55 : Int) (H_47 : Hp) =>
 TG ((decide (x_21.fKind = 12)) = true) (C_gnomon_num_Cmp x_21.fOp r0_46 r0_55 H_47) false H_47 (fun (r0_64 : Bool) (H_56 : Hp) =>
 (((decide (x_21.fKind = 12)) && (!r0_64)) = true →
 (0 : Int) ≤ 1 ∧ (1 : Int) < x_3.n ∧ ∃ x_65 : Int, EltH H_56 x_3 1 1 [(vi x_65)] ∧ 
 K x_65 true H_56) ∧
 (((decide (x_21.fKind = 12)) && (!r0_64)) = false →
 K x_14 true H_56))))) (fun b_82 => ?_) (fun b_82 => ?_) ?_
  ·replace h := h.1 b_82
   have hb_0 := b_82
   try simp only [gv_t hb_0]
   refine opK_calls (cap := []) (fun args w => Try.call44 args w) ?_
   refine Cv_ct (Fi := [bx g0 58 [(vs x0.fc.fVars), (vi x0.fc.fTemps), (vs x0.fc.fArrays), (vi x0.fc.fPoints), (vi x0.fc.fExit), (vs x0.fc.fEdges), (vs x0.ffrom), (vi x0.fpoint), (vs sx0_3), (vs sx0_4), (vs x0.fscript), (vs sx0_6)], Fx0_3, Fx0_4, Fx0_6]) (Fr := [bx g_29 52 (cs_api_Edge x_21)]) ((((I_37.bring 4).bring 4).bring 4).bring 4) (h g0 sx0_3 Fx0_3 sx0_4 Fx0_4 sx0_6 Fx0_6 hx0_3 hx0_4 hx0_6) (fun v_42 H_38 F_43 w_39 I_40 l_45 k_41 q_44 => ?_) (fun _ _ _ _ _ q => q.elim)
   obtain ⟨r0_46, rfl, rfl, h⟩ := q_44
   exact ⟨r0_46, H_38, by first | rfl | rw [gv_t b_82], I_40, k_41, l_45, h⟩
  ·exact ⟨0, H, by first | rfl | rw [gv_f b_82], ((((I_37.bring 4).bring 4).bring 4).bring 4), fun _ _ _ => rfl, Hle.refl _, h.2 b_82⟩
  ·clear h
   rintro v_42 w_39 ⟨r0_46, H_38, rfl, I_40, k_41, l_45, h⟩
   refine ⟨(same_g (p := (Value.pointer (some ⟨g_29, 8, none⟩))) rfl (k_41 _ I_37.lt1 (Inv.not_in (Fi := [bx g0 58 [(vs x0.fc.fVars), (vi x0.fc.fTemps), (vs x0.fc.fArrays), (vi x0.fc.fPoints), (vi x0.fc.fExit), (vs x0.fc.fEdges), (vs x0.ffrom), (vi x0.fpoint), (vs sx0_3), (vs sx0_4), (vs x0.fscript), (vs sx0_6)], Fx0_3, Fx0_4, Fx0_6]) ((((I_37.bring 4).bring 4).bring 4).bring 4)))), (same_g (p := (Value.pointer (some ⟨g_29, 5, none⟩))) rfl (k_41 _ I_37.lt1 (Inv.not_in (Fi := [bx g0 58 [(vs x0.fc.fVars), (vi x0.fc.fTemps), (vs x0.fc.fArrays), (vi x0.fc.fPoints), (vi x0.fc.fExit), (vs x0.fc.fEdges), (vs x0.ffrom), (vi x0.fpoint), (vs sx0_3), (vs sx0_4), (vs x0.fscript), (vs sx0_6)], Fx0_3, Fx0_4, Fx0_6]) ((((I_37.bring 4).bring 4).bring 4).bring 4)))), ?_⟩
   refine opK_g2 (D := fun v_51 w_48 => ∃ (r0_55 : Int) (H_47 : Hp), v_51 = (gv (decide (x_21.fKind = 12)) true (vi r0_55)) ∧ (Inv w0 ps0 H0 H_47 [bx g0 58 [(vs x0.fc.fVars), (vi x0.fc.fTemps), (vs x0.fc.fArrays), (vi x0.fc.fPoints), (vi x0.fc.fExit), (vs x0.fc.fEdges), (vs x0.ffrom), (vi x0.fpoint), (vs sx0_3), (vs sx0_4), (vs x0.fscript), (vs sx0_6)], Fx0_3, Fx0_4, Fx0_6, bx g_29 52 (cs_api_Edge x_21)] w_48) ∧ (∀ i, i < w_39.heap.size → ¬ inF [bx g0 58 [(vs x0.fc.fVars), (vi x0.fc.fTemps), (vs x0.fc.fArrays), (vi x0.fc.fPoints), (vi x0.fc.fExit), (vs x0.fc.fEdges), (vs x0.ffrom), (vi x0.fpoint), (vs sx0_3), (vs sx0_4), (vs x0.fscript), (vs sx0_6)], Fx0_3, Fx0_4, Fx0_6] i → w_48.heap[i]? = w_39.heap[i]?) ∧ Hle H_38 H_47 ∧ (TG ((decide (x_21.fKind = 12)) = true) (C_gnomon_num_Cmp x_21.fOp r0_46 r0_55 H_47) false H_47 (fun (r0_64 : Bool) (H_56 : Hp) =>
 (((decide (x_21.fKind = 12)) && (!r0_64)) = true →
 (0 : Int) ≤ 1 ∧ (1 : Int) < x_3.n ∧ ∃ x_65 : Int, EltH H_56 x_3 1 1 [(vi x_65)] ∧ 
 K x_65 true H_56) ∧
 (((decide (x_21.fKind = 12)) && (!r0_64)) = false →
 K x_14 true H_56)))) (fun b_81 => ?_) (fun b_81 => ?_) ?_
   ·replace h := h.1 b_81
    have hb_0 := b_81
    try simp only [gv_t hb_0]
    refine opK_calls (cap := []) (fun args w => Try.call44 args w) ?_
    refine Cv_ct (Fi := [bx g0 58 [(vs x0.fc.fVars), (vi x0.fc.fTemps), (vs x0.fc.fArrays), (vi x0.fc.fPoints), (vi x0.fc.fExit), (vs x0.fc.fEdges), (vs x0.ffrom), (vi x0.fpoint), (vs sx0_3), (vs sx0_4), (vs x0.fscript), (vs sx0_6)], Fx0_3, Fx0_4, Fx0_6]) (Fr := [bx g_29 52 (cs_api_Edge x_21)]) ((((I_40.bring 3).bring 3).bring 3).bring 3) (h g0 sx0_3 Fx0_3 sx0_4 Fx0_4 sx0_6 Fx0_6 hx0_3 hx0_4 hx0_6) (fun v_51 H_47 F_52 w_48 I_49 l_54 k_50 q_53 => ?_) (fun _ _ _ _ _ q => q.elim)
    obtain ⟨r0_55, rfl, rfl, h⟩ := q_53
    exact ⟨r0_55, H_47, by first | rfl | rw [gv_t b_81], I_49, k_50, l_54, h⟩
   ·exact ⟨0, H_38, by first | rfl | rw [gv_f b_81], ((((I_40.bring 3).bring 3).bring 3).bring 3), fun _ _ _ => rfl, Hle.refl _, h.2 b_81⟩
   ·clear h
    rintro v_51 w_48 ⟨r0_55, H_47, rfl, I_49, k_50, l_54, h⟩
    refine ⟨(same_g (p := (Value.pointer (some ⟨g_29, 5, none⟩))) rfl (k_50 _ (I_40.bring 4).lt1 (Inv.not_in (Fi := [bx g0 58 [(vs x0.fc.fVars), (vi x0.fc.fTemps), (vs x0.fc.fArrays), (vi x0.fc.fPoints), (vi x0.fc.fExit), (vs x0.fc.fEdges), (vs x0.ffrom), (vi x0.fpoint), (vs sx0_3), (vs sx0_4), (vs x0.fscript), (vs sx0_6)], Fx0_3, Fx0_4, Fx0_6]) (((((I_40.bring 4).bring 4).bring 4).bring 4).bring 4)))), ?_⟩
    refine opK_g2 (D := fun v_60 w_57 => ∃ (r0_64 : Bool) (H_56 : Hp), v_60 = (gv (decide (x_21.fKind = 12)) true (Value.bool r0_64)) ∧ (Inv w0 ps0 H0 H_56 [bx g0 58 [(vs x0.fc.fVars), (vi x0.fc.fTemps), (vs x0.fc.fArrays), (vi x0.fc.fPoints), (vi x0.fc.fExit), (vs x0.fc.fEdges), (vs x0.ffrom), (vi x0.fpoint), (vs sx0_3), (vs sx0_4), (vs x0.fscript), (vs sx0_6)], Fx0_3, Fx0_4, Fx0_6, bx g_29 52 (cs_api_Edge x_21)] w_57) ∧ (∀ i, i < w_48.heap.size → ¬ inF [] i → w_57.heap[i]? = w_48.heap[i]?) ∧ Hle H_47 H_56 ∧ ((((decide (x_21.fKind = 12)) && (!r0_64)) = true →
 (0 : Int) ≤ 1 ∧ (1 : Int) < x_3.n ∧ ∃ x_65 : Int, EltH H_56 x_3 1 1 [(vi x_65)] ∧ 
 K x_65 true H_56) ∧
 (((decide (x_21.fKind = 12)) && (!r0_64)) = false →
 K x_14 true H_56))) (fun b_80 => ?_) (fun b_80 => ?_) ?_
    ·replace h := h.1 b_80
     have hb_0 := b_80
     try simp only [gv_t hb_0]
     refine opK_calls (cap := []) (fun args w => Try.call43 args w) ?_
     refine Cv_ct (Fi := []) (Fr := [bx g0 58 [(vs x0.fc.fVars), (vi x0.fc.fTemps), (vs x0.fc.fArrays), (vi x0.fc.fPoints), (vi x0.fc.fExit), (vs x0.fc.fEdges), (vs x0.ffrom), (vi x0.fpoint), (vs sx0_3), (vs sx0_4), (vs x0.fscript), (vs sx0_6)], Fx0_3, Fx0_4, Fx0_6, bx g_29 52 (cs_api_Edge x_21)]) I_49 (h) (fun v_60 H_56 F_61 w_57 I_58 l_63 k_59 q_62 => ?_) (fun _ _ _ _ _ q => q.elim)
     obtain ⟨r0_64, rfl, rfl, h⟩ := q_62
     exact ⟨r0_64, H_56, by first | rfl | rw [gv_t b_80], I_58, k_59, l_63, h⟩
    ·exact ⟨false, H_47, by first | rfl | rw [gv_f b_80], I_49, fun _ _ _ => rfl, Hle.refl _, h.2 b_80⟩
    ·clear h
     rintro v_60 w_57 ⟨r0_64, H_56, rfl, I_58, k_59, l_63, h⟩
     refine qP_pu (Pu.g fun hb => by have hb_0 := hb; first | exact (pu_not _) | (simp only [gv_t hb_0]; exact (pu_not _)) | (simp only [gval_t hb_0, gv_t hb_0, gv_t hb, gva_tf hb_0, gv_n]; exact (pu_not _))) ?_
     refine qP_pu (pu_and _ _) ?_
     refine xcond_b (fun c_79 => ?_) (fun c_79 => ?_)
     ·replace h := h.1 c_79
      obtain ⟨h_68, h_69, x_65, h_71, h⟩ := h
      obtain ⟨g_66, o_67, h_70, h_71⟩ := h_71
      refine opK_pu (pu_ix_68 h_70 _ _ _ _ h_68 h_69) ?_
      refine opK_ld (ld1 (v := (vi x_65)) Try.isAgg3 (I_58.atH h_71)) ?_
      exact hR x_65 true H_56 _ (((((I_58.bring 4).drop.bring 3).bring 3).bring 3).bring 3) h
     ·replace h := h.2 c_79
      refine opK_pu (pu_ix_68 h_19 _ _ _ _ h_17 h_18) ?_
      refine opK_ld (ld1 (v := (vi x_14)) Try.isAgg3 (I_58.atH (h_20.le (Hle.trans l_45 (Hle.trans l_54 l_63))))) ?_
      exact hR x_14 true H_56 _ (((((I_58.bring 4).drop.bring 3).bring 3).bring 3).bring 3) h
theorem L_gnomon_step_state_next (x0 : Tstep_state) (x0_3 : (List Int)) (x0_4 : (List (List Int))) (x0_6 : (List Tapi_Event)) {H : Hp} {K : Int → Bool → Hp → Prop} (h : T_gnomon_step_state_next x0 x0_3 x0_4 x0_6 H K) : C_gnomon_step_state_next x0 x0_3 x0_4 x0_6 H K := by
 intro g0 sx0_3 Fx0_3 sx0_4 Fx0_4 sx0_6 Fx0_6 hx0_3 hx0_4 hx0_6 w I
 refine F18_ok ?_
 refine LF_gnomon_step_state_next x0 x0_3 x0_4 x0_6 g0 sx0_3 Fx0_3 sx0_4 Fx0_4 sx0_6 Fx0_6 hx0_3 hx0_4 hx0_6 I (fun r0 r1 H' w' I' hk => ⟨H', _, I', r0, r1, rfl, rfl, hk⟩) h


/- function 62: gnomon/num.Sub -/
def T_gnomon_num_Sub (x0 : Int) (x1 : Int) (H : Hp) (K : Int → Int → Hp → Prop) : Prop :=
 ((((decide (x0 < 0)) != (decide (x1 < 0))) && ((decide ((IntKind.wrap .i64 (x0 - x1)) < 0)) != (decide (x0 < 0)))) = true →
 K 0 1 H) ∧
 ((((decide (x0 < 0)) != (decide (x1 < 0))) && ((decide ((IntKind.wrap .i64 (x0 - x1)) < 0)) != (decide (x0 < 0)))) = false →
 K (IntKind.wrap .i64 (x0 - x1)) 0 H)
theorem LF_gnomon_num_Sub (x0 : Int) (x1 : Int) {w0 w : World} {ps0 : Nat → Prop} {H0 H : Hp} {K : Int → Int → Hp → Prop} {R : Value → World → Prop} {E : Pan} (I : Inv w0 ps0 H0 H [] w) (hR : ∀ (r0 : Int) (r1 : Int) (H' : Hp) (w' : World) (_ : Inv w0 ps0 H0 H' [] w') (_ : K r0 r1 H'), R (Value.tuple #[(vi r0), (vi r1)]) w') (h : T_gnomon_num_Sub x0 x1 H K) : F62 (vi x0) (vi x1) w R E := by
 unfold T_gnomon_num_Sub at h
 unfold F62
 refine opK_pu (pu_sub _ _ _ _ _ _) ?_
 refine opK_pu (pu_lss _ _ _ _ _ _) ?_
 refine opK_pu (pu_lss _ _ _ _ _ _) ?_
 refine opK_pu (pu_neb_4 _ _ _ _) ?_
 try simp only [gval_b]
 refine opK_pu (Pu.g fun hb => by have hb_0 := hb; first | exact (pu_lss _ _ _ _ _ _) | (simp only [gv_t hb_0]; exact (pu_lss _ _ _ _ _ _)) | (simp only [gval_t hb_0, gv_t hb_0, gv_t hb, gva_tf hb_0, gv_n]; exact (pu_lss _ _ _ _ _ _))) ?_
 try simp only [gval_b, gv_gv, gvl_tt, gvl_tf, gvl_ft, gvl_ff, gvg_tt, gvg_tf, gvg_ft, gvg_ff]
 refine opK_pu (Pu.g fun hb => by have hb_0 := hb; first | exact (pu_lss _ _ _ _ _ _) | (simp only [gv_t hb_0]; exact (pu_lss _ _ _ _ _ _)) | (simp only [gval_t hb_0, gv_t hb_0, gv_t hb, gva_tf hb_0, gv_n]; exact (pu_lss _ _ _ _ _ _))) ?_
 refine opK_pu (Pu.g fun hb => by have hb_0 := hb; first | exact (pu_neb_4 _ _ _ _) | (simp only [gv_t hb_0]; exact (pu_neb_4 _ _ _ _)) | (simp only [gval_t hb_0, gv_t hb_0, gv_t hb, gva_tf hb_0, gv_n]; exact (pu_neb_4 _ _ _ _))) ?_
 refine opK_pu (pu_and _ _) ?_
 refine xcond_b (fun c_1 => ?_) (fun c_1 => ?_)
 ·replace h := h.1 c_1
  exact hR 0 1 H _ I h
 ·replace h := h.2 c_1
  exact hR (IntKind.wrap .i64 (x0 - x1)) 0 H _ I h
theorem L_gnomon_num_Sub (x0 : Int) (x1 : Int) {H : Hp} {K : Int → Int → Hp → Prop} (h : T_gnomon_num_Sub x0 x1 H K) : C_gnomon_num_Sub x0 x1 H K := by
 intro w I
 refine F62_ok ?_
 refine LF_gnomon_num_Sub x0 x1 I (fun r0 r1 H' w' I' hk => ⟨H', _, I', r0, r1, rfl, rfl, hk⟩) h


/- function 58: (*gnomon/step.state).gives -/
def T_gnomon_step_state_gives_of_gnomon_num_Mul_j1 (s8j1 : Int) (cp0j1_0 : Tapi_Cfg) (cp0j1_1 : Sl) (cp0j1_2 : Int) (ccp0j1_3 : (List Int)) (ccp0j1_4 : (List (List Int))) (cp0j1_5 : Sl) (ccp0j1_6 : (List Tapi_Event)) (_cr_1j1 : Tapi_Edge) (H : Hp) (K : Int → Tstep_state → (List Int) → (List (List Int)) → (List Tapi_Event) → Hp → Prop) : Prop :=
 K s8j1 (Tstep_state.mk cp0j1_0 cp0j1_1 cp0j1_2 (Sl.mk none 0 0) (Sl.mk none 0 0) cp0j1_5 (Sl.mk none 0 0)) ccp0j1_3 ccp0j1_4 ccp0j1_6 H
def T_gnomon_step_state_gives_of_gnomon_num_Mul (x0 : Tstep_state) (x0_3 : (List Int)) (x0_4 : (List (List Int))) (x0_6 : (List Tapi_Event)) (x1 : Tapi_Edge) (H : Hp) (K : Int → Tstep_state → (List Int) → (List (List Int)) → (List Tapi_Event) → Hp → Prop) : Prop :=
 C_gnomon_step_state_value (Tstep_state.mk x0.fc x0.ffrom x0.fpoint (Sl.mk none 0 0) (Sl.mk none 0 0) x0.fscript (Sl.mk none 0 0)) x0_3 x0_4 x0_6 x1.fA H (fun (r0_16 : Int) (H_8 : Hp) => 
 C_gnomon_step_state_value (Tstep_state.mk x0.fc x0.ffrom x0.fpoint (Sl.mk none 0 0) (Sl.mk none 0 0) x0.fscript (Sl.mk none 0 0)) x0_3 x0_4 x0_6 x1.fB H_8 (fun (r0_25 : Int) (H_17 : Hp) => 
 C_gnomon_num_Mul r0_16 r0_25 H_17 (fun (r0_34 : Int) (r1_34 : Int) (H_26 : Hp) => 
 (r1_34 = 0 →
 (0 : Int) ≤ x1.fDst ∧ ∃ x_37 : Int, (x0_3)[(x1.fDst : Int).toNat]? = some x_37 ∧
 T_gnomon_step_state_gives_of_gnomon_num_Mul_j1 r1_34 x0.fc x0.ffrom x0.fpoint ((x0_3).set (x1.fDst : Int).toNat r0_34) x0_4 x0.fscript x0_6 x1 H_26 K) ∧
 (¬ (r1_34 = 0) →
 T_gnomon_step_state_gives_of_gnomon_num_Mul_j1 r1_34 x0.fc x0.ffrom x0.fpoint x0_3 x0_4 x0.fscript x0_6 x1 H_26 K))))
theorem LF_gnomon_step_state_gives_of_gnomon_num_Mul (x0 : Tstep_state) (x0_3 : (List Int)) (x0_4 : (List (List Int))) (x0_6 : (List Tapi_Event)) (x1 : Tapi_Edge) (g0 : Nat) (sx0_3 : Sl) (Fx0_3 : Frag) (sx0_4 : Sl) (Fx0_4 : Frag) (sx0_6 : Sl) (Fx0_6 : Frag) (hx0_3 : RowL 2 1 cs_int64 sx0_3 x0_3 Fx0_3) (hx0_4 : RowsL 27 2 1 cs_int64 sx0_4 x0_4 Fx0_4) (hx0_6 : RowL 74 3 cs_api_Event sx0_6 x0_6 Fx0_6) {w0 w : World} {ps0 : Nat → Prop} {H0 H : Hp} {K : Int → Tstep_state → (List Int) → (List (List Int)) → (List Tapi_Event) → Hp → Prop} {R : Value → World → Prop} {E : Pan} (I : Inv w0 ps0 H0 H [bx g0 58 [(vs x0.fc.fVars), (vi x0.fc.fTemps), (vs x0.fc.fArrays), (vi x0.fc.fPoints), (vi x0.fc.fExit), (vs x0.fc.fEdges), (vs x0.ffrom), (vi x0.fpoint), (vs sx0_3), (vs sx0_4), (vs x0.fscript), (vs sx0_6)], Fx0_3, Fx0_4, Fx0_6] w) (hR : ∀ (r0 : Int) (y0 : Tstep_state) (y0_3 : (List Int)) (y0_4 : (List (List Int))) (y0_6 : (List Tapi_Event)) (sy0_3 : Sl) (Fy0_3 : Frag) (sy0_4 : Sl) (Fy0_4 : Frag) (sy0_6 : Sl) (Fy0_6 : Frag) (H' : Hp) (w' : World) (_ : RowL 2 1 cs_int64 sy0_3 y0_3 Fy0_3) (_ : RowsL 27 2 1 cs_int64 sy0_4 y0_4 Fy0_4) (_ : RowL 74 3 cs_api_Event sy0_6 y0_6 Fy0_6) (_ : Inv w0 ps0 H0 H' [bx g0 58 [(vs y0.fc.fVars), (vi y0.fc.fTemps), (vs y0.fc.fArrays), (vi y0.fc.fPoints), (vi y0.fc.fExit), (vs y0.fc.fEdges), (vs y0.ffrom), (vi y0.fpoint), (vs sy0_3), (vs sy0_4), (vs y0.fscript), (vs sy0_6)], Fy0_3, Fy0_4, Fy0_6] w') (_ : K r0 y0 y0_3 y0_4 y0_6 H'), R (vi r0) w') (h : T_gnomon_step_state_gives_of_gnomon_num_Mul x0 x0_3 x0_4 x0_6 x1 H K) : F58 (Value.pointer (some ⟨g0, 0, none⟩)) (Value.agg (cs_api_Edge x1).toArray) (Value.func (.func 63) #[] #[]) w R E := by
 unfold T_gnomon_step_state_gives_of_gnomon_num_Mul at h
 unfold F58
 refine s_box I (cs := (cs_api_Edge x1)) rfl fun g_2 w_3 I_4 k_5 => ?_
 refine s_dX I_4 fun w_6 I_7 => ?_
 refine qP_pu pu_fa_52_6 ?_
 refine qP_pu pu_fa_52_7 ?_
 refine qL_ld (ldA Try.isAgg50 Try.sizeOf50 rfl (I_7.at1 (o := 6) (vs := (cs_api_Operand x1.fA)) (nb rfl) rfl)) ?_
 refine qL_ld (ldA Try.isAgg50 Try.sizeOf50 rfl (I_7.at1 (o := 8) (vs := (cs_api_Operand x1.fB)) (nb rfl) rfl)) ?_
 refine opK_calls (cap := []) (fun args w => Try.call44 args w) ?_
 refine Cv_ct (Fi := [bx g0 58 [(vs x0.fc.fVars), (vi x0.fc.fTemps), (vs x0.fc.fArrays), (vi x0.fc.fPoints), (vi x0.fc.fExit), (vs x0.fc.fEdges), (vs x0.ffrom), (vi x0.fpoint), (vs sx0_3), (vs sx0_4), (vs x0.fscript), (vs sx0_6)], Fx0_3, Fx0_4, Fx0_6]) (Fr := [bx g_2 52 (cs_api_Edge x1)]) ((((I_7.bring 4).bring 4).bring 4).bring 4) (h g0 sx0_3 Fx0_3 sx0_4 Fx0_4 sx0_6 Fx0_6 hx0_3 hx0_4 hx0_6) (fun v_12 H_8 F_13 w_9 I_10 l_15 k_11 q_14 => ?_) (fun _ _ _ _ _ q => q.elim)
 obtain ⟨r0_16, rfl, rfl, h⟩ := q_14
 refine ⟨(k_11 _ I_7.lt1 (Inv.not_in (Fi := [bx g0 58 [(vs x0.fc.fVars), (vi x0.fc.fTemps), (vs x0.fc.fArrays), (vi x0.fc.fPoints), (vi x0.fc.fExit), (vs x0.fc.fEdges), (vs x0.ffrom), (vi x0.fpoint), (vs sx0_3), (vs sx0_4), (vs x0.fscript), (vs sx0_6)], Fx0_3, Fx0_4, Fx0_6]) ((((I_7.bring 4).bring 4).bring 4).bring 4))), ?_⟩
 refine opK_calls (cap := []) (fun args w => Try.call44 args w) ?_
 refine Cv_ct (Fi := [bx g0 58 [(vs x0.fc.fVars), (vi x0.fc.fTemps), (vs x0.fc.fArrays), (vi x0.fc.fPoints), (vi x0.fc.fExit), (vs x0.fc.fEdges), (vs x0.ffrom), (vi x0.fpoint), (vs sx0_3), (vs sx0_4), (vs x0.fscript), (vs sx0_6)], Fx0_3, Fx0_4, Fx0_6]) (Fr := [bx g_2 52 (cs_api_Edge x1)]) ((((I_10.bring 3).bring 3).bring 3).bring 3) (h g0 sx0_3 Fx0_3 sx0_4 Fx0_4 sx0_6 Fx0_6 hx0_3 hx0_4 hx0_6) (fun v_21 H_17 F_22 w_18 I_19 l_24 k_20 q_23 => ?_) (fun _ _ _ _ _ q => q.elim)
 obtain ⟨r0_25, rfl, rfl, h⟩ := q_23
 refine opK_calls (cap := []) (fun args w => Try.call63 args w) ?_
 refine Cv_ct (Fi := []) (Fr := [bx g0 58 [(vs x0.fc.fVars), (vi x0.fc.fTemps), (vs x0.fc.fArrays), (vi x0.fc.fPoints), (vi x0.fc.fExit), (vs x0.fc.fEdges), (vs x0.ffrom), (vi x0.fpoint), (vs sx0_3), (vs sx0_4), (vs x0.fscript), (vs sx0_6)], Fx0_3, Fx0_4, Fx0_6, bx g_2 52 (cs_api_Edge x1)]) I_19 (h) (fun v_30 H_26 F_31 w_27 I_28 l_33 k_29 q_32 => ?_) (fun _ _ _ _ _ q => q.elim)
 obtain ⟨r0_34, r1_34, rfl, rfl, h⟩ := q_32
 refine qP_pu (pu_extract _ _ _ rfl) ?_
 refine qP_pu (pu_extract _ _ _ rfl) ?_
 have hj1 : ∀ (cp0j1_0 : Tapi_Cfg) (cp0j1_1 : Sl) (cp0j1_2 : Int) (ccp0j1_3 : (List Int)) (cp0j1_5 : Sl) (Fcp0j1_3 : Frag) (H : Hp) (w : World) (_ : RowL 2 1 cs_int64 sx0_3 ccp0j1_3 Fcp0j1_3) (_ : Inv w0 ps0 H0 H [bx g0 58 [(vs cp0j1_0.fVars), (vi cp0j1_0.fTemps), (vs cp0j1_0.fArrays), (vi cp0j1_0.fPoints), (vi cp0j1_0.fExit), (vs cp0j1_0.fEdges), (vs cp0j1_1), (vi cp0j1_2), (vs sx0_3), (vs sx0_4), (vs cp0j1_5), (vs sx0_6)], bx g_2 52 (cs_api_Edge x1), Fx0_4, Fx0_6, Fcp0j1_3] w) (_ : T_gnomon_step_state_gives_of_gnomon_num_Mul_j1 r1_34 cp0j1_0 cp0j1_1 cp0j1_2 ccp0j1_3 x0_4 cp0j1_5 x0_6 x1 H K), F58_j1 (vi r1_34) w R E := by
  intro cp0j1_0 cp0j1_1 cp0j1_2 ccp0j1_3 cp0j1_5 Fcp0j1_3 H w hcp0j1_3 I h
  unfold F58_j1
  intro _
  unfold T_gnomon_step_state_gives_of_gnomon_num_Mul_j1 at h
  exact hR r1_34 (Tstep_state.mk cp0j1_0 cp0j1_1 cp0j1_2 (Sl.mk none 0 0) (Sl.mk none 0 0) cp0j1_5 (Sl.mk none 0 0)) ccp0j1_3 x0_4 x0_6 sx0_3 Fcp0j1_3 sx0_4 Fx0_4 sx0_6 Fx0_6 H _ hcp0j1_3 hx0_4 hx0_6 (((((I.bring 1).drop.bring 2).bring 2).bring 3).bring 3) h
 refine xcut_i fun j1 hx1 => ?_
 refine opK_pu (pu_eql _ _ _ _ _ _) ?_
 refine xcond_p (fun c_49 => ?_) (fun c_49 => ?_)
 ·replace h := h.1 c_49
  refine s_dX I_28 fun w_35 I_36 => ?_
  refine qP_pu (pu_nilp _) ?_
  refine qP_pu pu_fa_58_3 ?_
  refine qP_pu pu_fa_52_3 ?_
  refine qL_ld (ld1 Try.isAgg27 (I_36.at1 (o := 8) (vs := [(vs sx0_3)]) (nb rfl) rfl)) ?_
  refine qL_ld (ld1 Try.isAgg3 ((I_36.bring 4).at1 (o := 3) (vs := [(vi x1.fDst)]) (nb rfl) rfl)) ?_
  obtain ⟨h_39, x_37, h_40, h⟩ := h
  obtain ⟨g_38, a_42, h_41, h_43⟩ := hx0_3.addr h_40
  refine qP_pu (pu_ix_27 h_41 _ _ _ _ h_39 (hx0_3.lt h_39 h_40)) ?_
  refine s_rowst (x := r0_34) (I_36.bring 1) hx0_3 h_41 (List.getElem?_eq_some_iff.1 h_40).1 Try.sizeOf2 rfl fun F_44 w_45 h_46 I_47 k_48 => ?_
  exact hx1 _ _ (hj1 x0.fc x0.ffrom x0.fpoint ((x0_3).set (x1.fDst : Int).toNat r0_34) x0.fscript F_44 H_26 _ h_46 ((((I_47.bring 3).bring 3).bring 4).bring 4) h)
 ·replace h := h.2 c_49
  exact hx1 _ _ (hj1 x0.fc x0.ffrom x0.fpoint x0_3 x0.fscript Fx0_3 H_26 _ hx0_3 (((((I_28.bring 1).bring 3).bring 3).bring 4).bring 4) h)
theorem L_gnomon_step_state_gives_of_gnomon_num_Mul (x0 : Tstep_state) (x0_3 : (List Int)) (x0_4 : (List (List Int))) (x0_6 : (List Tapi_Event)) (x1 : Tapi_Edge) {H : Hp} {K : Int → Tstep_state → (List Int) → (List (List Int)) → (List Tapi_Event) → Hp → Prop} (h : T_gnomon_step_state_gives_of_gnomon_num_Mul x0 x0_3 x0_4 x0_6 x1 H K) : C_gnomon_step_state_gives_of_gnomon_num_Mul x0 x0_3 x0_4 x0_6 x1 H K := by
 intro g0 sx0_3 Fx0_3 sx0_4 Fx0_4 sx0_6 Fx0_6 hx0_3 hx0_4 hx0_6 w I
 refine F58_ok ?_
 refine LF_gnomon_step_state_gives_of_gnomon_num_Mul x0 x0_3 x0_4 x0_6 x1 g0 sx0_3 Fx0_3 sx0_4 Fx0_4 sx0_6 Fx0_6 hx0_3 hx0_4 hx0_6 I (fun r0 y0 y0_3 y0_4 y0_6 sy0_3 Fy0_3 sy0_4 Fy0_4 sy0_6 Fy0_6 H' w' khy0_3 khy0_4 khy0_6 I' hk => ⟨H', _, I', r0, y0, y0_3, y0_4, y0_6, sy0_3, Fy0_3, sy0_4, Fy0_4, sy0_6, Fy0_6, rfl, rfl, khy0_3, khy0_4, khy0_6, hk⟩) h


/- function 35: (*gnomon/step.state).multiplies -/
def T_gnomon_step_state_multiplies (x0 : Tstep_state) (x0_3 : (List Int)) (x0_4 : (List (List Int))) (x0_6 : (List Tapi_Event)) (x1 : Tapi_Edge) (H : Hp) (K : Int → Tstep_state → (List Int) → (List (List Int)) → (List Tapi_Event) → Hp → Prop) : Prop :=
 C_gnomon_step_state_gives_of_gnomon_num_Mul (Tstep_state.mk x0.fc x0.ffrom x0.fpoint (Sl.mk none 0 0) (Sl.mk none 0 0) x0.fscript (Sl.mk none 0 0)) x0_3 x0_4 x0_6 x1 H (fun (r0_14 : Int) (y0_14 : Tstep_state) (y0_3_14 : (List Int)) (y0_4_14 : (List (List Int))) (y0_6_14 : (List Tapi_Event)) (H_6 : Hp) => 
 K r0_14 (Tstep_state.mk ((y0_14).fc) ((y0_14).ffrom) ((y0_14).fpoint) (Sl.mk none 0 0) (Sl.mk none 0 0) ((y0_14).fscript) (Sl.mk none 0 0)) y0_3_14 y0_4_14 y0_6_14 H_6)
theorem LF_gnomon_step_state_multiplies (x0 : Tstep_state) (x0_3 : (List Int)) (x0_4 : (List (List Int))) (x0_6 : (List Tapi_Event)) (x1 : Tapi_Edge) (g0 : Nat) (sx0_3 : Sl) (Fx0_3 : Frag) (sx0_4 : Sl) (Fx0_4 : Frag) (sx0_6 : Sl) (Fx0_6 : Frag) (hx0_3 : RowL 2 1 cs_int64 sx0_3 x0_3 Fx0_3) (hx0_4 : RowsL 27 2 1 cs_int64 sx0_4 x0_4 Fx0_4) (hx0_6 : RowL 74 3 cs_api_Event sx0_6 x0_6 Fx0_6) {w0 w : World} {ps0 : Nat → Prop} {H0 H : Hp} {K : Int → Tstep_state → (List Int) → (List (List Int)) → (List Tapi_Event) → Hp → Prop} {R : Value → World → Prop} {E : Pan} (I : Inv w0 ps0 H0 H [bx g0 58 [(vs x0.fc.fVars), (vi x0.fc.fTemps), (vs x0.fc.fArrays), (vi x0.fc.fPoints), (vi x0.fc.fExit), (vs x0.fc.fEdges), (vs x0.ffrom), (vi x0.fpoint), (vs sx0_3), (vs sx0_4), (vs x0.fscript), (vs sx0_6)], Fx0_3, Fx0_4, Fx0_6] w) (hR : ∀ (r0 : Int) (y0 : Tstep_state) (y0_3 : (List Int)) (y0_4 : (List (List Int))) (y0_6 : (List Tapi_Event)) (sy0_3 : Sl) (Fy0_3 : Frag) (sy0_4 : Sl) (Fy0_4 : Frag) (sy0_6 : Sl) (Fy0_6 : Frag) (H' : Hp) (w' : World) (_ : RowL 2 1 cs_int64 sy0_3 y0_3 Fy0_3) (_ : RowsL 27 2 1 cs_int64 sy0_4 y0_4 Fy0_4) (_ : RowL 74 3 cs_api_Event sy0_6 y0_6 Fy0_6) (_ : Inv w0 ps0 H0 H' [bx g0 58 [(vs y0.fc.fVars), (vi y0.fc.fTemps), (vs y0.fc.fArrays), (vi y0.fc.fPoints), (vi y0.fc.fExit), (vs y0.fc.fEdges), (vs y0.ffrom), (vi y0.fpoint), (vs sy0_3), (vs sy0_4), (vs y0.fscript), (vs sy0_6)], Fy0_3, Fy0_4, Fy0_6] w') (_ : K r0 y0 y0_3 y0_4 y0_6 H'), R (vi r0) w') (h : T_gnomon_step_state_multiplies x0 x0_3 x0_4 x0_6 x1 H K) : F35 (Value.pointer (some ⟨g0, 0, none⟩)) (Value.agg (cs_api_Edge x1).toArray) w R E := by
 unfold T_gnomon_step_state_multiplies at h
 unfold F35
 refine s_box I (cs := (cs_api_Edge x1)) rfl fun g_2 w_3 I_4 k_5 => ?_
 refine opK_ld (ldA Try.isAgg52 Try.sizeOf52 rfl (I_4.at1 (o := 0) (vs := (cs_api_Edge x1)) (nb rfl) rfl)) ?_
 refine opK_calls (cap := []) (fun args w => Try.call58 args w) ?_
 refine Cv_ct (Fi := [bx g0 58 [(vs x0.fc.fVars), (vi x0.fc.fTemps), (vs x0.fc.fArrays), (vi x0.fc.fPoints), (vi x0.fc.fExit), (vs x0.fc.fEdges), (vs x0.ffrom), (vi x0.fpoint), (vs sx0_3), (vs sx0_4), (vs x0.fscript), (vs sx0_6)], Fx0_3, Fx0_4, Fx0_6]) (Fr := [bx g_2 52 (cs_api_Edge x1)]) ((((I_4.bring 4).bring 4).bring 4).bring 4) (h g0 sx0_3 Fx0_3 sx0_4 Fx0_4 sx0_6 Fx0_6 hx0_3 hx0_4 hx0_6) (fun v_10 H_6 F_11 w_7 I_8 l_13 k_9 q_12 => ?_) (fun _ _ _ _ _ q => q.elim)
 obtain ⟨r0_14, y0_14, y0_3_14, y0_4_14, y0_6_14, sy0_3_14, Fy0_3_14, sy0_4_14, Fy0_4_14, sy0_6_14, Fy0_6_14, rfl, rfl, hy0_3_14, hy0_4_14, hy0_6_14, h⟩ := q_12
 exact hR r0_14 (Tstep_state.mk ((y0_14).fc) ((y0_14).ffrom) ((y0_14).fpoint) (Sl.mk none 0 0) (Sl.mk none 0 0) ((y0_14).fscript) (Sl.mk none 0 0)) y0_3_14 y0_4_14 y0_6_14 sy0_3_14 Fy0_3_14 sy0_4_14 Fy0_4_14 sy0_6_14 Fy0_6_14 H_6 _ hy0_3_14 hy0_4_14 hy0_6_14 (((((I_8.bring 4).drop.bring 3).bring 3).bring 3).bring 3) h
theorem L_gnomon_step_state_multiplies (x0 : Tstep_state) (x0_3 : (List Int)) (x0_4 : (List (List Int))) (x0_6 : (List Tapi_Event)) (x1 : Tapi_Edge) {H : Hp} {K : Int → Tstep_state → (List Int) → (List (List Int)) → (List Tapi_Event) → Hp → Prop} (h : T_gnomon_step_state_multiplies x0 x0_3 x0_4 x0_6 x1 H K) : C_gnomon_step_state_multiplies x0 x0_3 x0_4 x0_6 x1 H K := by
 intro g0 sx0_3 Fx0_3 sx0_4 Fx0_4 sx0_6 Fx0_6 hx0_3 hx0_4 hx0_6 w I
 refine F35_ok ?_
 refine LF_gnomon_step_state_multiplies x0 x0_3 x0_4 x0_6 x1 g0 sx0_3 Fx0_3 sx0_4 Fx0_4 sx0_6 Fx0_6 hx0_3 hx0_4 hx0_6 I (fun r0 y0 y0_3 y0_4 y0_6 sy0_3 Fy0_3 sy0_4 Fy0_4 sy0_6 Fy0_6 H' w' khy0_3 khy0_4 khy0_6 I' hk => ⟨H', _, I', r0, y0, y0_3, y0_4, y0_6, sy0_3, Fy0_3, sy0_4, Fy0_4, sy0_6, Fy0_6, rfl, rfl, khy0_3, khy0_4, khy0_6, hk⟩) h


/- function 37: (*gnomon/step.state).rests -/
def T_gnomon_step_state_rests (x0 : Tstep_state) (x0_3 : (List Int)) (x0_4 : (List (List Int))) (x0_6 : (List Tapi_Event)) (x1 : Tapi_Edge) (H : Hp) (K : Int → Tstep_state → (List Int) → (List (List Int)) → (List Tapi_Event) → Hp → Prop) : Prop :=
 C_gnomon_step_state_gives_of_gnomon_num_Rem (Tstep_state.mk x0.fc x0.ffrom x0.fpoint (Sl.mk none 0 0) (Sl.mk none 0 0) x0.fscript (Sl.mk none 0 0)) x0_3 x0_4 x0_6 x1 H (fun (r0_14 : Int) (y0_14 : Tstep_state) (y0_3_14 : (List Int)) (y0_4_14 : (List (List Int))) (y0_6_14 : (List Tapi_Event)) (H_6 : Hp) => 
 K r0_14 (Tstep_state.mk ((y0_14).fc) ((y0_14).ffrom) ((y0_14).fpoint) (Sl.mk none 0 0) (Sl.mk none 0 0) ((y0_14).fscript) (Sl.mk none 0 0)) y0_3_14 y0_4_14 y0_6_14 H_6)
theorem LF_gnomon_step_state_rests (x0 : Tstep_state) (x0_3 : (List Int)) (x0_4 : (List (List Int))) (x0_6 : (List Tapi_Event)) (x1 : Tapi_Edge) (g0 : Nat) (sx0_3 : Sl) (Fx0_3 : Frag) (sx0_4 : Sl) (Fx0_4 : Frag) (sx0_6 : Sl) (Fx0_6 : Frag) (hx0_3 : RowL 2 1 cs_int64 sx0_3 x0_3 Fx0_3) (hx0_4 : RowsL 27 2 1 cs_int64 sx0_4 x0_4 Fx0_4) (hx0_6 : RowL 74 3 cs_api_Event sx0_6 x0_6 Fx0_6) {w0 w : World} {ps0 : Nat → Prop} {H0 H : Hp} {K : Int → Tstep_state → (List Int) → (List (List Int)) → (List Tapi_Event) → Hp → Prop} {R : Value → World → Prop} {E : Pan} (I : Inv w0 ps0 H0 H [bx g0 58 [(vs x0.fc.fVars), (vi x0.fc.fTemps), (vs x0.fc.fArrays), (vi x0.fc.fPoints), (vi x0.fc.fExit), (vs x0.fc.fEdges), (vs x0.ffrom), (vi x0.fpoint), (vs sx0_3), (vs sx0_4), (vs x0.fscript), (vs sx0_6)], Fx0_3, Fx0_4, Fx0_6] w) (hR : ∀ (r0 : Int) (y0 : Tstep_state) (y0_3 : (List Int)) (y0_4 : (List (List Int))) (y0_6 : (List Tapi_Event)) (sy0_3 : Sl) (Fy0_3 : Frag) (sy0_4 : Sl) (Fy0_4 : Frag) (sy0_6 : Sl) (Fy0_6 : Frag) (H' : Hp) (w' : World) (_ : RowL 2 1 cs_int64 sy0_3 y0_3 Fy0_3) (_ : RowsL 27 2 1 cs_int64 sy0_4 y0_4 Fy0_4) (_ : RowL 74 3 cs_api_Event sy0_6 y0_6 Fy0_6) (_ : Inv w0 ps0 H0 H' [bx g0 58 [(vs y0.fc.fVars), (vi y0.fc.fTemps), (vs y0.fc.fArrays), (vi y0.fc.fPoints), (vi y0.fc.fExit), (vs y0.fc.fEdges), (vs y0.ffrom), (vi y0.fpoint), (vs sy0_3), (vs sy0_4), (vs y0.fscript), (vs sy0_6)], Fy0_3, Fy0_4, Fy0_6] w') (_ : K r0 y0 y0_3 y0_4 y0_6 H'), R (vi r0) w') (h : T_gnomon_step_state_rests x0 x0_3 x0_4 x0_6 x1 H K) : F37 (Value.pointer (some ⟨g0, 0, none⟩)) (Value.agg (cs_api_Edge x1).toArray) w R E := by
 unfold T_gnomon_step_state_rests at h
 unfold F37
 refine s_box I (cs := (cs_api_Edge x1)) rfl fun g_2 w_3 I_4 k_5 => ?_
 refine opK_ld (ldA Try.isAgg52 Try.sizeOf52 rfl (I_4.at1 (o := 0) (vs := (cs_api_Edge x1)) (nb rfl) rfl)) ?_
 refine opK_calls (cap := []) (fun args w => Try.call58 args w) ?_
 refine Cv_ct (Fi := [bx g0 58 [(vs x0.fc.fVars), (vi x0.fc.fTemps), (vs x0.fc.fArrays), (vi x0.fc.fPoints), (vi x0.fc.fExit), (vs x0.fc.fEdges), (vs x0.ffrom), (vi x0.fpoint), (vs sx0_3), (vs sx0_4), (vs x0.fscript), (vs sx0_6)], Fx0_3, Fx0_4, Fx0_6]) (Fr := [bx g_2 52 (cs_api_Edge x1)]) ((((I_4.bring 4).bring 4).bring 4).bring 4) (h g0 sx0_3 Fx0_3 sx0_4 Fx0_4 sx0_6 Fx0_6 hx0_3 hx0_4 hx0_6) (fun v_10 H_6 F_11 w_7 I_8 l_13 k_9 q_12 => ?_) (fun _ _ _ _ _ q => q.elim)
 obtain ⟨r0_14, y0_14, y0_3_14, y0_4_14, y0_6_14, sy0_3_14, Fy0_3_14, sy0_4_14, Fy0_4_14, sy0_6_14, Fy0_6_14, rfl, rfl, hy0_3_14, hy0_4_14, hy0_6_14, h⟩ := q_12
 exact hR r0_14 (Tstep_state.mk ((y0_14).fc) ((y0_14).ffrom) ((y0_14).fpoint) (Sl.mk none 0 0) (Sl.mk none 0 0) ((y0_14).fscript) (Sl.mk none 0 0)) y0_3_14 y0_4_14 y0_6_14 sy0_3_14 Fy0_3_14 sy0_4_14 Fy0_4_14 sy0_6_14 Fy0_6_14 H_6 _ hy0_3_14 hy0_4_14 hy0_6_14 (((((I_8.bring 4).drop.bring 3).bring 3).bring 3).bring 3) h
theorem L_gnomon_step_state_rests (x0 : Tstep_state) (x0_3 : (List Int)) (x0_4 : (List (List Int))) (x0_6 : (List Tapi_Event)) (x1 : Tapi_Edge) {H : Hp} {K : Int → Tstep_state → (List Int) → (List (List Int)) → (List Tapi_Event) → Hp → Prop} (h : T_gnomon_step_state_rests x0 x0_3 x0_4 x0_6 x1 H K) : C_gnomon_step_state_rests x0 x0_3 x0_4 x0_6 x1 H K := by
 intro g0 sx0_3 Fx0_3 sx0_4 Fx0_4 sx0_6 Fx0_6 hx0_3 hx0_4 hx0_6 w I
 refine F37_ok ?_
 refine LF_gnomon_step_state_rests x0 x0_3 x0_4 x0_6 x1 g0 sx0_3 Fx0_3 sx0_4 Fx0_4 sx0_6 Fx0_6 hx0_3 hx0_4 hx0_6 I (fun r0 y0 y0_3 y0_4 y0_6 sy0_3 Fy0_3 sy0_4 Fy0_4 sy0_6 Fy0_6 H' w' khy0_3 khy0_4 khy0_6 I' hk => ⟨H', _, I', r0, y0, y0_3, y0_4, y0_6, sy0_3, Fy0_3, sy0_4, Fy0_4, sy0_6, Fy0_6, rfl, rfl, khy0_3, khy0_4, khy0_6, hk⟩) h


/- function 42: (*gnomon/step.state).fails -/
def T_gnomon_step_state_fails (x0 : Tstep_state) (x0_3 : (List Int)) (x0_4 : (List (List Int))) (x0_6 : (List Tapi_Event)) (_x1 : Tapi_Edge) (H : Hp) (K : Int → Tstep_state → (List Int) → (List (List Int)) → (List Tapi_Event) → Hp → Prop) : Prop :=
 (x0_6.length + ([(Tapi_Event.mk false 0 false)] : List Tapi_Event).length) * 25 ≤ 140737488355328 ∧
 K 4 (Tstep_state.mk x0.fc x0.ffrom x0.fpoint (Sl.mk none 0 0) (Sl.mk none 0 0) x0.fscript (Sl.mk none 0 0)) x0_3 x0_4 (x0_6 ++ [(Tapi_Event.mk false 0 false)]) H
theorem LF_gnomon_step_state_fails (x0 : Tstep_state) (x0_3 : (List Int)) (x0_4 : (List (List Int))) (x0_6 : (List Tapi_Event)) (x1 : Tapi_Edge) (g0 : Nat) (sx0_3 : Sl) (Fx0_3 : Frag) (sx0_4 : Sl) (Fx0_4 : Frag) (sx0_6 : Sl) (Fx0_6 : Frag) (hx0_3 : RowL 2 1 cs_int64 sx0_3 x0_3 Fx0_3) (hx0_4 : RowsL 27 2 1 cs_int64 sx0_4 x0_4 Fx0_4) (hx0_6 : RowL 74 3 cs_api_Event sx0_6 x0_6 Fx0_6) {w0 w : World} {ps0 : Nat → Prop} {H0 H : Hp} {K : Int → Tstep_state → (List Int) → (List (List Int)) → (List Tapi_Event) → Hp → Prop} {R : Value → World → Prop} {E : Pan} (I : Inv w0 ps0 H0 H [bx g0 58 [(vs x0.fc.fVars), (vi x0.fc.fTemps), (vs x0.fc.fArrays), (vi x0.fc.fPoints), (vi x0.fc.fExit), (vs x0.fc.fEdges), (vs x0.ffrom), (vi x0.fpoint), (vs sx0_3), (vs sx0_4), (vs x0.fscript), (vs sx0_6)], Fx0_3, Fx0_4, Fx0_6] w) (hR : ∀ (r0 : Int) (y0 : Tstep_state) (y0_3 : (List Int)) (y0_4 : (List (List Int))) (y0_6 : (List Tapi_Event)) (sy0_3 : Sl) (Fy0_3 : Frag) (sy0_4 : Sl) (Fy0_4 : Frag) (sy0_6 : Sl) (Fy0_6 : Frag) (H' : Hp) (w' : World) (_ : RowL 2 1 cs_int64 sy0_3 y0_3 Fy0_3) (_ : RowsL 27 2 1 cs_int64 sy0_4 y0_4 Fy0_4) (_ : RowL 74 3 cs_api_Event sy0_6 y0_6 Fy0_6) (_ : Inv w0 ps0 H0 H' [bx g0 58 [(vs y0.fc.fVars), (vi y0.fc.fTemps), (vs y0.fc.fArrays), (vi y0.fc.fPoints), (vi y0.fc.fExit), (vs y0.fc.fEdges), (vs y0.ffrom), (vi y0.fpoint), (vs sy0_3), (vs sy0_4), (vs y0.fscript), (vs sy0_6)], Fy0_3, Fy0_4, Fy0_6] w') (_ : K r0 y0 y0_3 y0_4 y0_6 H'), R (vi r0) w') (h : T_gnomon_step_state_fails x0 x0_3 x0_4 x0_6 x1 H K) : F42 (Value.pointer (some ⟨g0, 0, none⟩)) (Value.agg (cs_api_Edge x1).toArray) w R E := by
 unfold T_gnomon_step_state_fails at h
 unfold F42
 refine s_box I (cs := (cs_api_Edge x1)) rfl fun g_2 w_3 I_4 k_5 => ?_
 refine opK_pu (pu_nilp _) ?_
 refine opK_pu pu_fa_58_6 ?_
 refine opK_ld (ld1 Try.isAgg31 ((I_4.bring 1).at1 (o := 11) (vs := [(vs sx0_6)]) (nb rfl) rfl)) ?_
 refine opK_pu (pu_bld_74 ) ?_
 refine s_bs (e := 74) (c := cs_api_Event) (xs := [(Tapi_Event.mk false 0 false)]) I_4 (bs_31_1 _ _ _) rfl rfl cs_api_Event_l cs_api_Event_o (nb rfl) fun s_7 F_8 w_9 h_10 I_11 k_12 => ?_
 obtain ⟨h_19, h⟩ := h
 refine app_31 (s := sx0_6) (xs := x0_6) (I_11.bring 5) hx0_6 (h_10.srcO ((I_11.bring 5).bring 1)) h_19 fun s_13 F_14 w_15 h_16 I_17 k_18 => ?_
 refine opK_pu (pu_nilp _) ?_
 refine opK_pu pu_fa_58_6 ?_
 refine s_store ((I_17.bring 1).drop.bring 2) Try.sizeOf31 (vs := [(vs s_13)]) (cs' := [(vs x0.fc.fVars), (vi x0.fc.fTemps), (vs x0.fc.fArrays), (vi x0.fc.fPoints), (vi x0.fc.fExit), (vs x0.fc.fEdges), (vs x0.ffrom), (vi x0.fpoint), (vs sx0_3), (vs sx0_4), (vs x0.fscript), (vs s_13)]) rfl rfl (nb rfl) rfl rfl fun w_20 I_21 k_22 => ?_
 exact hR 4 (Tstep_state.mk x0.fc x0.ffrom x0.fpoint (Sl.mk none 0 0) (Sl.mk none 0 0) x0.fscript (Sl.mk none 0 0)) x0_3 x0_4 (x0_6 ++ [(Tapi_Event.mk false 0 false)]) sx0_3 Fx0_3 sx0_4 Fx0_4 s_13 F_14 H _ hx0_3 hx0_4 h_16 (((((I_21.bring 2).drop.bring 1).bring 3).bring 3).bring 3) h
theorem L_gnomon_step_state_fails (x0 : Tstep_state) (x0_3 : (List Int)) (x0_4 : (List (List Int))) (x0_6 : (List Tapi_Event)) (x1 : Tapi_Edge) {H : Hp} {K : Int → Tstep_state → (List Int) → (List (List Int)) → (List Tapi_Event) → Hp → Prop} (h : T_gnomon_step_state_fails x0 x0_3 x0_4 x0_6 x1 H K) : C_gnomon_step_state_fails x0 x0_3 x0_4 x0_6 x1 H K := by
 intro g0 sx0_3 Fx0_3 sx0_4 Fx0_4 sx0_6 Fx0_6 hx0_3 hx0_4 hx0_6 w I
 refine F42_ok ?_
 refine LF_gnomon_step_state_fails x0 x0_3 x0_4 x0_6 x1 g0 sx0_3 Fx0_3 sx0_4 Fx0_4 sx0_6 Fx0_6 hx0_3 hx0_4 hx0_6 I (fun r0 y0 y0_3 y0_4 y0_6 sy0_3 Fy0_3 sy0_4 Fy0_4 sy0_6 Fy0_6 H' w' khy0_3 khy0_4 khy0_6 I' hk => ⟨H', _, I', r0, y0, y0_3, y0_4, y0_6, sy0_3, Fy0_3, sy0_4, Fy0_4, sy0_6, Fy0_6, rfl, rfl, khy0_3, khy0_4, khy0_6, hk⟩) h


/- function 17: gnomon/step.table -/
def T_gnomon_step_table (H : Hp) (K : Hp → Prop) : Prop :=
 K H
theorem LF_gnomon_step_table {w0 w : World} {ps0 : Nat → Prop} {H0 H : Hp} {K : Hp → Prop} {R : Value → World → Prop} {E : Pan} (I : Inv w0 ps0 H0 H [] w) (hR : ∀ (H' : Hp) (w' : World) (_ : Inv w0 ps0 H0 H' [] w') (_ : K H'), R (Value.agg #[Value.nilFunc, (Value.func (.func 30) #[] #[]), (Value.func (.func 31) #[] #[]), (Value.func (.func 32) #[] #[]), (Value.func (.func 33) #[] #[]), (Value.func (.func 34) #[] #[]), (Value.func (.func 35) #[] #[]), (Value.func (.func 36) #[] #[]), (Value.func (.func 37) #[] #[]), (Value.func (.func 38) #[] #[]), (Value.func (.func 39) #[] #[]), (Value.func (.func 40) #[] #[]), (Value.func (.func 30) #[] #[]), (Value.func (.func 41) #[] #[]), (Value.func (.func 42) #[] #[])]) w') (h : T_gnomon_step_table H K) : F17 w R E := by
 unfold T_gnomon_step_table at h
 unfold F17
 refine s_alloc I Try.zeroValue63 (cs := [Value.nilFunc, Value.nilFunc, Value.nilFunc, Value.nilFunc, Value.nilFunc, Value.nilFunc, Value.nilFunc, Value.nilFunc, Value.nilFunc, Value.nilFunc, Value.nilFunc, Value.nilFunc, Value.nilFunc, Value.nilFunc, Value.nilFunc]) rfl fun g_2 w_3 I_4 k_5 => ?_
 refine opK_pu pu_blf_63_30_31_32_33_34_35_36_37_38_39_40_30_41_42 ?_
 refine s_store I_4 Try.sizeOf63 (vs := [Value.nilFunc, (Value.func (.func 30) #[] #[]), (Value.func (.func 31) #[] #[]), (Value.func (.func 32) #[] #[]), (Value.func (.func 33) #[] #[]), (Value.func (.func 34) #[] #[]), (Value.func (.func 35) #[] #[]), (Value.func (.func 36) #[] #[]), (Value.func (.func 37) #[] #[]), (Value.func (.func 38) #[] #[]), (Value.func (.func 39) #[] #[]), (Value.func (.func 40) #[] #[]), (Value.func (.func 30) #[] #[]), (Value.func (.func 41) #[] #[]), (Value.func (.func 42) #[] #[])]) (cs' := [Value.nilFunc, (Value.func (.func 30) #[] #[]), (Value.func (.func 31) #[] #[]), (Value.func (.func 32) #[] #[]), (Value.func (.func 33) #[] #[]), (Value.func (.func 34) #[] #[]), (Value.func (.func 35) #[] #[]), (Value.func (.func 36) #[] #[]), (Value.func (.func 37) #[] #[]), (Value.func (.func 38) #[] #[]), (Value.func (.func 39) #[] #[]), (Value.func (.func 40) #[] #[]), (Value.func (.func 30) #[] #[]), (Value.func (.func 41) #[] #[]), (Value.func (.func 42) #[] #[])]) rfl rfl (nb rfl) rfl rfl fun w_6 I_7 k_8 => ?_
 refine xcell_A Try.isAgg63 Try.sizeOf63 rfl (I_7.at1 (o := 0) (vs := [Value.nilFunc, (Value.func (.func 30) #[] #[]), (Value.func (.func 31) #[] #[]), (Value.func (.func 32) #[] #[]), (Value.func (.func 33) #[] #[]), (Value.func (.func 34) #[] #[]), (Value.func (.func 35) #[] #[]), (Value.func (.func 36) #[] #[]), (Value.func (.func 37) #[] #[]), (Value.func (.func 38) #[] #[]), (Value.func (.func 39) #[] #[]), (Value.func (.func 40) #[] #[]), (Value.func (.func 30) #[] #[]), (Value.func (.func 41) #[] #[]), (Value.func (.func 42) #[] #[])]) (nb rfl) rfl) ?_
 exact hR H _ I_7.drop h
theorem L_gnomon_step_table {H : Hp} {K : Hp → Prop} (h : T_gnomon_step_table H K) : C_gnomon_step_table H K := by
 intro w I
 refine F17_ok ?_
 refine LF_gnomon_step_table I (fun H' w' I' hk => ⟨H', _, I', rfl, rfl, hk⟩) h


/- function 57: gnomon/num.Not -/
def T_gnomon_num_Not (x0 : Int) (H : Hp) (K : Int → Hp → Prop) : Prop :=
 (((decide (x0 < 1)) || (decide (6 < x0))) = true →
 K 0 H) ∧
 (((decide (x0 < 1)) || (decide (6 < x0))) = false →
 (0 : Int) ≤ x0 ∧ (x0 : Int) < 7 ∧
 K (([0, 6, 5, 4, 3, 2, 1] : List Int).getD (x0 : Int).toNat 0) H)
theorem LF_gnomon_num_Not (x0 : Int) {w0 w : World} {ps0 : Nat → Prop} {H0 H : Hp} {K : Int → Hp → Prop} {R : Value → World → Prop} {E : Pan} (I : Inv w0 ps0 H0 H [] w) (hR : ∀ (r0 : Int) (H' : Hp) (w' : World) (_ : Inv w0 ps0 H0 H' [] w') (_ : K r0 H'), R (vi r0) w') (h : T_gnomon_num_Not x0 H K) : F57 (vi x0) w R E := by
 unfold T_gnomon_num_Not at h
 unfold F57
 refine opK_pu (pu_lss _ _ _ _ _ _) ?_
 try simp only [gval_b]
 refine opK_pu (Pu.g fun hb => by have hb_0 := hb; first | exact (pu_gtr _ _ _ _ _ _) | (simp only [gv_t hb_0]; exact (pu_gtr _ _ _ _ _ _)) | (simp only [gval_t hb_0, gv_t hb_0, gv_t hb, gva_ff hb_0, gv_n]; exact (pu_gtr _ _ _ _ _ _))) ?_
 refine opK_pu (pu_or _ _) ?_
 refine xcond_b (fun c_3 => ?_) (fun c_3 => ?_)
 ·replace h := h.1 c_3
  exact hR 0 H _ I h
 ·replace h := h.2 c_3
  refine opK_pu (pu_bla_110_0_1_2_3_4_5_6 _ _ _ _ _ _ _) ?_
  obtain ⟨h_1, h_2, h⟩ := h
  refine opK_pu (pu_ixa_110 _ _ _ _ _ _ _ _ _ h_1 h_2) ?_
  exact hR (([0, 6, 5, 4, 3, 2, 1] : List Int).getD (x0 : Int).toNat 0) H _ I h
theorem L_gnomon_num_Not (x0 : Int) {H : Hp} {K : Int → Hp → Prop} (h : T_gnomon_num_Not x0 H K) : C_gnomon_num_Not x0 H K := by
 intro w I
 refine F57_ok ?_
 refine LF_gnomon_num_Not x0 I (fun r0 H' w' I' hk => ⟨H', _, I', r0, rfl, rfl, hk⟩) h


/- function 52: gnomon/cfg.has -/
def T_gnomon_cfg_has (x0 : Bool) (x1 : Bool) (x2 : Bool) (H : Hp) (K : Bool → Hp → Prop) : Prop :=
 (x0 = true →
 K x1 H) ∧
 (x0 = false →
 K x2 H)
theorem LF_gnomon_cfg_has (x0 : Bool) (x1 : Bool) (x2 : Bool) {w0 w : World} {ps0 : Nat → Prop} {H0 H : Hp} {K : Bool → Hp → Prop} {R : Value → World → Prop} {E : Pan} (I : Inv w0 ps0 H0 H [] w) (hR : ∀ (r0 : Bool) (H' : Hp) (w' : World) (_ : Inv w0 ps0 H0 H' [] w') (_ : K r0 H'), R (Value.bool r0) w') (h : T_gnomon_cfg_has x0 x1 x2 H K) : F52 (Value.bool x0) (Value.bool x1) (Value.bool x2) w R E := by
 unfold T_gnomon_cfg_has at h
 unfold F52
 refine xcond_b (fun c_1 => ?_) (fun c_1 => ?_)
 ·replace h := h.1 c_1
  exact hR x1 H _ I h
 ·replace h := h.2 c_1
  exact hR x2 H _ I h
theorem L_gnomon_cfg_has (x0 : Bool) (x1 : Bool) (x2 : Bool) {H : Hp} {K : Bool → Hp → Prop} (h : T_gnomon_cfg_has x0 x1 x2 H K) : C_gnomon_cfg_has x0 x1 x2 H K := by
 intro w I
 refine F52_ok ?_
 refine LF_gnomon_cfg_has x0 x1 x2 I (fun r0 H' w' I' hk => ⟨H', _, I', r0, rfl, rfl, hk⟩) h


/- function 16: gnomon/step.outs -/
def T_gnomon_step_outs_j1 (cs3j1 : (List (List Int))) (_cr_1j1 : Tapi_Cfg) (H : Hp) (K : Sl → Hp → Prop) : Prop :=
 ∀ (s_7 : Sl) (H_76 : Hp), Hle H H_76 → SlHH H_76 1 cs_int s_7 cs3j1 → s_7.n ≤ s_7.c →
 K s_7 H_76
def T_gnomon_step_outs_l2 (s10l2 : Sl) (s11l2 : Int) (cr_1l2 : Tapi_Cfg) (cs3l2 : (List (List Int))) (s12l2 : Int) (H : Hp) (n2 : ((List (List Int)) × Int) → Hp → Prop) (K : Sl → Hp → Prop) : Prop :=
 (s12l2 < s11l2 →
 (0 : Int) ≤ s12l2 ∧ (s12l2 : Int) < s10l2.n ∧ ∃ x_15 : Tapi_Edge, EltH H s10l2 s12l2 10 (cs_api_Edge x_15) ∧ 
 (0 : Int) ≤ x_15.fFrom ∧ ∃ xs_33 : List Int, (cs3l2)[(x_15.fFrom : Int).toNat]? = some xs_33 ∧
 (xs_33.length + ([s12l2] : List Int).length) * 9 ≤ 140737488355328 ∧
 n2 (((cs3l2).set (x_15.fFrom : Int).toNat (xs_33 ++ [s12l2])), (IntKind.wrap .i64 (s12l2 + 1))) H) ∧
 (¬ (s12l2 < s11l2) →
 T_gnomon_step_outs_j1 cs3l2 cr_1l2 H K)
def T_gnomon_step_outs (x0 : Tapi_Cfg) (H : Hp) (K : Sl → Hp → Prop) : Prop :=
 (0 : Int) ≤ x0.fPoints ∧ x0.fPoints * 25 ≤ 140737488355328 ∧
 TL (((List.replicate (x0.fPoints : Int).toNat ([] : List Int)), 0) : (List (List Int)) × Int) H fun (s : (List (List Int)) × Int) H n2 => T_gnomon_step_outs_l2 x0.fEdges (x0.fEdges.n : Int) x0 s.1 s.2 H n2 K
theorem LF_gnomon_step_outs (x0 : Tapi_Cfg) {w0 w : World} {ps0 : Nat → Prop} {H0 H : Hp} {K : Sl → Hp → Prop} {R : Value → World → Prop} {E : Pan} (I : Inv w0 ps0 H0 H [] w) (hR : ∀ (r0 : Sl) (H' : Hp) (w' : World) (_ : Inv w0 ps0 H0 H' [] w') (_ : K r0 H'), R (vs r0) w') (h : T_gnomon_step_outs x0 H K) : F16 (Value.agg (cs_api_Cfg x0).toArray) w R E := by
 unfold T_gnomon_step_outs at h
 unfold F16
 refine s_box I (cs := (cs_api_Cfg x0)) rfl fun g_2 w_3 I_4 k_5 => ?_
 refine opK_pu pu_fa_26_3 ?_
 refine opK_ld (ld1 Try.isAgg3 (I_4.at1 (o := 3) (vs := [(vi x0.fPoints)]) (nb rfl) rfl)) ?_
 obtain ⟨h_13, h_14, h⟩ := h
 refine mks_55 I_4 h_13 h_14 fun s_7 F_8 w_9 h_10 I_11 k_12 => ?_
 have hj1 : ∀ (cs3j1 : (List (List Int))) (Fs3j1 : Frag) (H : Hp) (w : World) (_ : RowsL 68 3 1 cs_int s_7 cs3j1 Fs3j1) (_ : Inv w0 ps0 H0 H [bx g_2 26 (cs_api_Cfg x0), Fs3j1] w) (_ : T_gnomon_step_outs_j1 cs3j1 x0 H K), F16_j1 (vs s_7) w R E := by
  intro cs3j1 Fs3j1 H w hs3j1 I h
  unfold F16_j1
  intro _
  unfold T_gnomon_step_outs_j1 at h
  obtain ⟨H_76, I_77, l_78, h_79, h_80⟩ := Inv.freezeLL (I.bring 1) hs3j1 (by decide)
  replace h := h s_7 H_76 l_78 h_79 h_80
  exact hR s_7 H_76 _ I_77.drop h
 refine xcut_i fun j1 hx1 => ?_
 refine opK_pu pu_fa_26_5 ?_
 refine opK_ld (ld1 Try.isAgg24 ((I_11.bring 1).at1 (o := 5) (vs := [(vs x0.fEdges)]) (nb rfl) rfl)) ?_
 refine opK_pu (pu_len_24 _ _ _) ?_
 obtain ⟨J_82, m_83, i_84, b_85⟩ := h
 refine xloop_J (J := fun n l w => ∃ (s : (List (List Int)) × Int) (H : Hp) (Fs3l2 : Frag) , n = m_83 s ∧ l = (match s with | (cs3l2, s12l2) => [(vi s12l2)]) ∧ (match s with | (cs3l2, s12l2) => RowsL 68 3 1 cs_int s_7 cs3l2 Fs3l2) ∧ (match s with | (cs3l2, s12l2) => Inv w0 ps0 H0 H [bx g_2 26 (cs_api_Cfg x0), Fs3l2] w) ∧ J_82 s H) ⟨_, ((List.replicate (x0.fPoints : Int).toNat ([] : List Int)), 0), H, F_8, rfl, rfl, (RowsL.made (e := 3) cs_int_l cs_int_o h_10), (I_11.bring 1), i_84⟩ ?_
 rintro n_86 τ_87 w next2 ⟨⟨cs3l2, s12l2⟩, H, Fs3l2, rfl, l_88, hs3l2, I, s_89⟩ hn2
 dsimp only at l_88 I hs3l2
 simp only [List.map_cons, List.map_nil, List.cons.injEq, and_true] at l_88
 have e12 := l_88
 simp only [e12]
 obtain ⟨n2, hm2, h⟩ : ∃ n2 : ((List (List Int)) × Int) → Hp → Prop, (∀ s' H', n2 s' H' → J_82 s' H' ∧ m_83 s' < m_83 (cs3l2, s12l2)) ∧ T_gnomon_step_outs_l2 x0.fEdges (x0.fEdges.n : Int) x0 cs3l2 s12l2 H n2 K := ⟨_, fun _ _ h => h, b_85 (cs3l2, s12l2) H (fun s' H' => J_82 s' H' ∧ m_83 s' < m_83 (cs3l2, s12l2)) s_89 (fun _ _ a b => ⟨a, b⟩)⟩
 unfold F16_l2
 unfold T_gnomon_step_outs_l2 at h
 refine opK_pu (pu_lss _ _ _ _ _ _) ?_
 refine xcond_p (fun c_81 => ?_) (fun c_81 => ?_)
 ·replace h := h.1 c_81
  obtain ⟨h_18, h_19, x_15, h_21, h⟩ := h
  obtain ⟨g_16, o_17, h_20, h_21⟩ := h_21
  refine opK_pu (pu_ix_24 h_20 _ _ _ _ h_18 h_19) ?_
  refine opK_ld (ldA (vs := (cs_api_Edge x_15)) Try.isAgg52 Try.sizeOf52 rfl (I.atH h_21)) ?_
  refine s_alloc I Try.zeroValue52 (cs := [(vi 0), (vi 0), (vi 0), (vi 0), (vi 0), (vi 0), (vi 0), (vi 0), (vi 0), (vi 0)]) rfl fun g_23 w_24 I_25 k_26 => ?_
  refine s_store I_25 Try.sizeOf52 (vs := (cs_api_Edge x_15)) (cs' := (cs_api_Edge x_15)) rfl rfl (nb rfl) rfl rfl fun w_27 I_28 k_29 => ?_
  refine s_dX I_28 fun w_30 I_31 => ?_
  refine qP_pu pu_fa_52_0 ?_
  refine qP_pu pu_fa_52_0 ?_
  refine qL_ld (ld1 Try.isAgg3 (I_31.at1 (o := 0) (vs := [(vi x_15.fFrom)]) (nb rfl) rfl)) ?_
  refine qL_ld (ld1 Try.isAgg3 (I_31.at1 (o := 0) (vs := [(vi x_15.fFrom)]) (nb rfl) rfl)) ?_
  obtain ⟨h_32, xs_33, h_34, h⟩ := h
  obtain ⟨ss_35, s_36, F_37, F_38, F_39, h_40, h_41, h_42, h_43, h_44, I_45⟩ := RowsL.open_ hs3l2 (I_31.bring 2) h_34
  obtain ⟨g_49, a_51, h_50, h_52⟩ := h_40.addr h_41
  refine qP_pu (pu_ix_55 h_50 _ _ _ _ h_32 (h_40.lt h_32 h_41)) ?_
  refine qL_ld (ld1 (v := (vs s_36)) Try.isAgg68 (h_40.atW I_45 h_50 h_41)) ?_
  refine s_bs (e := 3) (c := cs_int) (xs := [s12l2]) I_45 (bs_68_1 _) rfl rfl cs_int_l cs_int_o (nb rfl) fun s_54 F_55 w_56 h_57 I_58 k_59 => ?_
  refine ⟨(k_59 _ (RowL.lt_blk h_40 I_45 h_50)), (k_59 _ (I_45.bring 3).lt1), (k_59 _ (I_45.bring 3).lt1), ?_⟩
  obtain ⟨h_66, h⟩ := h
  refine app_68 (s := s_36) (xs := xs_33) (I_58.bring 2) h_42 (h_57.srcO ((I_58.bring 2).bring 1)) h_66 fun s_60 F_61 w_62 h_63 I_64 k_65 => ?_
  refine ⟨(k_65 _ ((I_58.bring 2).bring 4).lt1 (Inv.row_ne_b (((I_58.bring 2).bring 4).bring 1))), ?_⟩
  obtain ⟨g_67, a_69, h_68, h_70⟩ := h_40.addr h_41
  refine qP_pu (pu_ix_55 h_68 _ _ _ _ h_32 (h_40.lt h_32 h_41)) ?_
  refine s_rowst (x := s_60) ((I_64.bring 1).drop.bring 1) h_40 h_68 (List.getElem?_eq_some_iff.1 h_41).1 Try.sizeOf68 rfl fun F_71 w_72 h_73 I_74 k_75 => ?_
  refine opK_pu (pu_add _ _ _ _ _ _) ?_
  exact hn2 _ _ _ (hm2 _ _ h).2 ⟨(((cs3l2).set (x_15.fFrom : Int).toNat (xs_33 ++ [s12l2])), (IntKind.wrap .i64 (s12l2 + 1))), H, (F_71 ++ (F_61 ++ F_39)), rfl, rfl, (RowsL.close1 h_73 h_63 h_43), (((((I_74.bring 2).bring 2).bring 2).join3.bring 1).drop.bring 1), (hm2 _ _ h).1⟩
 ·replace h := h.2 c_81
  exact hx1 _ _ (hj1 cs3l2 Fs3l2 H _ hs3l2 ((I.bring 1).bring 1) h)
theorem L_gnomon_step_outs (x0 : Tapi_Cfg) {H : Hp} {K : Sl → Hp → Prop} (h : T_gnomon_step_outs x0 H K) : C_gnomon_step_outs x0 H K := by
 intro w I
 refine F16_ok ?_
 refine LF_gnomon_step_outs x0 I (fun r0 H' w' I' hk => ⟨H', _, I', r0, rfl, rfl, hk⟩) h


/- function 70: gnomon/gnomonref7.Neg -/
def T_gnomon_gnomonref7_Neg (x0 : Int) (H : Hp) (K : Int → Int → Hp → Prop) : Prop :=
 (x0 = (-9223372036854775808) →
 K 0 1 H) ∧
 (¬ (x0 = (-9223372036854775808)) →
 K (IntKind.wrap .i64 (0 - x0)) 0 H)
theorem LF_gnomon_gnomonref7_Neg (x0 : Int) {w0 w : World} {ps0 : Nat → Prop} {H0 H : Hp} {K : Int → Int → Hp → Prop} {R : Value → World → Prop} {E : Pan} (I : Inv w0 ps0 H0 H [] w) (hR : ∀ (r0 : Int) (r1 : Int) (H' : Hp) (w' : World) (_ : Inv w0 ps0 H0 H' [] w') (_ : K r0 r1 H'), R (Value.tuple #[(vi r0), (vi r1)]) w') (h : T_gnomon_gnomonref7_Neg x0 H K) : F70 (vi x0) w R E := by
 unfold T_gnomon_gnomonref7_Neg at h
 unfold F70
 refine opK_pu (pu_eql _ _ _ _ _ _) ?_
 refine xcond_p (fun c_1 => ?_) (fun c_1 => ?_)
 ·replace h := h.1 c_1
  exact hR 0 1 H _ I h
 ·replace h := h.2 c_1
  refine opK_pu (pu_neg _ _) ?_
  exact hR (IntKind.wrap .i64 (0 - x0)) 0 H _ I h
theorem L_gnomon_gnomonref7_Neg (x0 : Int) {H : Hp} {K : Int → Int → Hp → Prop} (h : T_gnomon_gnomonref7_Neg x0 H K) : C_gnomon_gnomonref7_Neg x0 H K := by
 intro w I
 refine F70_ok ?_
 refine LF_gnomon_gnomonref7_Neg x0 I (fun r0 r1 H' w' I' hk => ⟨H', _, I', r0, r1, rfl, rfl, hk⟩) h


/- function 71: gnomon/gnomonref7.Add -/
def T_gnomon_gnomonref7_Add (x0 : Int) (x1 : Int) (H : Hp) (K : Int → Int → Hp → Prop) : Prop :=
 ((((decide (0 < x1)) && (decide ((IntKind.wrap .i64 (9223372036854775807 - x1)) < x0))) || ((decide (x1 < 0)) && (decide (x0 < (IntKind.wrap .i64 ((-9223372036854775808) - x1)))))) = true →
 K 0 1 H) ∧
 ((((decide (0 < x1)) && (decide ((IntKind.wrap .i64 (9223372036854775807 - x1)) < x0))) || ((decide (x1 < 0)) && (decide (x0 < (IntKind.wrap .i64 ((-9223372036854775808) - x1)))))) = false →
 K (IntKind.wrap .i64 (x0 + x1)) 0 H)
theorem LF_gnomon_gnomonref7_Add (x0 : Int) (x1 : Int) {w0 w : World} {ps0 : Nat → Prop} {H0 H : Hp} {K : Int → Int → Hp → Prop} {R : Value → World → Prop} {E : Pan} (I : Inv w0 ps0 H0 H [] w) (hR : ∀ (r0 : Int) (r1 : Int) (H' : Hp) (w' : World) (_ : Inv w0 ps0 H0 H' [] w') (_ : K r0 r1 H'), R (Value.tuple #[(vi r0), (vi r1)]) w') (h : T_gnomon_gnomonref7_Add x0 x1 H K) : F71 (vi x0) (vi x1) w R E := by
 unfold T_gnomon_gnomonref7_Add at h
 unfold F71
 refine opK_pu (pu_gtr _ _ _ _ _ _) ?_
 try simp only [gval_b]
 try simp only [gval_b, gv_gv, gvl_tt, gvl_tf, gvl_ft, gvl_ff, gvg_tt, gvg_tf, gvg_ft, gvg_ff]
 refine opK_pu (Pu.g fun hb => by have hb_0 := hb; first | exact (pu_sub _ _ _ _ _ _) | (simp only [gv_t hb_0]; exact (pu_sub _ _ _ _ _ _)) | (simp only [gval_t hb_0, gv_t hb_0, gv_t hb, gva_tf hb_0, gv_n]; exact (pu_sub _ _ _ _ _ _))) ?_
 refine opK_pu (Pu.g fun hb => by have hb_0 := hb; first | exact (pu_gtr _ _ _ _ _ _) | (simp only [gv_t hb_0]; exact (pu_gtr _ _ _ _ _ _)) | (simp only [gval_t hb_0, gv_t hb_0, gv_t hb, gva_tf hb_0, gv_n]; exact (pu_gtr _ _ _ _ _ _))) ?_
 refine opK_pu (pu_and _ _) ?_
 try simp only [gval_b]
 refine opK_pu (Pu.g fun hb => by have hb_0 := hb; first | exact (pu_lss _ _ _ _ _ _) | (simp only [gv_t hb_0]; exact (pu_lss _ _ _ _ _ _)) | (simp only [gval_t hb_0, gv_t hb_0, gv_t hb, gva_ff hb_0, gv_n]; exact (pu_lss _ _ _ _ _ _))) ?_
 try simp only [gv_gv, gvl_ft]
 try simp only [gval_b, gv_gv, gvl_tt, gvl_tf, gvl_ft, gvl_ff, gvg_tt, gvg_tf, gvg_ft, gvg_ff]
 try simp only [gval_b, gv_gv, gvl_tt, gvl_tf, gvl_ft, gvl_ff, gvg_tt, gvg_tf, gvg_ft, gvg_ff]
 refine opK_pu (Pu.e (gsgg_ft _ _ _) (Pu.g fun hb => by obtain ⟨hb_0, hb_1⟩ := gg_ft hb; first | exact (pu_sub _ _ _ _ _ _) | (simp only [gv_t hb]; exact (pu_sub _ _ _ _ _ _)))) ?_
 refine opK_pu (Pu.e (gsgg_ft _ _ _) (Pu.g fun hb => by obtain ⟨hb_0, hb_1⟩ := gg_ft hb; first | exact (pu_lss _ _ _ _ _ _) | (simp only [gv_t hb]; exact (pu_lss _ _ _ _ _ _)))) ?_
 refine opK_pu (Pu.g fun hb => by have hb_0 := hb; first | exact (pu_and _ _) | (simp only [gv_t hb_0, gva_ft hb_0]; exact (pu_and _ _)) | (simp only [gval_t hb_0, gv_t hb_0, gv_t hb, gva_ff hb_0, gv_n]; exact (pu_and _ _))) ?_
 refine opK_pu (pu_or _ _) ?_
 refine xcond_b (fun c_1 => ?_) (fun c_1 => ?_)
 ·replace h := h.1 c_1
  exact hR 0 1 H _ I h
 ·replace h := h.2 c_1
  refine opK_pu (pu_add _ _ _ _ _ _) ?_
  exact hR (IntKind.wrap .i64 (x0 + x1)) 0 H _ I h
theorem L_gnomon_gnomonref7_Add (x0 : Int) (x1 : Int) {H : Hp} {K : Int → Int → Hp → Prop} (h : T_gnomon_gnomonref7_Add x0 x1 H K) : C_gnomon_gnomonref7_Add x0 x1 H K := by
 intro w I
 refine F71_ok ?_
 refine LF_gnomon_gnomonref7_Add x0 x1 I (fun r0 r1 H' w' I' hk => ⟨H', _, I', r0, r1, rfl, rfl, hk⟩) h


/- function 87: gnomon/gnomonref7.divides -/
def T_gnomon_gnomonref7_divides (x0 : Int) (x1 : Int) (H : Hp) (K : Int → Hp → Prop) : Prop :=
 (x1 = 0 →
 K 2 H) ∧
 (¬ (x1 = 0) →
 (((decide (x0 = (-9223372036854775808))) && (decide (x1 = (-1)))) = true →
 K 1 H) ∧
 (((decide (x0 = (-9223372036854775808))) && (decide (x1 = (-1)))) = false →
 K 0 H))
theorem LF_gnomon_gnomonref7_divides (x0 : Int) (x1 : Int) {w0 w : World} {ps0 : Nat → Prop} {H0 H : Hp} {K : Int → Hp → Prop} {R : Value → World → Prop} {E : Pan} (I : Inv w0 ps0 H0 H [] w) (hR : ∀ (r0 : Int) (H' : Hp) (w' : World) (_ : Inv w0 ps0 H0 H' [] w') (_ : K r0 H'), R (vi r0) w') (h : T_gnomon_gnomonref7_divides x0 x1 H K) : F87 (vi x0) (vi x1) w R E := by
 unfold T_gnomon_gnomonref7_divides at h
 unfold F87
 refine opK_pu (pu_eql _ _ _ _ _ _) ?_
 refine xcond_p (fun c_2 => ?_) (fun c_2 => ?_)
 ·replace h := h.1 c_2
  exact hR 2 H _ I h
 ·replace h := h.2 c_2
  refine opK_pu (pu_eql _ _ _ _ _ _) ?_
  try simp only [gval_b]
  refine opK_pu (Pu.g fun hb => by have hb_0 := hb; first | exact (pu_eql _ _ _ _ _ _) | (simp only [gv_t hb_0]; exact (pu_eql _ _ _ _ _ _)) | (simp only [gval_t hb_0, gv_t hb_0, gv_t hb, gva_tf hb_0, gv_n]; exact (pu_eql _ _ _ _ _ _))) ?_
  refine opK_pu (pu_and _ _) ?_
  refine xcond_b (fun c_1 => ?_) (fun c_1 => ?_)
  ·replace h := h.1 c_1
   exact hR 1 H _ I h
  ·replace h := h.2 c_1
   exact hR 0 H _ I h
theorem L_gnomon_gnomonref7_divides (x0 : Int) (x1 : Int) {H : Hp} {K : Int → Hp → Prop} (h : T_gnomon_gnomonref7_divides x0 x1 H K) : C_gnomon_gnomonref7_divides x0 x1 H K := by
 intro w I
 refine F87_ok ?_
 refine LF_gnomon_gnomonref7_divides x0 x1 I (fun r0 H' w' I' hk => ⟨H', _, I', r0, rfl, rfl, hk⟩) h


/- function 22: (*gnomon/gnomonref10.state).does -/
def T_gnomon_gnomonref10_state_does_j1 (ccp0j1_0 : (List Int)) (ccp0j1_1 : (List (List Int))) (_cr_1j1 : Tapi_Edge) (H : Hp) (K : Int → (List Int) → (List (List Int)) → Hp → Prop) : Prop :=
 K 0 ccp0j1_0 ccp0j1_1 H
def T_gnomon_gnomonref10_state_does_j2 (s7j2 : Int) (s8j2 : Int) (s20j2 : Int) (s41j2 : Bool) (ccp0j2_0 : (List Int)) (ccp0j2_1 : (List (List Int))) (cr_1j2 : Tapi_Edge) (H : Hp) (K : Int → (List Int) → (List (List Int)) → Hp → Prop) : Prop :=
 (s41j2 = true →
 C_gnomon_gnomonref7_Do (IntKind.wrap .i64 ((IntKind.wrap .i64 (5 + cr_1j2.fKind)) - 3)) s7j2 s8j2 H (fun (r0_62 : Int) (r1_62 : Int) (H_54 : Hp) => 
 (¬ (r1_62 = 0) →
 K r1_62 ccp0j2_0 ccp0j2_1 H_54) ∧
 (r1_62 = 0 →
 (0 : Int) ≤ cr_1j2.fDst ∧ ∃ x_65 : Int, (ccp0j2_0)[(cr_1j2.fDst : Int).toNat]? = some x_65 ∧
 T_gnomon_gnomonref10_state_does_j1 ((ccp0j2_0).set (cr_1j2.fDst : Int).toNat r0_62) ccp0j2_1 cr_1j2 H_54 K))) ∧
 (s41j2 = false →
 (s20j2 = 10 →
 C_gnomon_gnomonref10_state_place (Tgnomonref10_state.mk (Sl.mk none 0 0) (Sl.mk none 0 0)) ccp0j2_0 ccp0j2_1 cr_1j2.fArr s7j2 H (fun (r0_86 : Bool) (H_78 : Hp) => 
 ((!r0_86) = true →
 K 3 ccp0j2_0 ccp0j2_1 H_78) ∧
 ((!r0_86) = false →
 (0 : Int) ≤ cr_1j2.fArr ∧ ∃ xs_90 : List Int, (ccp0j2_1)[(cr_1j2.fArr : Int).toNat]? = some xs_90 ∧
 (0 : Int) ≤ s7j2 ∧ ∃ x_110 : Int, (xs_90)[(s7j2 : Int).toNat]? = some x_110 ∧
 (0 : Int) ≤ cr_1j2.fDst ∧ ∃ x_117 : Int, (ccp0j2_0)[(cr_1j2.fDst : Int).toNat]? = some x_117 ∧
 T_gnomon_gnomonref10_state_does_j1 ((ccp0j2_0).set (cr_1j2.fDst : Int).toNat x_110) ccp0j2_1 cr_1j2 H_78 K))) ∧
 (¬ (s20j2 = 10) →
 (s20j2 = 11 →
 C_gnomon_gnomonref10_state_place (Tgnomonref10_state.mk (Sl.mk none 0 0) (Sl.mk none 0 0)) ccp0j2_0 ccp0j2_1 cr_1j2.fArr s7j2 H (fun (r0_138 : Bool) (H_130 : Hp) => 
 ((!r0_138) = true →
 K 3 ccp0j2_0 ccp0j2_1 H_130) ∧
 ((!r0_138) = false →
 (0 : Int) ≤ cr_1j2.fArr ∧ ∃ xs_142 : List Int, (ccp0j2_1)[(cr_1j2.fArr : Int).toNat]? = some xs_142 ∧
 (0 : Int) ≤ s7j2 ∧ ∃ x_162 : Int, (xs_142)[(s7j2 : Int).toNat]? = some x_162 ∧
 T_gnomon_gnomonref10_state_does_j1 ccp0j2_0 ((ccp0j2_1).set (cr_1j2.fArr : Int).toNat ((xs_142).set (s7j2 : Int).toNat s8j2)) cr_1j2 H_130 K))) ∧
 (¬ (s20j2 = 11) →
 (s20j2 = 14 →
 K 4 ccp0j2_0 ccp0j2_1 H) ∧
 (¬ (s20j2 = 14) →
 T_gnomon_gnomonref10_state_does_j1 ccp0j2_0 ccp0j2_1 cr_1j2 H K))))
def T_gnomon_gnomonref10_state_does (_x0 : Tgnomonref10_state) (x0_0 : (List Int)) (x0_1 : (List (List Int))) (x1 : Tapi_Edge) (x2 : Int) (H : Hp) (K : Int → (List Int) → (List (List Int)) → Hp → Prop) : Prop :=
 C_gnomon_gnomonref10_state_value (Tgnomonref10_state.mk (Sl.mk none 0 0) (Sl.mk none 0 0)) x0_0 x0_1 x1.fA H (fun (r0_16 : Int) (H_8 : Hp) => 
 C_gnomon_gnomonref10_state_value (Tgnomonref10_state.mk (Sl.mk none 0 0) (Sl.mk none 0 0)) x0_0 x0_1 x1.fB H_8 (fun (r0_25 : Int) (H_17 : Hp) => 
 (x1.fKind = 2 →
 (0 : Int) ≤ x1.fDst ∧ ∃ x_28 : Int, (x0_0)[(x1.fDst : Int).toNat]? = some x_28 ∧
 T_gnomon_gnomonref10_state_does_j1 ((x0_0).set (x1.fDst : Int).toNat r0_16) x0_1 x1 H_17 K) ∧
 (¬ (x1.fKind = 2) →
 (x1.fKind = 9 →
 (0 : Int) ≤ x1.fDst ∧ ∃ x_42 : Int, (x0_0)[(x1.fDst : Int).toNat]? = some x_42 ∧
 T_gnomon_gnomonref10_state_does_j1 ((x0_0).set (x1.fDst : Int).toNat x2) x0_1 x1 H_17 K) ∧
 (¬ (x1.fKind = 9) →
 (x1.fKind = 3 →
 T_gnomon_gnomonref10_state_does_j2 r0_16 r0_25 x1.fKind (decide (x1.fKind = 3)) x0_0 x0_1 x1 H_17 K) ∧
 (¬ (x1.fKind = 3) →
 (x1.fKind = 4 →
 T_gnomon_gnomonref10_state_does_j2 r0_16 r0_25 x1.fKind (decide (x1.fKind = 4)) x0_0 x0_1 x1 H_17 K) ∧
 (¬ (x1.fKind = 4) →
 (x1.fKind = 5 →
 T_gnomon_gnomonref10_state_does_j2 r0_16 r0_25 x1.fKind (decide (x1.fKind = 5)) x0_0 x0_1 x1 H_17 K) ∧
 (¬ (x1.fKind = 5) →
 (x1.fKind = 6 →
 T_gnomon_gnomonref10_state_does_j2 r0_16 r0_25 x1.fKind (decide (x1.fKind = 6)) x0_0 x0_1 x1 H_17 K) ∧
 (¬ (x1.fKind = 6) →
 (x1.fKind = 7 →
 T_gnomon_gnomonref10_state_does_j2 r0_16 r0_25 x1.fKind (decide (x1.fKind = 7)) x0_0 x0_1 x1 H_17 K) ∧
 (¬ (x1.fKind = 7) →
 T_gnomon_gnomonref10_state_does_j2 r0_16 r0_25 x1.fKind (decide (x1.fKind = 8)) x0_0 x0_1 x1 H_17 K)))))))))
theorem LF_gnomon_gnomonref10_state_does (x0 : Tgnomonref10_state) (x0_0 : (List Int)) (x0_1 : (List (List Int))) (x1 : Tapi_Edge) (x2 : Int) (g0 : Nat) (sx0_0 : Sl) (Fx0_0 : Frag) (sx0_1 : Sl) (Fx0_1 : Frag) (hx0_0 : RowL 2 1 cs_int64 sx0_0 x0_0 Fx0_0) (hx0_1 : RowsL 27 2 1 cs_int64 sx0_1 x0_1 Fx0_1) {w0 w : World} {ps0 : Nat → Prop} {H0 H : Hp} {K : Int → (List Int) → (List (List Int)) → Hp → Prop} {R : Value → World → Prop} {E : Pan} (I : Inv w0 ps0 H0 H [bx g0 71 [(vs sx0_0), (vs sx0_1)], Fx0_0, Fx0_1] w) (hR : ∀ (r0 : Int) (y0_0 : (List Int)) (y0_1 : (List (List Int))) (Fy0_0 : Frag) (Fy0_1 : Frag) (H' : Hp) (w' : World) (_ : RowL 2 1 cs_int64 sx0_0 y0_0 Fy0_0) (_ : RowsL 27 2 1 cs_int64 sx0_1 y0_1 Fy0_1) (_ : Inv w0 ps0 H0 H' [bx g0 71 [(vs sx0_0), (vs sx0_1)], Fy0_0, Fy0_1] w') (_ : K r0 y0_0 y0_1 H'), R (vi r0) w') (h : T_gnomon_gnomonref10_state_does x0 x0_0 x0_1 x1 x2 H K) : F22 (Value.pointer (some ⟨g0, 0, none⟩)) (Value.agg (cs_api_Edge x1).toArray) (vi x2) w R E := by
 unfold T_gnomon_gnomonref10_state_does at h
 unfold F22
 refine s_box I (cs := (cs_api_Edge x1)) rfl fun g_2 w_3 I_4 k_5 => ?_
 refine s_dX I_4 fun w_6 I_7 => ?_
 refine qP_pu pu_fa_52_6 ?_
 refine qP_pu pu_fa_52_7 ?_
 refine qL_ld (ldA Try.isAgg50 Try.sizeOf50 rfl (I_7.at1 (o := 6) (vs := (cs_api_Operand x1.fA)) (nb rfl) rfl)) ?_
 refine qL_ld (ldA Try.isAgg50 Try.sizeOf50 rfl (I_7.at1 (o := 8) (vs := (cs_api_Operand x1.fB)) (nb rfl) rfl)) ?_
 refine opK_calls (cap := []) (fun args w => Try.call48 args w) ?_
 refine Cv_ct (Fi := [bx g0 71 [(vs sx0_0), (vs sx0_1)], Fx0_0, Fx0_1]) (Fr := [bx g_2 52 (cs_api_Edge x1)]) (((I_7.bring 3).bring 3).bring 3) (h g0 sx0_0 Fx0_0 sx0_1 Fx0_1 hx0_0 hx0_1) (fun v_12 H_8 F_13 w_9 I_10 l_15 k_11 q_14 => ?_) (fun _ _ _ _ _ q => q.elim)
 obtain ⟨r0_16, rfl, rfl, h⟩ := q_14
 refine ⟨(k_11 _ I_7.lt1 (Inv.not_in (Fi := [bx g0 71 [(vs sx0_0), (vs sx0_1)], Fx0_0, Fx0_1]) (((I_7.bring 3).bring 3).bring 3))), ?_⟩
 refine opK_calls (cap := []) (fun args w => Try.call48 args w) ?_
 refine Cv_ct (Fi := [bx g0 71 [(vs sx0_0), (vs sx0_1)], Fx0_0, Fx0_1]) (Fr := [bx g_2 52 (cs_api_Edge x1)]) (((I_10.bring 2).bring 2).bring 2) (h g0 sx0_0 Fx0_0 sx0_1 Fx0_1 hx0_0 hx0_1) (fun v_21 H_17 F_22 w_18 I_19 l_24 k_20 q_23 => ?_) (fun _ _ _ _ _ q => q.elim)
 obtain ⟨r0_25, rfl, rfl, h⟩ := q_23
 have hj1 : ∀ (ccp0j1_0 : (List Int)) (ccp0j1_1 : (List (List Int))) (Fcp0j1_0 : Frag) (Fcp0j1_1 : Frag) (H : Hp) (w : World) (_ : RowL 2 1 cs_int64 sx0_0 ccp0j1_0 Fcp0j1_0) (_ : RowsL 27 2 1 cs_int64 sx0_1 ccp0j1_1 Fcp0j1_1) (_ : Inv w0 ps0 H0 H [bx g0 71 [(vs sx0_0), (vs sx0_1)], bx g_2 52 (cs_api_Edge x1), Fcp0j1_0, Fcp0j1_1] w) (_ : T_gnomon_gnomonref10_state_does_j1 ccp0j1_0 ccp0j1_1 x1 H K), F22_j1 w R E := by
  intro ccp0j1_0 ccp0j1_1 Fcp0j1_0 Fcp0j1_1 H w hcp0j1_0 hcp0j1_1 I h
  unfold F22_j1
  intro _
  unfold T_gnomon_gnomonref10_state_does_j1 at h
  exact hR 0 ccp0j1_0 ccp0j1_1 Fcp0j1_0 Fcp0j1_1 H _ hcp0j1_0 hcp0j1_1 ((((I.bring 1).drop.bring 2).bring 2).bring 2) h
 refine xcut_i fun j1 hx1 => ?_
 refine opK_pu pu_fa_52_2 ?_
 refine opK_ld (ld1 Try.isAgg3 ((I_19.bring 3).at1 (o := 2) (vs := [(vi x1.fKind)]) (nb rfl) rfl)) ?_
 refine opK_pu (pu_eql _ _ _ _ _ _) ?_
 refine xcond_p (fun c_185 => ?_) (fun c_185 => ?_)
 ·replace h := h.1 c_185
  refine s_dX I_19 fun w_26 I_27 => ?_
  refine qP_pu (pu_nilp _) ?_
  refine qP_pu pu_fa_71_0 ?_
  refine qP_pu pu_fa_52_3 ?_
  refine qL_ld (ld1 Try.isAgg27 (I_27.at1 (o := 0) (vs := [(vs sx0_0)]) (nb rfl) rfl)) ?_
  refine qL_ld (ld1 Try.isAgg3 ((I_27.bring 3).at1 (o := 3) (vs := [(vi x1.fDst)]) (nb rfl) rfl)) ?_
  obtain ⟨h_30, x_28, h_31, h⟩ := h
  obtain ⟨g_29, a_33, h_32, h_34⟩ := hx0_0.addr h_31
  refine qP_pu (pu_ix_27 h_32 _ _ _ _ h_30 (hx0_0.lt h_30 h_31)) ?_
  refine s_rowst (x := r0_16) (I_27.bring 1) hx0_0 h_32 (List.getElem?_eq_some_iff.1 h_31).1 Try.sizeOf2 rfl fun F_35 w_36 h_37 I_38 k_39 => ?_
  exact hx1 _ _ (hj1 ((x0_0).set (x1.fDst : Int).toNat r0_16) x0_1 F_35 Fx0_1 H_17 _ h_37 hx0_1 ((((I_38.bring 2).bring 1).bring 3).bring 3) h)
 ·replace h := h.2 c_185
  refine opK_pu (pu_eql _ _ _ _ _ _) ?_
  refine xcond_p (fun c_184 => ?_) (fun c_184 => ?_)
  ·replace h := h.1 c_184
   refine s_dX I_19 fun w_40 I_41 => ?_
   refine qP_pu (pu_nilp _) ?_
   refine qP_pu pu_fa_71_0 ?_
   refine qP_pu pu_fa_52_3 ?_
   refine qL_ld (ld1 Try.isAgg27 (I_41.at1 (o := 0) (vs := [(vs sx0_0)]) (nb rfl) rfl)) ?_
   refine qL_ld (ld1 Try.isAgg3 ((I_41.bring 3).at1 (o := 3) (vs := [(vi x1.fDst)]) (nb rfl) rfl)) ?_
   obtain ⟨h_44, x_42, h_45, h⟩ := h
   obtain ⟨g_43, a_47, h_46, h_48⟩ := hx0_0.addr h_45
   refine qP_pu (pu_ix_27 h_46 _ _ _ _ h_44 (hx0_0.lt h_44 h_45)) ?_
   refine s_rowst (x := x2) (I_41.bring 1) hx0_0 h_46 (List.getElem?_eq_some_iff.1 h_45).1 Try.sizeOf2 rfl fun F_49 w_50 h_51 I_52 k_53 => ?_
   exact hx1 _ _ (hj1 ((x0_0).set (x1.fDst : Int).toNat x2) x0_1 F_49 Fx0_1 H_17 _ h_51 hx0_1 ((((I_52.bring 2).bring 1).bring 3).bring 3) h)
  ·replace h := h.2 c_184
   have hj2 : ∀ (s41j2 : Bool) (H : Hp) (w : World) (_ : Inv w0 ps0 H0 H [bx g0 71 [(vs sx0_0), (vs sx0_1)], bx g_2 52 (cs_api_Edge x1), Fx0_0, Fx0_1] w) (_ : T_gnomon_gnomonref10_state_does_j2 r0_16 r0_25 x1.fKind s41j2 x0_0 x0_1 x1 H K), F22_j2 (Value.pointer (some ⟨g0, 0, none⟩)) (Value.pointer (some ⟨g_2, 0, none⟩)) (vi r0_16) (vi r0_25) (vi x1.fKind) (Value.bool s41j2) w j1 R E := by
    intro s41j2 H w I h
    unfold F22_j2
    intro _
    unfold T_gnomon_gnomonref10_state_does_j2 at h
    refine xcond_b (fun c_178 => ?_) (fun c_178 => ?_)
    ·replace h := h.1 c_178
     refine opK_pu pu_fa_52_2 ?_
     refine opK_ld (ld1 Try.isAgg3 ((I.bring 1).at1 (o := 2) (vs := [(vi x1.fKind)]) (nb rfl) rfl)) ?_
     refine opK_pu (pu_add _ _ _ _ _ _) ?_
     refine opK_pu (pu_sub _ _ _ _ _ _) ?_
     refine opK_calls (cap := []) (fun args w => Try.call49 args w) ?_
     refine Cv_ct (Fi := []) (Fr := [bx g0 71 [(vs sx0_0), (vs sx0_1)], bx g_2 52 (cs_api_Edge x1), Fx0_0, Fx0_1]) I (h) (fun v_58 H_54 F_59 w_55 I_56 l_61 k_57 q_60 => ?_) (fun _ _ _ _ _ q => q.elim)
     obtain ⟨r0_62, r1_62, rfl, rfl, h⟩ := q_60
     refine opK_pu (pu_extract _ _ _ rfl) ?_
     refine opK_pu (pu_extract _ _ _ rfl) ?_
     refine opK_pu (pu_neq _ _ _ _ _ _) ?_
     refine xcond_n (fun c_77 => ?_) (fun c_77 => ?_)
     ·replace h := h.1 c_77
      exact hR r1_62 x0_0 x0_1 Fx0_0 Fx0_1 H_54 _ hx0_0 hx0_1 ((((I_56.bring 1).drop.bring 2).bring 2).bring 2) h
     ·replace h := h.2 c_77
      refine s_dX I_56 fun w_63 I_64 => ?_
      refine qP_pu (pu_nilp _) ?_
      refine qP_pu pu_fa_71_0 ?_
      refine qP_pu pu_fa_52_3 ?_
      refine qL_ld (ld1 Try.isAgg27 (I_64.at1 (o := 0) (vs := [(vs sx0_0)]) (nb rfl) rfl)) ?_
      refine qL_ld (ld1 Try.isAgg3 ((I_64.bring 1).at1 (o := 3) (vs := [(vi x1.fDst)]) (nb rfl) rfl)) ?_
      obtain ⟨h_67, x_65, h_68, h⟩ := h
      obtain ⟨g_66, a_70, h_69, h_71⟩ := hx0_0.addr h_68
      refine qP_pu (pu_ix_27 h_69 _ _ _ _ h_67 (hx0_0.lt h_67 h_68)) ?_
      refine s_rowst (x := r0_62) (I_64.bring 2) hx0_0 h_69 (List.getElem?_eq_some_iff.1 h_68).1 Try.sizeOf2 rfl fun F_72 w_73 h_74 I_75 k_76 => ?_
      exact hx1 _ _ (hj1 ((x0_0).set (x1.fDst : Int).toNat r0_62) x0_1 F_72 Fx0_1 H_54 _ h_74 hx0_1 ((((I_75.bring 3).bring 1).bring 3).bring 3) h)
    ·replace h := h.2 c_178
     refine opK_pu (pu_eql _ _ _ _ _ _) ?_
     refine xcond_p (fun c_177 => ?_) (fun c_177 => ?_)
     ·replace h := h.1 c_177
      refine opK_pu pu_fa_52_4 ?_
      refine opK_ld (ld1 Try.isAgg3 ((I.bring 1).at1 (o := 4) (vs := [(vi x1.fArr)]) (nb rfl) rfl)) ?_
      refine opK_calls (cap := []) (fun args w => Try.call50 args w) ?_
      refine Cv_ct (Fi := [bx g0 71 [(vs sx0_0), (vs sx0_1)], Fx0_0, Fx0_1]) (Fr := [bx g_2 52 (cs_api_Edge x1)]) (((I.bring 3).bring 3).bring 2) (h g0 sx0_0 Fx0_0 sx0_1 Fx0_1 hx0_0 hx0_1) (fun v_82 H_78 F_83 w_79 I_80 l_85 k_81 q_84 => ?_) (fun _ _ _ _ _ q => q.elim)
      obtain ⟨r0_86, rfl, rfl, h⟩ := q_84
      refine opK_pu (pu_not _) ?_
      refine xcond_b (fun c_129 => ?_) (fun c_129 => ?_)
      ·replace h := h.1 c_129
       exact hR 3 x0_0 x0_1 Fx0_0 Fx0_1 H_78 _ hx0_0 hx0_1 ((((I_80.bring 3).drop.bring 2).bring 2).bring 2) h
      ·replace h := h.2 c_129
       refine s_dX I_80 fun w_87 I_88 => ?_
       refine qP_pu (pu_nilp _) ?_
       refine qP_pu pu_fa_71_0 ?_
       refine qP_pu pu_fa_52_3 ?_
       refine qP_pu (pu_nilp _) ?_
       refine qP_pu pu_fa_71_1 ?_
       refine qP_pu pu_fa_52_4 ?_
       refine qL_ld (ld1 Try.isAgg27 (I_88.at1 (o := 0) (vs := [(vs sx0_0)]) (nb rfl) rfl)) ?_
       refine qL_ld (ld1 Try.isAgg3 ((I_88.bring 3).at1 (o := 3) (vs := [(vi x1.fDst)]) (nb rfl) rfl)) ?_
       refine qL_ld (ld1 Try.isAgg32 (I_88.at1 (o := 1) (vs := [(vs sx0_1)]) (nb rfl) rfl)) ?_
       refine qL_ld (ld1 Try.isAgg3 ((I_88.bring 3).at1 (o := 4) (vs := [(vi x1.fArr)]) (nb rfl) rfl)) ?_
       obtain ⟨h_89, xs_90, h_91, h⟩ := h
       obtain ⟨ss_92, s_93, F_94, F_95, F_96, h_97, h_98, h_99, h_100, h_101, I_102⟩ := RowsL.open_ hx0_1 (I_88.bring 2) h_91
       obtain ⟨g_106, a_108, h_107, h_109⟩ := h_97.addr h_98
       refine qP_pu (pu_ix_32 h_107 _ _ _ _ h_89 (h_97.lt h_89 h_98)) ?_
       refine qL_ld (ld1 (v := (vs s_93)) Try.isAgg27 (h_97.atW I_102 h_107 h_98)) ?_
       obtain ⟨h_112, x_110, h_113, h⟩ := h
       obtain ⟨g_111, a_115, h_114, h_116⟩ := h_99.addr h_113
       refine qP_pu (pu_ix_27 h_114 _ _ _ _ h_112 (h_99.lt h_112 h_113)) ?_
       refine qL_ld (ld1 (v := (vi x_110)) Try.isAgg2 (h_99.atW (I_102.bring 1) h_114 h_113)) ?_
       obtain ⟨h_119, x_117, h_120, h⟩ := h
       obtain ⟨g_118, a_122, h_121, h_123⟩ := hx0_0.addr h_120
       refine qP_pu (pu_ix_27 h_121 _ _ _ _ h_119 (hx0_0.lt h_119 h_120)) ?_
       refine s_rowst (x := x_110) (I_102.bring 4) hx0_0 h_121 (List.getElem?_eq_some_iff.1 h_120).1 Try.sizeOf2 rfl fun F_124 w_125 h_126 I_127 k_128 => ?_
       exact hx1 _ _ (hj1 ((x0_0).set (x1.fDst : Int).toNat x_110) x0_1 F_124 Fx0_1 H_78 _ h_126 hx0_1 (((((((I_127.bring 3).bring 3).bring 3).join3.permF h_101).bring 1).bring 3).bring 3) h)
     ·replace h := h.2 c_177
      refine opK_pu (pu_eql _ _ _ _ _ _) ?_
      refine xcond_p (fun c_176 => ?_) (fun c_176 => ?_)
      ·replace h := h.1 c_176
       refine opK_pu pu_fa_52_4 ?_
       refine opK_ld (ld1 Try.isAgg3 ((I.bring 1).at1 (o := 4) (vs := [(vi x1.fArr)]) (nb rfl) rfl)) ?_
       refine opK_calls (cap := []) (fun args w => Try.call50 args w) ?_
       refine Cv_ct (Fi := [bx g0 71 [(vs sx0_0), (vs sx0_1)], Fx0_0, Fx0_1]) (Fr := [bx g_2 52 (cs_api_Edge x1)]) (((I.bring 3).bring 3).bring 2) (h g0 sx0_0 Fx0_0 sx0_1 Fx0_1 hx0_0 hx0_1) (fun v_134 H_130 F_135 w_131 I_132 l_137 k_133 q_136 => ?_) (fun _ _ _ _ _ q => q.elim)
       obtain ⟨r0_138, rfl, rfl, h⟩ := q_136
       refine opK_pu (pu_not _) ?_
       refine xcond_b (fun c_174 => ?_) (fun c_174 => ?_)
       ·replace h := h.1 c_174
        exact hR 3 x0_0 x0_1 Fx0_0 Fx0_1 H_130 _ hx0_0 hx0_1 ((((I_132.bring 3).drop.bring 2).bring 2).bring 2) h
       ·replace h := h.2 c_174
        refine s_dX I_132 fun w_139 I_140 => ?_
        refine qP_pu (pu_nilp _) ?_
        refine qP_pu pu_fa_71_1 ?_
        refine qP_pu pu_fa_52_4 ?_
        refine qL_ld (ld1 Try.isAgg32 (I_140.at1 (o := 1) (vs := [(vs sx0_1)]) (nb rfl) rfl)) ?_
        refine qL_ld (ld1 Try.isAgg3 ((I_140.bring 3).at1 (o := 4) (vs := [(vi x1.fArr)]) (nb rfl) rfl)) ?_
        obtain ⟨h_141, xs_142, h_143, h⟩ := h
        obtain ⟨ss_144, s_145, F_146, F_147, F_148, h_149, h_150, h_151, h_152, h_153, I_154⟩ := RowsL.open_ hx0_1 (I_140.bring 2) h_143
        obtain ⟨g_158, a_160, h_159, h_161⟩ := h_149.addr h_150
        refine qP_pu (pu_ix_32 h_159 _ _ _ _ h_141 (h_149.lt h_141 h_150)) ?_
        refine qL_ld (ld1 (v := (vs s_145)) Try.isAgg27 (h_149.atW I_154 h_159 h_150)) ?_
        obtain ⟨h_164, x_162, h_165, h⟩ := h
        obtain ⟨g_163, a_167, h_166, h_168⟩ := h_151.addr h_165
        refine qP_pu (pu_ix_27 h_166 _ _ _ _ h_164 (h_151.lt h_164 h_165)) ?_
        refine s_rowst (x := r0_25) (I_154.bring 1) h_151 h_166 (List.getElem?_eq_some_iff.1 h_165).1 Try.sizeOf2 rfl fun F_169 w_170 h_171 I_172 k_173 => ?_
        exact hx1 _ _ (hj1 x0_0 ((x0_1).set (x1.fArr : Int).toNat ((xs_142).set (r0_16 : Int).toNat r0_25)) Fx0_0 (F_146 ++ (F_169 ++ F_148)) H_130 _ hx0_0 (RowsL.close0 h_149 h_150 h_171 h_152) ((((((I_172.bring 2).bring 1).bring 2).join3.bring 2).bring 3).bring 3) h)
      ·replace h := h.2 c_176
       refine opK_pu (pu_eql _ _ _ _ _ _) ?_
       refine xcond_p (fun c_175 => ?_) (fun c_175 => ?_)
       ·replace h := h.1 c_175
        exact hR 4 x0_0 x0_1 Fx0_0 Fx0_1 H _ hx0_0 hx0_1 ((((I.bring 1).drop.bring 2).bring 2).bring 2) h
       ·replace h := h.2 c_175
        exact hx1 _ _ (hj1 x0_0 x0_1 Fx0_0 Fx0_1 H _ hx0_0 hx0_1 ((((I.bring 3).bring 3).bring 3).bring 3) h)
   refine xcut_i fun j2 hx2 => ?_
   refine opK_pu (pu_eql _ _ _ _ _ _) ?_
   refine xcond_p (fun c_183 => ?_) (fun c_183 => ?_)
   ·replace h := h.1 c_183
    exact hx2 _ _ (hj2 (decide (x1.fKind = 3)) H_17 _ ((((I_19.bring 2).bring 2).bring 3).bring 3) h)
   ·replace h := h.2 c_183
    refine opK_pu (pu_eql _ _ _ _ _ _) ?_
    refine xcond_p (fun c_182 => ?_) (fun c_182 => ?_)
    ·replace h := h.1 c_182
     exact hx2 _ _ (hj2 (decide (x1.fKind = 4)) H_17 _ ((((I_19.bring 2).bring 2).bring 3).bring 3) h)
    ·replace h := h.2 c_182
     refine opK_pu (pu_eql _ _ _ _ _ _) ?_
     refine xcond_p (fun c_181 => ?_) (fun c_181 => ?_)
     ·replace h := h.1 c_181
      exact hx2 _ _ (hj2 (decide (x1.fKind = 5)) H_17 _ ((((I_19.bring 2).bring 2).bring 3).bring 3) h)
     ·replace h := h.2 c_181
      refine opK_pu (pu_eql _ _ _ _ _ _) ?_
      refine xcond_p (fun c_180 => ?_) (fun c_180 => ?_)
      ·replace h := h.1 c_180
       exact hx2 _ _ (hj2 (decide (x1.fKind = 6)) H_17 _ ((((I_19.bring 2).bring 2).bring 3).bring 3) h)
      ·replace h := h.2 c_180
       refine opK_pu (pu_eql _ _ _ _ _ _) ?_
       refine xcond_p (fun c_179 => ?_) (fun c_179 => ?_)
       ·replace h := h.1 c_179
        exact hx2 _ _ (hj2 (decide (x1.fKind = 7)) H_17 _ ((((I_19.bring 2).bring 2).bring 3).bring 3) h)
       ·replace h := h.2 c_179
        refine opK_pu (pu_eql _ _ _ _ _ _) ?_
        exact hx2 _ _ (hj2 (decide (x1.fKind = 8)) H_17 _ ((((I_19.bring 2).bring 2).bring 3).bring 3) h)
theorem L_gnomon_gnomonref10_state_does (x0 : Tgnomonref10_state) (x0_0 : (List Int)) (x0_1 : (List (List Int))) (x1 : Tapi_Edge) (x2 : Int) {H : Hp} {K : Int → (List Int) → (List (List Int)) → Hp → Prop} (h : T_gnomon_gnomonref10_state_does x0 x0_0 x0_1 x1 x2 H K) : C_gnomon_gnomonref10_state_does x0 x0_0 x0_1 x1 x2 H K := by
 intro g0 sx0_0 Fx0_0 sx0_1 Fx0_1 hx0_0 hx0_1 w I
 refine F22_ok ?_
 refine LF_gnomon_gnomonref10_state_does x0 x0_0 x0_1 x1 x2 g0 sx0_0 Fx0_0 sx0_1 Fx0_1 hx0_0 hx0_1 I (fun r0 y0_0 y0_1 Fy0_0 Fy0_1 H' w' khy0_0 khy0_1 I' hk => ⟨H', _, I', r0, y0_0, y0_1, Fy0_0, Fy0_1, rfl, rfl, khy0_0, khy0_1, hk⟩) h


/- function 46: gnomon/gnomonref9.fork -/
def T_gnomon_gnomonref9_fork (x0 : Tapi_Cfg) (x1 : Sl) (H : Hp) (K : Bool → Hp → Prop) : Prop :=
 ((x1.n : Int) = 0 →
 K true H) ∧
 (¬ ((x1.n : Int) = 0) →
 (0 : Int) ≤ 0 ∧ (0 : Int) < x1.n ∧ ∃ x_8 : Int, EltH H x1 0 1 [(vi x_8)] ∧ 
 (0 : Int) ≤ x_8 ∧ (x_8 : Int) < x0.fEdges.n ∧ ∃ x_15 : Tapi_Edge, EltH H x0.fEdges x_8 10 (cs_api_Edge x_15) ∧ 
 ((x1.n : Int) = 1 →
 K (!decide (x_15.fKind = 12)) H) ∧
 (¬ ((x1.n : Int) = 1) →
 (0 : Int) ≤ 1 ∧ (1 : Int) < x1.n ∧ ∃ x_32 : Int, EltH H x1 1 1 [(vi x_32)] ∧ 
 (0 : Int) ≤ x_32 ∧ (x_32 : Int) < x0.fEdges.n ∧ ∃ x_39 : Tapi_Edge, EltH H x0.fEdges x_32 10 (cs_api_Edge x_39) ∧ 
 TG ((((((decide ((x1.n : Int) = 2)) && (decide (x_15.fKind = 12))) && (decide (x_39.fKind = 12))) && (decide (x_15.fA.fVar = x_39.fA.fVar ∧ x_15.fA.fNum = x_39.fA.fNum))) && (decide (x_15.fB.fVar = x_39.fB.fVar ∧ x_15.fB.fNum = x_39.fB.fNum))) = true) (C_gnomon_gnomonref7_Not x_15.fOp H) 0 H (fun (r0_64 : Int) (H_56 : Hp) =>
 K ((((((decide ((x1.n : Int) = 2)) && (decide (x_15.fKind = 12))) && (decide (x_39.fKind = 12))) && (decide (x_15.fA.fVar = x_39.fA.fVar ∧ x_15.fA.fNum = x_39.fA.fNum))) && (decide (x_15.fB.fVar = x_39.fB.fVar ∧ x_15.fB.fNum = x_39.fB.fNum))) && (decide (x_39.fOp = r0_64))) H_56)))
theorem LF_gnomon_gnomonref9_fork (x0 : Tapi_Cfg) (x1 : Sl) {w0 w : World} {ps0 : Nat → Prop} {H0 H : Hp} {K : Bool → Hp → Prop} {R : Value → World → Prop} {E : Pan} (I : Inv w0 ps0 H0 H [] w) (hR : ∀ (r0 : Bool) (H' : Hp) (w' : World) (_ : Inv w0 ps0 H0 H' [] w') (_ : K r0 H'), R (Value.bool r0) w') (h : T_gnomon_gnomonref9_fork x0 x1 H K) : F46 (Value.agg (cs_api_Cfg x0).toArray) (vs x1) w R E := by
 unfold T_gnomon_gnomonref9_fork at h
 unfold F46
 refine s_box I (cs := (cs_api_Cfg x0)) rfl fun g_2 w_3 I_4 k_5 => ?_
 refine opK_pu (pu_len_68 _ _ _) ?_
 refine opK_pu (pu_eql _ _ _ _ _ _) ?_
 refine xcond_p (fun c_67 => ?_) (fun c_67 => ?_)
 ·replace h := h.1 c_67
  exact hR true H _ I_4.drop h
 ·replace h := h.2 c_67
  refine s_dX I_4 fun w_6 I_7 => ?_
  refine qP_pu pu_fa_26_5 ?_
  obtain ⟨h_11, h_12, x_8, h_14, h⟩ := h
  obtain ⟨g_9, o_10, h_13, h_14⟩ := h_14
  refine qP_pu (pu_ix_68 h_13 _ _ _ _ h_11 h_12) ?_
  refine qL_ld (ld1 Try.isAgg24 (I_7.at1 (o := 5) (vs := [(vs x0.fEdges)]) (nb rfl) rfl)) ?_
  refine qL_ld (ld1 (v := (vi x_8)) Try.isAgg3 (I_7.atH h_14)) ?_
  obtain ⟨h_18, h_19, x_15, h_21, h⟩ := h
  obtain ⟨g_16, o_17, h_20, h_21⟩ := h_21
  refine qP_pu (pu_ix_24 h_20 _ _ _ _ h_18 h_19) ?_
  refine qL_ld (ldA (vs := (cs_api_Edge x_15)) Try.isAgg52 Try.sizeOf52 rfl (I_7.atH h_21)) ?_
  refine s_alloc I_7 Try.zeroValue52 (cs := [(vi 0), (vi 0), (vi 0), (vi 0), (vi 0), (vi 0), (vi 0), (vi 0), (vi 0), (vi 0)]) rfl fun g_23 w_24 I_25 k_26 => ?_
  refine ⟨(k_26 _ (I_7.atH_lt h_21)), (k_26 _ (I_7.atH_lt h_14)), (k_26 _ I_7.lt1), ?_⟩
  refine s_store I_25 Try.sizeOf52 (vs := (cs_api_Edge x_15)) (cs' := (cs_api_Edge x_15)) rfl rfl (nb rfl) rfl rfl fun w_27 I_28 k_29 => ?_
  refine opK_pu (pu_len_68 _ _ _) ?_
  refine opK_pu (pu_eql _ _ _ _ _ _) ?_
  refine xcond_p (fun c_66 => ?_) (fun c_66 => ?_)
  ·replace h := h.1 c_66
   refine opK_pu pu_fa_52_2 ?_
   refine opK_ld (ld1 Try.isAgg3 (I_28.at1 (o := 2) (vs := [(vi x_15.fKind)]) (nb rfl) rfl)) ?_
   refine opK_pu (pu_neq _ _ _ _ _ _) ?_
   exact hR (!decide (x_15.fKind = 12)) H _ I_28.drop.drop h
  ·replace h := h.2 c_66
   refine s_dX I_28 fun w_30 I_31 => ?_
   refine qP_pu pu_fa_26_5 ?_
   obtain ⟨h_35, h_36, x_32, h_38, h⟩ := h
   obtain ⟨g_33, o_34, h_37, h_38⟩ := h_38
   refine qP_pu (pu_ix_68 h_37 _ _ _ _ h_35 h_36) ?_
   refine qL_ld (ld1 Try.isAgg24 ((I_31.bring 1).at1 (o := 5) (vs := [(vs x0.fEdges)]) (nb rfl) rfl)) ?_
   refine qL_ld (ld1 (v := (vi x_32)) Try.isAgg3 (I_31.atH h_38)) ?_
   obtain ⟨h_42, h_43, x_39, h_45, h⟩ := h
   obtain ⟨g_40, o_41, h_44, h_45⟩ := h_45
   refine qP_pu (pu_ix_24 h_44 _ _ _ _ h_42 h_43) ?_
   refine qL_ld (ldA (vs := (cs_api_Edge x_39)) Try.isAgg52 Try.sizeOf52 rfl (I_31.atH h_45)) ?_
   refine s_alloc I_31 Try.zeroValue52 (cs := [(vi 0), (vi 0), (vi 0), (vi 0), (vi 0), (vi 0), (vi 0), (vi 0), (vi 0), (vi 0)]) rfl fun g_47 w_48 I_49 k_50 => ?_
   refine ⟨(k_50 _ (I_31.atH_lt h_45)), (k_50 _ (I_31.atH_lt h_38)), (k_50 _ (I_31.bring 1).lt1), ?_⟩
   refine s_store I_49 Try.sizeOf52 (vs := (cs_api_Edge x_39)) (cs' := (cs_api_Edge x_39)) rfl rfl (nb rfl) rfl rfl fun w_51 I_52 k_53 => ?_
   refine s_dX I_52 fun w_54 I_55 => ?_
   refine qP_pu (pu_len_68 _ _ _) ?_
   refine qP_pu (pu_eql _ _ _ _ _ _) ?_
   refine qP_pu (Pu.g fun hb => by have hb_0 := hb; first | exact pu_fa_52_2 | (simp only [gval_t hb_0, gv_t hb_0, gv_t hb, gva_tt hb_0]; exact pu_fa_52_2) | (simp only [gval_t hb_0, gv_t hb_0, gv_t hb, gva_tf hb_0, gv_n]; exact pu_fa_52_2)) ?_
   refine qL_g (p := (Value.pointer (some ⟨g_23, 2, none⟩))) rfl (Ld.g fun hb => by have hb_0 := hb; first | exact (ld1 Try.isAgg3 ((I_55.bring 1).at1 (o := 2) (vs := [(vi x_15.fKind)]) (nb rfl) rfl)) | (simp only [gv_t hb_0]; exact (ld1 Try.isAgg3 ((I_55.bring 1).at1 (o := 2) (vs := [(vi x_15.fKind)]) (nb rfl) rfl))) | (simp only [gval_t hb_0, gv_t hb_0, gv_t hb, gva_tf hb_0, gv_n]; exact (ld1 Try.isAgg3 ((I_55.bring 1).at1 (o := 2) (vs := [(vi x_15.fKind)]) (nb rfl) rfl)))) ?_
   refine qP_pu (Pu.g fun hb => by have hb_0 := hb; first | exact (pu_eql _ _ _ _ _ _) | (simp only [gv_t hb_0]; exact (pu_eql _ _ _ _ _ _)) | (simp only [gval_t hb_0, gv_t hb_0, gv_t hb, gva_tf hb_0, gv_n]; exact (pu_eql _ _ _ _ _ _))) ?_
   refine qP_pu (pu_and _ _) ?_
   refine qP_pu (Pu.g fun hb => by have hb_0 := hb; first | exact pu_fa_52_2 | (simp only [gval_t hb_0, gv_t hb_0, gv_t hb, gva_tt hb_0]; exact pu_fa_52_2) | (simp only [gval_t hb_0, gv_t hb_0, gv_t hb, gva_tf hb_0, gv_n]; exact pu_fa_52_2)) ?_
   refine qL_g (p := (Value.pointer (some ⟨g_47, 2, none⟩))) rfl (Ld.g fun hb => by have hb_0 := hb; first | exact (ld1 Try.isAgg3 (I_55.at1 (o := 2) (vs := [(vi x_39.fKind)]) (nb rfl) rfl)) | (simp only [gv_t hb_0]; exact (ld1 Try.isAgg3 (I_55.at1 (o := 2) (vs := [(vi x_39.fKind)]) (nb rfl) rfl))) | (simp only [gval_t hb_0, gv_t hb_0, gv_t hb, gva_tf hb_0, gv_n]; exact (ld1 Try.isAgg3 (I_55.at1 (o := 2) (vs := [(vi x_39.fKind)]) (nb rfl) rfl)))) ?_
   refine qP_pu (Pu.g fun hb => by have hb_0 := hb; first | exact (pu_eql _ _ _ _ _ _) | (simp only [gv_t hb_0]; exact (pu_eql _ _ _ _ _ _)) | (simp only [gval_t hb_0, gv_t hb_0, gv_t hb, gva_tf hb_0, gv_n]; exact (pu_eql _ _ _ _ _ _))) ?_
   refine qP_pu (pu_and _ _) ?_
   refine qP_pu (Pu.g fun hb => by have hb_0 := hb; first | exact pu_fa_52_6 | (simp only [gval_t hb_0, gv_t hb_0, gv_t hb, gva_tt hb_0]; exact pu_fa_52_6) | (simp only [gval_t hb_0, gv_t hb_0, gv_t hb, gva_tf hb_0, gv_n]; exact pu_fa_52_6)) ?_
   refine qP_pu (Pu.g fun hb => by have hb_0 := hb; first | exact pu_fa_52_6 | (simp only [gval_t hb_0, gv_t hb_0, gv_t hb, gva_tt hb_0]; exact pu_fa_52_6) | (simp only [gval_t hb_0, gv_t hb_0, gv_t hb, gva_tf hb_0, gv_n]; exact pu_fa_52_6)) ?_
   refine qL_g (p := (Value.pointer (some ⟨g_23, 6, none⟩))) rfl (Ld.g fun hb => by have hb_0 := hb; first | exact (ldA Try.isAgg50 Try.sizeOf50 rfl ((I_55.bring 1).at1 (o := 6) (vs := (cs_api_Operand x_15.fA)) (nb rfl) rfl)) | (simp only [gv_t hb_0]; exact (ldA Try.isAgg50 Try.sizeOf50 rfl ((I_55.bring 1).at1 (o := 6) (vs := (cs_api_Operand x_15.fA)) (nb rfl) rfl))) | (simp only [gval_t hb_0, gv_t hb_0, gv_t hb, gva_tf hb_0, gv_n]; exact (ldA Try.isAgg50 Try.sizeOf50 rfl ((I_55.bring 1).at1 (o := 6) (vs := (cs_api_Operand x_15.fA)) (nb rfl) rfl)))) ?_
   refine qL_g (p := (Value.pointer (some ⟨g_47, 6, none⟩))) rfl (Ld.g fun hb => by have hb_0 := hb; first | exact (ldA Try.isAgg50 Try.sizeOf50 rfl (I_55.at1 (o := 6) (vs := (cs_api_Operand x_39.fA)) (nb rfl) rfl)) | (simp only [gv_t hb_0]; exact (ldA Try.isAgg50 Try.sizeOf50 rfl (I_55.at1 (o := 6) (vs := (cs_api_Operand x_39.fA)) (nb rfl) rfl))) | (simp only [gval_t hb_0, gv_t hb_0, gv_t hb, gva_tf hb_0, gv_n]; exact (ldA Try.isAgg50 Try.sizeOf50 rfl (I_55.at1 (o := 6) (vs := (cs_api_Operand x_39.fA)) (nb rfl) rfl)))) ?_
   refine qP_pu (Pu.g fun hb => by have hb_0 := hb; first | exact (pu_eq_50 _ _ _ _ _ _) | (simp only [gv_t hb_0]; exact (pu_eq_50 _ _ _ _ _ _)) | (simp only [gval_t hb_0, gv_t hb_0, gv_t hb, gva_tf hb_0, gv_n]; exact (pu_eq_50 _ _ _ _ _ _))) ?_
   refine qP_pu (pu_and _ _) ?_
   refine qP_pu (Pu.g fun hb => by have hb_0 := hb; first | exact pu_fa_52_7 | (simp only [gval_t hb_0, gv_t hb_0, gv_t hb, gva_tt hb_0]; exact pu_fa_52_7) | (simp only [gval_t hb_0, gv_t hb_0, gv_t hb, gva_tf hb_0, gv_n]; exact pu_fa_52_7)) ?_
   refine qP_pu (Pu.g fun hb => by have hb_0 := hb; first | exact pu_fa_52_7 | (simp only [gval_t hb_0, gv_t hb_0, gv_t hb, gva_tt hb_0]; exact pu_fa_52_7) | (simp only [gval_t hb_0, gv_t hb_0, gv_t hb, gva_tf hb_0, gv_n]; exact pu_fa_52_7)) ?_
   refine qL_g (p := (Value.pointer (some ⟨g_23, 8, none⟩))) rfl (Ld.g fun hb => by have hb_0 := hb; first | exact (ldA Try.isAgg50 Try.sizeOf50 rfl ((I_55.bring 1).at1 (o := 8) (vs := (cs_api_Operand x_15.fB)) (nb rfl) rfl)) | (simp only [gv_t hb_0]; exact (ldA Try.isAgg50 Try.sizeOf50 rfl ((I_55.bring 1).at1 (o := 8) (vs := (cs_api_Operand x_15.fB)) (nb rfl) rfl))) | (simp only [gval_t hb_0, gv_t hb_0, gv_t hb, gva_tf hb_0, gv_n]; exact (ldA Try.isAgg50 Try.sizeOf50 rfl ((I_55.bring 1).at1 (o := 8) (vs := (cs_api_Operand x_15.fB)) (nb rfl) rfl)))) ?_
   refine qL_g (p := (Value.pointer (some ⟨g_47, 8, none⟩))) rfl (Ld.g fun hb => by have hb_0 := hb; first | exact (ldA Try.isAgg50 Try.sizeOf50 rfl (I_55.at1 (o := 8) (vs := (cs_api_Operand x_39.fB)) (nb rfl) rfl)) | (simp only [gv_t hb_0]; exact (ldA Try.isAgg50 Try.sizeOf50 rfl (I_55.at1 (o := 8) (vs := (cs_api_Operand x_39.fB)) (nb rfl) rfl))) | (simp only [gval_t hb_0, gv_t hb_0, gv_t hb, gva_tf hb_0, gv_n]; exact (ldA Try.isAgg50 Try.sizeOf50 rfl (I_55.at1 (o := 8) (vs := (cs_api_Operand x_39.fB)) (nb rfl) rfl)))) ?_
   refine qP_pu (Pu.g fun hb => by have hb_0 := hb; first | exact (pu_eq_50 _ _ _ _ _ _) | (simp only [gv_t hb_0]; exact (pu_eq_50 _ _ _ _ _ _)) | (simp only [gval_t hb_0, gv_t hb_0, gv_t hb, gva_tf hb_0, gv_n]; exact (pu_eq_50 _ _ _ _ _ _))) ?_
   refine qP_pu (pu_and _ _) ?_
   refine qP_pu (Pu.g fun hb => by have hb_0 := hb; first | exact pu_fa_52_5 | (simp only [gval_t hb_0, gv_t hb_0, gv_t hb, gva_tt hb_0]; exact pu_fa_52_5) | (simp only [gval_t hb_0, gv_t hb_0, gv_t hb, gva_tf hb_0, gv_n]; exact pu_fa_52_5)) ?_
   refine qP_pu (Pu.g fun hb => by have hb_0 := hb; first | exact pu_fa_52_5 | (simp only [gval_t hb_0, gv_t hb_0, gv_t hb, gva_tt hb_0]; exact pu_fa_52_5) | (simp only [gval_t hb_0, gv_t hb_0, gv_t hb, gva_tf hb_0, gv_n]; exact pu_fa_52_5)) ?_
   refine qL_g (p := (Value.pointer (some ⟨g_47, 5, none⟩))) rfl (Ld.g fun hb => by have hb_0 := hb; first | exact (ld1 Try.isAgg3 (I_55.at1 (o := 5) (vs := [(vi x_39.fOp)]) (nb rfl) rfl)) | (simp only [gv_t hb_0]; exact (ld1 Try.isAgg3 (I_55.at1 (o := 5) (vs := [(vi x_39.fOp)]) (nb rfl) rfl))) | (simp only [gval_t hb_0, gv_t hb_0, gv_t hb, gva_tf hb_0, gv_n]; exact (ld1 Try.isAgg3 (I_55.at1 (o := 5) (vs := [(vi x_39.fOp)]) (nb rfl) rfl)))) ?_
   refine qL_g (p := (Value.pointer (some ⟨g_23, 5, none⟩))) rfl (Ld.g fun hb => by have hb_0 := hb; first | exact (ld1 Try.isAgg3 ((I_55.bring 1).at1 (o := 5) (vs := [(vi x_15.fOp)]) (nb rfl) rfl)) | (simp only [gv_t hb_0]; exact (ld1 Try.isAgg3 ((I_55.bring 1).at1 (o := 5) (vs := [(vi x_15.fOp)]) (nb rfl) rfl))) | (simp only [gval_t hb_0, gv_t hb_0, gv_t hb, gva_tf hb_0, gv_n]; exact (ld1 Try.isAgg3 ((I_55.bring 1).at1 (o := 5) (vs := [(vi x_15.fOp)]) (nb rfl) rfl)))) ?_
   refine opK_g2 (D := fun v_60 w_57 => ∃ (r0_64 : Int) (H_56 : Hp), v_60 = (gv (((((decide ((x1.n : Int) = 2)) && (decide (x_15.fKind = 12))) && (decide (x_39.fKind = 12))) && (decide (x_15.fA.fVar = x_39.fA.fVar ∧ x_15.fA.fNum = x_39.fA.fNum))) && (decide (x_15.fB.fVar = x_39.fB.fVar ∧ x_15.fB.fNum = x_39.fB.fNum))) true (vi r0_64)) ∧ (Inv w0 ps0 H0 H_56 [bx g_47 52 (cs_api_Edge x_39), bx g_23 52 (cs_api_Edge x_15), bx g_2 26 (cs_api_Cfg x0)] w_57) ∧ (∀ i, i < w_54.heap.size → ¬ inF [] i → w_57.heap[i]? = w_54.heap[i]?) ∧ Hle H H_56 ∧ (K ((((((decide ((x1.n : Int) = 2)) && (decide (x_15.fKind = 12))) && (decide (x_39.fKind = 12))) && (decide (x_15.fA.fVar = x_39.fA.fVar ∧ x_15.fA.fNum = x_39.fA.fNum))) && (decide (x_15.fB.fVar = x_39.fB.fVar ∧ x_15.fB.fNum = x_39.fB.fNum))) && (decide (x_39.fOp = r0_64))) H_56)) (fun b_65 => ?_) (fun b_65 => ?_) ?_
   ·replace h := h.1 b_65
    have hb_0 := b_65
    try simp only [gv_t hb_0]
    refine opK_calls (cap := []) (fun args w => Try.call69 args w) ?_
    refine Cv_ct (Fi := []) (Fr := [bx g_47 52 (cs_api_Edge x_39), bx g_23 52 (cs_api_Edge x_15), bx g_2 26 (cs_api_Cfg x0)]) I_55 (h) (fun v_60 H_56 F_61 w_57 I_58 l_63 k_59 q_62 => ?_) (fun _ _ _ _ _ q => q.elim)
    obtain ⟨r0_64, rfl, rfl, h⟩ := q_62
    exact ⟨r0_64, H_56, by first | rfl | rw [gv_t b_65], I_58, k_59, l_63, h⟩
   ·exact ⟨0, H, by first | rfl | rw [gv_f b_65], I_55, fun _ _ _ => rfl, Hle.refl _, h.2 b_65⟩
   ·clear h
    rintro v_60 w_57 ⟨r0_64, H_56, rfl, I_58, k_59, l_63, h⟩
    refine ⟨(same_g (p := (Value.pointer (some ⟨g_47, 5, none⟩))) rfl (k_59 _ I_55.lt1 (Inv.not_in (Fi := []) I_55))), ?_⟩
    refine qP_pu (Pu.g fun hb => by have hb_0 := hb; first | exact (pu_eql _ _ _ _ _ _) | (simp only [gv_t hb_0]; exact (pu_eql _ _ _ _ _ _)) | (simp only [gval_t hb_0, gv_t hb_0, gv_t hb, gva_tf hb_0, gv_n]; exact (pu_eql _ _ _ _ _ _))) ?_
    refine qP_pu (pu_and _ _) ?_
    exact hR ((((((decide ((x1.n : Int) = 2)) && (decide (x_15.fKind = 12))) && (decide (x_39.fKind = 12))) && (decide (x_15.fA.fVar = x_39.fA.fVar ∧ x_15.fA.fNum = x_39.fA.fNum))) && (decide (x_15.fB.fVar = x_39.fB.fVar ∧ x_15.fB.fNum = x_39.fB.fNum))) && (decide (x_39.fOp = r0_64))) H_56 _ I_58.drop.drop.drop h
theorem L_gnomon_gnomonref9_fork (x0 : Tapi_Cfg) (x1 : Sl) {H : Hp} {K : Bool → Hp → Prop} (h : T_gnomon_gnomonref9_fork x0 x1 H K) : C_gnomon_gnomonref9_fork x0 x1 H K := by
 intro w I
 refine F46_ok ?_
 refine LF_gnomon_gnomonref9_fork x0 x1 I (fun r0 H' w' I' hk => ⟨H', _, I', r0, rfl, rfl, hk⟩) h


end Go.Proofs.Ytgapepdglhcglaa
