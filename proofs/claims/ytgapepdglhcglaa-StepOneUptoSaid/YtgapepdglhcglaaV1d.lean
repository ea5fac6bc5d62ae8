/-
  Typed formulas of the program's functions, and the theorems that the contracts follow from them; printed by lift.py off the code.
-/
import Derived.Test.YtgapepdglhcglaaV1
namespace Go.Proofs.Ytgapepdglhcglaa
open Go.RowKit
set_option maxRecDepth 100000
set_option maxHeartbeats 2000000

/- function 79: gnomon/num.never -/
def T_gnomon_num_never (_x0 : Int) (_x1 : Int) (H : Hp) (K : Bool → Hp → Prop) : Prop :=
 K false H
theorem LF_gnomon_num_never (x0 : Int) (x1 : Int) {w0 w : World} {ps0 : Nat → Prop} {H0 H : Hp} {K : Bool → Hp → Prop} {R : Value → World → Prop} {E : Pan} (I : Inv w0 ps0 H0 H [] w) (hR : ∀ (r0 : Bool) (H' : Hp) (w' : World) (_ : Inv w0 ps0 H0 H' [] w') (_ : K r0 H'), R (Value.bool r0) w') (h : T_gnomon_num_never x0 x1 H K) : F79 (vi x0) (vi x1) w R E := by
 unfold T_gnomon_num_never at h
 unfold F79
 exact hR false H _ I h
theorem L_gnomon_num_never (x0 : Int) (x1 : Int) {H : Hp} {K : Bool → Hp → Prop} (h : T_gnomon_num_never x0 x1 H K) : C_gnomon_num_never x0 x1 H K := by
 intro w I
 refine F79_ok ?_
 refine LF_gnomon_num_never x0 x1 I (fun r0 H' w' I' hk => ⟨H', _, I', r0, rfl, rfl, hk⟩) h


/- function 81: gnomon/num.compares$2 -/
def T_gnomon_num_compares_2 (x0 : Int) (x1 : Int) (H : Hp) (K : Bool → Hp → Prop) : Prop :=
 K (decide (x0 ≤ x1)) H
theorem LF_gnomon_num_compares_2 (x0 : Int) (x1 : Int) {w0 w : World} {ps0 : Nat → Prop} {H0 H : Hp} {K : Bool → Hp → Prop} {R : Value → World → Prop} {E : Pan} (I : Inv w0 ps0 H0 H [] w) (hR : ∀ (r0 : Bool) (H' : Hp) (w' : World) (_ : Inv w0 ps0 H0 H' [] w') (_ : K r0 H'), R (Value.bool r0) w') (h : T_gnomon_num_compares_2 x0 x1 H K) : F81 (vi x0) (vi x1) w R E := by
 unfold T_gnomon_num_compares_2 at h
 unfold F81
 refine opK_pu (pu_leq _ _ _ _ _ _) ?_
 exact hR (decide (x0 ≤ x1)) H _ I h
theorem L_gnomon_num_compares_2 (x0 : Int) (x1 : Int) {H : Hp} {K : Bool → Hp → Prop} (h : T_gnomon_num_compares_2 x0 x1 H K) : C_gnomon_num_compares_2 x0 x1 H K := by
 intro w I
 refine F81_ok ?_
 refine LF_gnomon_num_compares_2 x0 x1 I (fun r0 H' w' I' hk => ⟨H', _, I', r0, rfl, rfl, hk⟩) h


/- function 30: (*gnomon/step.state).nothing -/
def T_gnomon_step_state_nothing (x0 : Tstep_state) (x0_3 : (List Int)) (x0_4 : (List (List Int))) (x0_6 : (List Tapi_Event)) (_x1 : Tapi_Edge) (H : Hp) (K : Int → Tstep_state → (List Int) → (List (List Int)) → (List Tapi_Event) → Hp → Prop) : Prop :=
 K 0 (Tstep_state.mk x0.fc x0.ffrom x0.fpoint (Sl.mk none 0 0) (Sl.mk none 0 0) x0.fscript (Sl.mk none 0 0)) x0_3 x0_4 x0_6 H
theorem LF_gnomon_step_state_nothing (x0 : Tstep_state) (x0_3 : (List Int)) (x0_4 : (List (List Int))) (x0_6 : (List Tapi_Event)) (x1 : Tapi_Edge) (g0 : Nat) (sx0_3 : Sl) (Fx0_3 : Frag) (sx0_4 : Sl) (Fx0_4 : Frag) (sx0_6 : Sl) (Fx0_6 : Frag) (hx0_3 : RowL 2 1 cs_int64 sx0_3 x0_3 Fx0_3) (hx0_4 : RowsL 27 2 1 cs_int64 sx0_4 x0_4 Fx0_4) (hx0_6 : RowL 74 3 cs_api_Event sx0_6 x0_6 Fx0_6) {w0 w : World} {ps0 : Nat → Prop} {H0 H : Hp} {K : Int → Tstep_state → (List Int) → (List (List Int)) → (List Tapi_Event) → Hp → Prop} {R : Value → World → Prop} {E : Pan} (I : Inv w0 ps0 H0 H [bx g0 58 [(vs x0.fc.fVars), (vi x0.fc.fTemps), (vs x0.fc.fArrays), (vi x0.fc.fPoints), (vi x0.fc.fExit), (vs x0.fc.fEdges), (vs x0.ffrom), (vi x0.fpoint), (vs sx0_3), (vs sx0_4), (vs x0.fscript), (vs sx0_6)], Fx0_3, Fx0_4, Fx0_6] w) (hR : ∀ (r0 : Int) (y0 : Tstep_state) (y0_3 : (List Int)) (y0_4 : (List (List Int))) (y0_6 : (List Tapi_Event)) (sy0_3 : Sl) (Fy0_3 : Frag) (sy0_4 : Sl) (Fy0_4 : Frag) (sy0_6 : Sl) (Fy0_6 : Frag) (H' : Hp) (w' : World) (_ : RowL 2 1 cs_int64 sy0_3 y0_3 Fy0_3) (_ : RowsL 27 2 1 cs_int64 sy0_4 y0_4 Fy0_4) (_ : RowL 74 3 cs_api_Event sy0_6 y0_6 Fy0_6) (_ : Inv w0 ps0 H0 H' [bx g0 58 [(vs y0.fc.fVars), (vi y0.fc.fTemps), (vs y0.fc.fArrays), (vi y0.fc.fPoints), (vi y0.fc.fExit), (vs y0.fc.fEdges), (vs y0.ffrom), (vi y0.fpoint), (vs sy0_3), (vs sy0_4), (vs y0.fscript), (vs sy0_6)], Fy0_3, Fy0_4, Fy0_6] w') (_ : K r0 y0 y0_3 y0_4 y0_6 H'), R (vi r0) w') (h : T_gnomon_step_state_nothing x0 x0_3 x0_4 x0_6 x1 H K) : F30 (Value.pointer (some ⟨g0, 0, none⟩)) (Value.agg (cs_api_Edge x1).toArray) w R E := by
 unfold T_gnomon_step_state_nothing at h
 unfold F30
 refine s_box I (cs := (cs_api_Edge x1)) rfl fun g_2 w_3 I_4 k_5 => ?_
 exact hR 0 (Tstep_state.mk x0.fc x0.ffrom x0.fpoint (Sl.mk none 0 0) (Sl.mk none 0 0) x0.fscript (Sl.mk none 0 0)) x0_3 x0_4 x0_6 sx0_3 Fx0_3 sx0_4 Fx0_4 sx0_6 Fx0_6 H _ hx0_3 hx0_4 hx0_6 ((((I_4.drop.bring 3).bring 3).bring 3).bring 3) h
theorem L_gnomon_step_state_nothing (x0 : Tstep_state) (x0_3 : (List Int)) (x0_4 : (List (List Int))) (x0_6 : (List Tapi_Event)) (x1 : Tapi_Edge) {H : Hp} {K : Int → Tstep_state → (List Int) → (List (List Int)) → (List Tapi_Event) → Hp → Prop} (h : T_gnomon_step_state_nothing x0 x0_3 x0_4 x0_6 x1 H K) : C_gnomon_step_state_nothing x0 x0_3 x0_4 x0_6 x1 H K := by
 intro g0 sx0_3 Fx0_3 sx0_4 Fx0_4 sx0_6 Fx0_6 hx0_3 hx0_4 hx0_6 w I
 refine F30_ok ?_
 refine LF_gnomon_step_state_nothing x0 x0_3 x0_4 x0_6 x1 g0 sx0_3 Fx0_3 sx0_4 Fx0_4 sx0_6 Fx0_6 hx0_3 hx0_4 hx0_6 I (fun r0 y0 y0_3 y0_4 y0_6 sy0_3 Fy0_3 sy0_4 Fy0_4 sy0_6 Fy0_6 H' w' khy0_3 khy0_4 khy0_6 I' hk => ⟨H', _, I', r0, y0, y0_3, y0_4, y0_6, sy0_3, Fy0_3, sy0_4, Fy0_4, sy0_6, Fy0_6, rfl, rfl, khy0_3, khy0_4, khy0_6, hk⟩) h


/- function 58: (*gnomon/step.state).gives -/
def T_gnomon_step_state_gives_of_gnomon_step_state_negates_1_j1 (s8j1 : Int) (cp0j1_0 : Tapi_Cfg) (cp0j1_1 : Sl) (cp0j1_2 : Int) (ccp0j1_3 : (List Int)) (ccp0j1_4 : (List (List Int))) (cp0j1_5 : Sl) (ccp0j1_6 : (List Tapi_Event)) (_cr_1j1 : Tapi_Edge) (H : Hp) (K : Int → Tstep_state → (List Int) → (List (List Int)) → (List Tapi_Event) → Hp → Prop) : Prop :=
 K s8j1 (Tstep_state.mk cp0j1_0 cp0j1_1 cp0j1_2 (Sl.mk none 0 0) (Sl.mk none 0 0) cp0j1_5 (Sl.mk none 0 0)) ccp0j1_3 ccp0j1_4 ccp0j1_6 H
def T_gnomon_step_state_gives_of_gnomon_step_state_negates_1 (x0 : Tstep_state) (x0_3 : (List Int)) (x0_4 : (List (List Int))) (x0_6 : (List Tapi_Event)) (x1 : Tapi_Edge) (H : Hp) (K : Int → Tstep_state → (List Int) → (List (List Int)) → (List Tapi_Event) → Hp → Prop) : Prop :=
 C_gnomon_step_state_value (Tstep_state.mk x0.fc x0.ffrom x0.fpoint (Sl.mk none 0 0) (Sl.mk none 0 0) x0.fscript (Sl.mk none 0 0)) x0_3 x0_4 x0_6 x1.fA H (fun (r0_16 : Int) (H_8 : Hp) => 
 C_gnomon_step_state_value (Tstep_state.mk x0.fc x0.ffrom x0.fpoint (Sl.mk none 0 0) (Sl.mk none 0 0) x0.fscript (Sl.mk none 0 0)) x0_3 x0_4 x0_6 x1.fB H_8 (fun (r0_25 : Int) (H_17 : Hp) => 
 C_gnomon_step_state_negates_1 r0_16 r0_25 H_17 (fun (r0_34 : Int) (r1_34 : Int) (H_26 : Hp) => 
 (r1_34 = 0 →
 (0 : Int) ≤ x1.fDst ∧ ∃ x_37 : Int, (x0_3)[(x1.fDst : Int).toNat]? = some x_37 ∧
 T_gnomon_step_state_gives_of_gnomon_step_state_negates_1_j1 r1_34 x0.fc x0.ffrom x0.fpoint ((x0_3).set (x1.fDst : Int).toNat r0_34) x0_4 x0.fscript x0_6 x1 H_26 K) ∧
 (¬ (r1_34 = 0) →
 T_gnomon_step_state_gives_of_gnomon_step_state_negates_1_j1 r1_34 x0.fc x0.ffrom x0.fpoint x0_3 x0_4 x0.fscript x0_6 x1 H_26 K))))
theorem LF_gnomon_step_state_gives_of_gnomon_step_state_negates_1 (x0 : Tstep_state) (x0_3 : (List Int)) (x0_4 : (List (List Int))) (x0_6 : (List Tapi_Event)) (x1 : Tapi_Edge) (g0 : Nat) (sx0_3 : Sl) (Fx0_3 : Frag) (sx0_4 : Sl) (Fx0_4 : Frag) (sx0_6 : Sl) (Fx0_6 : Frag) (hx0_3 : RowL 2 1 cs_int64 sx0_3 x0_3 Fx0_3) (hx0_4 : RowsL 27 2 1 cs_int64 sx0_4 x0_4 Fx0_4) (hx0_6 : RowL 74 3 cs_api_Event sx0_6 x0_6 Fx0_6) {w0 w : World} {ps0 : Nat → Prop} {H0 H : Hp} {K : Int → Tstep_state → (List Int) → (List (List Int)) → (List Tapi_Event) → Hp → Prop} {R : Value → World → Prop} {E : Pan} (I : Inv w0 ps0 H0 H [bx g0 58 [(vs x0.fc.fVars), (vi x0.fc.fTemps), (vs x0.fc.fArrays), (vi x0.fc.fPoints), (vi x0.fc.fExit), (vs x0.fc.fEdges), (vs x0.ffrom), (vi x0.fpoint), (vs sx0_3), (vs sx0_4), (vs x0.fscript), (vs sx0_6)], Fx0_3, Fx0_4, Fx0_6] w) (hR : ∀ (r0 : Int) (y0 : Tstep_state) (y0_3 : (List Int)) (y0_4 : (List (List Int))) (y0_6 : (List Tapi_Event)) (sy0_3 : Sl) (Fy0_3 : Frag) (sy0_4 : Sl) (Fy0_4 : Frag) (sy0_6 : Sl) (Fy0_6 : Frag) (H' : Hp) (w' : World) (_ : RowL 2 1 cs_int64 sy0_3 y0_3 Fy0_3) (_ : RowsL 27 2 1 cs_int64 sy0_4 y0_4 Fy0_4) (_ : RowL 74 3 cs_api_Event sy0_6 y0_6 Fy0_6) (_ : Inv w0 ps0 H0 H' [bx g0 58 [(vs y0.fc.fVars), (vi y0.fc.fTemps), (vs y0.fc.fArrays), (vi y0.fc.fPoints), (vi y0.fc.fExit), (vs y0.fc.fEdges), (vs y0.ffrom), (vi y0.fpoint), (vs sy0_3), (vs sy0_4), (vs y0.fscript), (vs sy0_6)], Fy0_3, Fy0_4, Fy0_6] w') (_ : K r0 y0 y0_3 y0_4 y0_6 H'), R (vi r0) w') (h : T_gnomon_step_state_gives_of_gnomon_step_state_negates_1 x0 x0_3 x0_4 x0_6 x1 H K) : F58 (Value.pointer (some ⟨g0, 0, none⟩)) (Value.agg (cs_api_Edge x1).toArray) (Value.func (.func 59) #[] #[]) w R E := by
 unfold T_gnomon_step_state_gives_of_gnomon_step_state_negates_1 at h
 unfold F58
 refine s_box I (cs := (cs_api_Edge x1)) rfl fun g_2 w_3 I_4 k_5 => ?_
 refine s_dX I_4 fun w_6 I_7 => ?_
 refine qP_pu pu_fa_52_6 ?_
 refine qP_pu pu_fa_52_7 ?_
 refine qL_ld (ldA Try.isAgg50 Try.sizeOf50 rfl (I_7.at1 (o := 6) (vs := (cs_api_Operand x1.fA)) (nb rfl) rfl)) ?_
 refine qL_ld (ldA Try.isAgg50 Try.sizeOf50 rfl (I_7.at1 (o := 8) (vs := (cs_api_Operand x1.fB)) (nb rfl) rfl)) ?_
 refine opK_calls (cap := []) (fun args w => Try.call44 args w) ?_
 refine Cv_ct (Fi := [bx g0 58 [(vs x0.fc.fVars), (vi x0.fc.fTemps), (vs x0.fc.fArrays), (vi x0.fc.fPoints), (vi x0.fc.fExit), (vs x0.fc.fEdges), (vs x0.ffrom), (vi x0.fpoint), (vs sx0_3), (vs sx0_4), (vs x0.fscript), (vs sx0_6)], Fx0_3, Fx0_4, Fx0_6]) (Fr := [bx g_2 52 (cs_api_Edge x1)]) ((((I_7.bring 4).bring 4).bring 4).bring 4) (h g0 sx0_3 Fx0_3 sx0_4 Fx0_4 sx0_6 Fx0_6 hx0_3 hx0_4 hx0_6) (fun v_12 H_8 F_13 w_9 I_10 l_15 k_11 q_14 => ?_) (fun _ _ _ _ _ q => q.elim)
 obtain ⟨r0_16, rfl, rfl, h⟩ := q_14
 refine ⟨(k_11 _ I_7.lt1 (Inv.not_in (Fi := [bx g0 58 [(vs x0.fc.fVars), (vi x0.fc.fTemps), (vs x0.fc.fArrays), (vi x0.fc.fPoints), (vi x0.fc.fExit), (vs x0.fc.fEdges), (vs x0.ffrom), (vi x0.fpoint), (vs sx0_3), (vs sx0_4), (vs x0.fscript), (vs sx0_6)], Fx0_3, Fx0_4, Fx0_6]) ((((I_7.bring 4).bring 4).bring 4).bring 4))), ?_⟩
 refine opK_calls (cap := []) (fun args w => Try.call44 args w) ?_
 refine Cv_ct (Fi := [bx g0 58 [(vs x0.fc.fVars), (vi x0.fc.fTemps), (vs x0.fc.fArrays), (vi x0.fc.fPoints), (vi x0.fc.fExit), (vs x0.fc.fEdges), (vs x0.ffrom), (vi x0.fpoint), (vs sx0_3), (vs sx0_4), (vs x0.fscript), (vs sx0_6)], Fx0_3, Fx0_4, Fx0_6]) (Fr := [bx g_2 52 (cs_api_Edge x1)]) ((((I_10.bring 3).bring 3).bring 3).bring 3) (h g0 sx0_3 Fx0_3 sx0_4 Fx0_4 sx0_6 Fx0_6 hx0_3 hx0_4 hx0_6) (fun v_21 H_17 F_22 w_18 I_19 l_24 k_20 q_23 => ?_) (fun _ _ _ _ _ q => q.elim)
 obtain ⟨r0_25, rfl, rfl, h⟩ := q_23
 refine opK_calls (cap := []) (fun args w => Try.call59 args w) ?_
 refine Cv_ct (Fi := []) (Fr := [bx g0 58 [(vs x0.fc.fVars), (vi x0.fc.fTemps), (vs x0.fc.fArrays), (vi x0.fc.fPoints), (vi x0.fc.fExit), (vs x0.fc.fEdges), (vs x0.ffrom), (vi x0.fpoint), (vs sx0_3), (vs sx0_4), (vs x0.fscript), (vs sx0_6)], Fx0_3, Fx0_4, Fx0_6, bx g_2 52 (cs_api_Edge x1)]) I_19 (h) (fun v_30 H_26 F_31 w_27 I_28 l_33 k_29 q_32 => ?_) (fun _ _ _ _ _ q => q.elim)
 obtain ⟨r0_34, r1_34, rfl, rfl, h⟩ := q_32
 refine qP_pu (pu_extract _ _ _ rfl) ?_
 refine qP_pu (pu_extract _ _ _ rfl) ?_
 have hj1 : ∀ (cp0j1_0 : Tapi_Cfg) (cp0j1_1 : Sl) (cp0j1_2 : Int) (ccp0j1_3 : (List Int)) (cp0j1_5 : Sl) (Fcp0j1_3 : Frag) (H : Hp) (w : World) (_ : RowL 2 1 cs_int64 sx0_3 ccp0j1_3 Fcp0j1_3) (_ : Inv w0 ps0 H0 H [bx g0 58 [(vs cp0j1_0.fVars), (vi cp0j1_0.fTemps), (vs cp0j1_0.fArrays), (vi cp0j1_0.fPoints), (vi cp0j1_0.fExit), (vs cp0j1_0.fEdges), (vs cp0j1_1), (vi cp0j1_2), (vs sx0_3), (vs sx0_4), (vs cp0j1_5), (vs sx0_6)], bx g_2 52 (cs_api_Edge x1), Fx0_4, Fx0_6, Fcp0j1_3] w) (_ : T_gnomon_step_state_gives_of_gnomon_step_state_negates_1_j1 r1_34 cp0j1_0 cp0j1_1 cp0j1_2 ccp0j1_3 x0_4 cp0j1_5 x0_6 x1 H K), F58_j1 (vi r1_34) w R E := by
  intro cp0j1_0 cp0j1_1 cp0j1_2 ccp0j1_3 cp0j1_5 Fcp0j1_3 H w hcp0j1_3 I h
  unfold F58_j1
  intro _
  unfold T_gnomon_step_state_gives_of_gnomon_step_state_negates_1_j1 at h
  exact hR r1_34 (Tstep_state.mk cp0j1_0 cp0j1_1 cp0j1_2 (Sl.mk none 0 0) (Sl.mk none 0 0) cp0j1_5 (Sl.mk none 0 0)) ccp0j1_3 x0_4 x0_6 sx0_3 Fcp0j1_3 sx0_4 Fx0_4 sx0_6 Fx0_6 H _ hcp0j1_3 hx0_4 hx0_6 (((((I.bring 1).drop.bring 2).bring 2).bring 3).bring 3) h
 refine xcut_i fun j1 hx1 => ?_
 refine opK_pu (pu_eql _ _ _ _ _ _) ?_
 refine xcond_p (fun c_49 => ?_) (fun c_49 => ?_)
 ·replace h := h.1 c_49
  refine s_dX I_28 fun w_35 I_36 => ?_
  refine qP_pu (pu_nilp _) ?_
  refine qP_pu pu_fa_58_3 ?_
  refine qP_pu pu_fa_52_3 ?_
  refine qL_ld (ld1 Try.isAgg27 (I_36.at1 (o := 8) (vs := [(vs sx0_3)]) (nb rfl) rfl)) ?_
  refine qL_ld (ld1 Try.isAgg3 ((I_36.bring 4).at1 (o := 3) (vs := [(vi x1.fDst)]) (nb rfl) rfl)) ?_
  obtain ⟨h_39, x_37, h_40, h⟩ := h
  obtain ⟨g_38, a_42, h_41, h_43⟩ := hx0_3.addr h_40
  refine qP_pu (pu_ix_27 h_41 _ _ _ _ h_39 (hx0_3.lt h_39 h_40)) ?_
  refine s_rowst (x := r0_34) (I_36.bring 1) hx0_3 h_41 (List.getElem?_eq_some_iff.1 h_40).1 Try.sizeOf2 rfl fun F_44 w_45 h_46 I_47 k_48 => ?_
  exact hx1 _ _ (hj1 x0.fc x0.ffrom x0.fpoint ((x0_3).set (x1.fDst : Int).toNat r0_34) x0.fscript F_44 H_26 _ h_46 ((((I_47.bring 3).bring 3).bring 4).bring 4) h)
 ·replace h := h.2 c_49
  exact hx1 _ _ (hj1 x0.fc x0.ffrom x0.fpoint x0_3 x0.fscript Fx0_3 H_26 _ hx0_3 (((((I_28.bring 1).bring 3).bring 3).bring 4).bring 4) h)
theorem L_gnomon_step_state_gives_of_gnomon_step_state_negates_1 (x0 : Tstep_state) (x0_3 : (List Int)) (x0_4 : (List (List Int))) (x0_6 : (List Tapi_Event)) (x1 : Tapi_Edge) {H : Hp} {K : Int → Tstep_state → (List Int) → (List (List Int)) → (List Tapi_Event) → Hp → Prop} (h : T_gnomon_step_state_gives_of_gnomon_step_state_negates_1 x0 x0_3 x0_4 x0_6 x1 H K) : C_gnomon_step_state_gives_of_gnomon_step_state_negates_1 x0 x0_3 x0_4 x0_6 x1 H K := by
 intro g0 sx0_3 Fx0_3 sx0_4 Fx0_4 sx0_6 Fx0_6 hx0_3 hx0_4 hx0_6 w I
 refine F58_ok ?_
 refine LF_gnomon_step_state_gives_of_gnomon_step_state_negates_1 x0 x0_3 x0_4 x0_6 x1 g0 sx0_3 Fx0_3 sx0_4 Fx0_4 sx0_6 Fx0_6 hx0_3 hx0_4 hx0_6 I (fun r0 y0 y0_3 y0_4 y0_6 sy0_3 Fy0_3 sy0_4 Fy0_4 sy0_6 Fy0_6 H' w' khy0_3 khy0_4 khy0_6 I' hk => ⟨H', _, I', r0, y0, y0_3, y0_4, y0_6, sy0_3, Fy0_3, sy0_4, Fy0_4, sy0_6, Fy0_6, rfl, rfl, khy0_3, khy0_4, khy0_6, hk⟩) h


/- function 61: gnomon/num.Add -/
def T_gnomon_num_Add (x0 : Int) (x1 : Int) (H : Hp) (K : Int → Int → Hp → Prop) : Prop :=
 ((((decide (x0 < 0)) == (decide (x1 < 0))) && ((decide ((IntKind.wrap .i64 (x0 + x1)) < 0)) != (decide (x0 < 0)))) = true →
 K 0 1 H) ∧
 ((((decide (x0 < 0)) == (decide (x1 < 0))) && ((decide ((IntKind.wrap .i64 (x0 + x1)) < 0)) != (decide (x0 < 0)))) = false →
 K (IntKind.wrap .i64 (x0 + x1)) 0 H)
theorem LF_gnomon_num_Add (x0 : Int) (x1 : Int) {w0 w : World} {ps0 : Nat → Prop} {H0 H : Hp} {K : Int → Int → Hp → Prop} {R : Value → World → Prop} {E : Pan} (I : Inv w0 ps0 H0 H [] w) (hR : ∀ (r0 : Int) (r1 : Int) (H' : Hp) (w' : World) (_ : Inv w0 ps0 H0 H' [] w') (_ : K r0 r1 H'), R (Value.tuple #[(vi r0), (vi r1)]) w') (h : T_gnomon_num_Add x0 x1 H K) : F61 (vi x0) (vi x1) w R E := by
 unfold T_gnomon_num_Add at h
 unfold F61
 refine opK_pu (pu_add _ _ _ _ _ _) ?_
 refine opK_pu (pu_lss _ _ _ _ _ _) ?_
 refine opK_pu (pu_lss _ _ _ _ _ _) ?_
 refine opK_pu (pu_eqb_4 _ _ _ _) ?_
 try simp only [gval_b]
 refine opK_pu (Pu.g fun hb => by have hb_0 := hb; first | exact (pu_lss _ _ _ _ _ _) | (simp only [gv_t hb_0]; exact (pu_lss _ _ _ _ _ _)) | (simp only [gval_t hb_0, gv_t hb_0, gv_t hb, gva_tf hb_0, gv_n]; exact (pu_lss _ _ _ _ _ _))) ?_
 try simp only [gval_b, gv_gv, gvl_tt, gvl_tf, gvl_ft, gvl_ff, gvg_tt, gvg_tf, gvg_ft, gvg_ff]
 refine opK_pu (Pu.g fun hb => by have hb_0 := hb; first | exact (pu_lss _ _ _ _ _ _) | (simp only [gv_t hb_0]; exact (pu_lss _ _ _ _ _ _)) | (simp only [gval_t hb_0, gv_t hb_0, gv_t hb, gva_tf hb_0, gv_n]; exact (pu_lss _ _ _ _ _ _))) ?_
 refine opK_pu (Pu.g fun hb => by have hb_0 := hb; first | exact (pu_neb_4 _ _ _ _) | (simp only [gv_t hb_0]; exact (pu_neb_4 _ _ _ _)) | (simp only [gval_t hb_0, gv_t hb_0, gv_t hb, gva_tf hb_0, gv_n]; exact (pu_neb_4 _ _ _ _))) ?_
 refine opK_pu (pu_and _ _) ?_
 refine xcond_b (fun c_1 => ?_) (fun c_1 => ?_)
 ·replace h := h.1 c_1
  exact hR 0 1 H _ I h
 ·replace h := h.2 c_1
  exact hR (IntKind.wrap .i64 (x0 + x1)) 0 H _ I h
theorem L_gnomon_num_Add (x0 : Int) (x1 : Int) {H : Hp} {K : Int → Int → Hp → Prop} (h : T_gnomon_num_Add x0 x1 H K) : C_gnomon_num_Add x0 x1 H K := by
 intro w I
 refine F61_ok ?_
 refine LF_gnomon_num_Add x0 x1 I (fun r0 r1 H' w' I' hk => ⟨H', _, I', r0, r1, rfl, rfl, hk⟩) h


/- function 58: (*gnomon/step.state).gives -/
def T_gnomon_step_state_gives_of_gnomon_num_Sub_j1 (s8j1 : Int) (cp0j1_0 : Tapi_Cfg) (cp0j1_1 : Sl) (cp0j1_2 : Int) (ccp0j1_3 : (List Int)) (ccp0j1_4 : (List (List Int))) (cp0j1_5 : Sl) (ccp0j1_6 : (List Tapi_Event)) (_cr_1j1 : Tapi_Edge) (H : Hp) (K : Int → Tstep_state → (List Int) → (List (List Int)) → (List Tapi_Event) → Hp → Prop) : Prop :=
 K s8j1 (Tstep_state.mk cp0j1_0 cp0j1_1 cp0j1_2 (Sl.mk none 0 0) (Sl.mk none 0 0) cp0j1_5 (Sl.mk none 0 0)) ccp0j1_3 ccp0j1_4 ccp0j1_6 H
def T_gnomon_step_state_gives_of_gnomon_num_Sub (x0 : Tstep_state) (x0_3 : (List Int)) (x0_4 : (List (List Int))) (x0_6 : (List Tapi_Event)) (x1 : Tapi_Edge) (H : Hp) (K : Int → Tstep_state → (List Int) → (List (List Int)) → (List Tapi_Event) → Hp → Prop) : Prop :=
 C_gnomon_step_state_value (Tstep_state.mk x0.fc x0.ffrom x0.fpoint (Sl.mk none 0 0) (Sl.mk none 0 0) x0.fscript (Sl.mk none 0 0)) x0_3 x0_4 x0_6 x1.fA H (fun (r0_16 : Int) (H_8 : Hp) => 
 C_gnomon_step_state_value (Tstep_state.mk x0.fc x0.ffrom x0.fpoint (Sl.mk none 0 0) (Sl.mk none 0 0) x0.fscript (Sl.mk none 0 0)) x0_3 x0_4 x0_6 x1.fB H_8 (fun (r0_25 : Int) (H_17 : Hp) => 
 C_gnomon_num_Sub r0_16 r0_25 H_17 (fun (r0_34 : Int) (r1_34 : Int) (H_26 : Hp) => 
 (r1_34 = 0 →
 (0 : Int) ≤ x1.fDst ∧ ∃ x_37 : Int, (x0_3)[(x1.fDst : Int).toNat]? = some x_37 ∧
 T_gnomon_step_state_gives_of_gnomon_num_Sub_j1 r1_34 x0.fc x0.ffrom x0.fpoint ((x0_3).set (x1.fDst : Int).toNat r0_34) x0_4 x0.fscript x0_6 x1 H_26 K) ∧
 (¬ (r1_34 = 0) →
 T_gnomon_step_state_gives_of_gnomon_num_Sub_j1 r1_34 x0.fc x0.ffrom x0.fpoint x0_3 x0_4 x0.fscript x0_6 x1 H_26 K))))
theorem LF_gnomon_step_state_gives_of_gnomon_num_Sub (x0 : Tstep_state) (x0_3 : (List Int)) (x0_4 : (List (List Int))) (x0_6 : (List Tapi_Event)) (x1 : Tapi_Edge) (g0 : Nat) (sx0_3 : Sl) (Fx0_3 : Frag) (sx0_4 : Sl) (Fx0_4 : Frag) (sx0_6 : Sl) (Fx0_6 : Frag) (hx0_3 : RowL 2 1 cs_int64 sx0_3 x0_3 Fx0_3) (hx0_4 : RowsL 27 2 1 cs_int64 sx0_4 x0_4 Fx0_4) (hx0_6 : RowL 74 3 cs_api_Event sx0_6 x0_6 Fx0_6) {w0 w : World} {ps0 : Nat → Prop} {H0 H : Hp} {K : Int → Tstep_state → (List Int) → (List (List Int)) → (List Tapi_Event) → Hp → Prop} {R : Value → World → Prop} {E : Pan} (I : Inv w0 ps0 H0 H [bx g0 58 [(vs x0.fc.fVars), (vi x0.fc.fTemps), (vs x0.fc.fArrays), (vi x0.fc.fPoints), (vi x0.fc.fExit), (vs x0.fc.fEdges), (vs x0.ffrom), (vi x0.fpoint), (vs sx0_3), (vs sx0_4), (vs x0.fscript), (vs sx0_6)], Fx0_3, Fx0_4, Fx0_6] w) (hR : ∀ (r0 : Int) (y0 : Tstep_state) (y0_3 : (List Int)) (y0_4 : (List (List Int))) (y0_6 : (List Tapi_Event)) (sy0_3 : Sl) (Fy0_3 : Frag) (sy0_4 : Sl) (Fy0_4 : Frag) (sy0_6 : Sl) (Fy0_6 : Frag) (H' : Hp) (w' : World) (_ : RowL 2 1 cs_int64 sy0_3 y0_3 Fy0_3) (_ : RowsL 27 2 1 cs_int64 sy0_4 y0_4 Fy0_4) (_ : RowL 74 3 cs_api_Event sy0_6 y0_6 Fy0_6) (_ : Inv w0 ps0 H0 H' [bx g0 58 [(vs y0.fc.fVars), (vi y0.fc.fTemps), (vs y0.fc.fArrays), (vi y0.fc.fPoints), (vi y0.fc.fExit), (vs y0.fc.fEdges), (vs y0.ffrom), (vi y0.fpoint), (vs sy0_3), (vs sy0_4), (vs y0.fscript), (vs sy0_6)], Fy0_3, Fy0_4, Fy0_6] w') (_ : K r0 y0 y0_3 y0_4 y0_6 H'), R (vi r0) w') (h : T_gnomon_step_state_gives_of_gnomon_num_Sub x0 x0_3 x0_4 x0_6 x1 H K) : F58 (Value.pointer (some ⟨g0, 0, none⟩)) (Value.agg (cs_api_Edge x1).toArray) (Value.func (.func 62) #[] #[]) w R E := by
 unfold T_gnomon_step_state_gives_of_gnomon_num_Sub at h
 unfold F58
 refine s_box I (cs := (cs_api_Edge x1)) rfl fun g_2 w_3 I_4 k_5 => ?_
 refine s_dX I_4 fun w_6 I_7 => ?_
 refine qP_pu pu_fa_52_6 ?_
 refine qP_pu pu_fa_52_7 ?_
 refine qL_ld (ldA Try.isAgg50 Try.sizeOf50 rfl (I_7.at1 (o := 6) (vs := (cs_api_Operand x1.fA)) (nb rfl) rfl)) ?_
 refine qL_ld (ldA Try.isAgg50 Try.sizeOf50 rfl (I_7.at1 (o := 8) (vs := (cs_api_Operand x1.fB)) (nb rfl) rfl)) ?_
 refine opK_calls (cap := []) (fun args w => Try.call44 args w) ?_
 refine Cv_ct (Fi := [bx g0 58 [(vs x0.fc.fVars), (vi x0.fc.fTemps), (vs x0.fc.fArrays), (vi x0.fc.fPoints), (vi x0.fc.fExit), (vs x0.fc.fEdges), (vs x0.ffrom), (vi x0.fpoint), (vs sx0_3), (vs sx0_4), (vs x0.fscript), (vs sx0_6)], Fx0_3, Fx0_4, Fx0_6]) (Fr := [bx g_2 52 (cs_api_Edge x1)]) ((((I_7.bring 4).bring 4).bring 4).bring 4) (h g0 sx0_3 Fx0_3 sx0_4 Fx0_4 sx0_6 Fx0_6 hx0_3 hx0_4 hx0_6) (fun v_12 H_8 F_13 w_9 I_10 l_15 k_11 q_14 => ?_) (fun _ _ _ _ _ q => q.elim)
 obtain ⟨r0_16, rfl, rfl, h⟩ := q_14
 refine ⟨(k_11 _ I_7.lt1 (Inv.not_in (Fi := [bx g0 58 [(vs x0.fc.fVars), (vi x0.fc.fTemps), (vs x0.fc.fArrays), (vi x0.fc.fPoints), (vi x0.fc.fExit), (vs x0.fc.fEdges), (vs x0.ffrom), (vi x0.fpoint), (vs sx0_3), (vs sx0_4), (vs x0.fscript), (vs sx0_6)], Fx0_3, Fx0_4, Fx0_6]) ((((I_7.bring 4).bring 4).bring 4).bring 4))), ?_⟩
 refine opK_calls (cap := []) (fun args w => Try.call44 args w) ?_
 refine Cv_ct (Fi := [bx g0 58 [(vs x0.fc.fVars), (vi x0.fc.fTemps), (vs x0.fc.fArrays), (vi x0.fc.fPoints), (vi x0.fc.fExit), (vs x0.fc.fEdges), (vs x0.ffrom), (vi x0.fpoint), (vs sx0_3), (vs sx0_4), (vs x0.fscript), (vs sx0_6)], Fx0_3, Fx0_4, Fx0_6]) (Fr := [bx g_2 52 (cs_api_Edge x1)]) ((((I_10.bring 3).bring 3).bring 3).bring 3) (h g0 sx0_3 Fx0_3 sx0_4 Fx0_4 sx0_6 Fx0_6 hx0_3 hx0_4 hx0_6) (fun v_21 H_17 F_22 w_18 I_19 l_24 k_20 q_23 => ?_) (fun _ _ _ _ _ q => q.elim)
 obtain ⟨r0_25, rfl, rfl, h⟩ := q_23
 refine opK_calls (cap := []) (fun args w => Try.call62 args w) ?_
 refine Cv_ct (Fi := []) (Fr := [bx g0 58 [(vs x0.fc.fVars), (vi x0.fc.fTemps), (vs x0.fc.fArrays), (vi x0.fc.fPoints), (vi x0.fc.fExit), (vs x0.fc.fEdges), (vs x0.ffrom), (vi x0.fpoint), (vs sx0_3), (vs sx0_4), (vs x0.fscript), (vs sx0_6)], Fx0_3, Fx0_4, Fx0_6, bx g_2 52 (cs_api_Edge x1)]) I_19 (h) (fun v_30 H_26 F_31 w_27 I_28 l_33 k_29 q_32 => ?_) (fun _ _ _ _ _ q => q.elim)
 obtain ⟨r0_34, r1_34, rfl, rfl, h⟩ := q_32
 refine qP_pu (pu_extract _ _ _ rfl) ?_
 refine qP_pu (pu_extract _ _ _ rfl) ?_
 have hj1 : ∀ (cp0j1_0 : Tapi_Cfg) (cp0j1_1 : Sl) (cp0j1_2 : Int) (ccp0j1_3 : (List Int)) (cp0j1_5 : Sl) (Fcp0j1_3 : Frag) (H : Hp) (w : World) (_ : RowL 2 1 cs_int64 sx0_3 ccp0j1_3 Fcp0j1_3) (_ : Inv w0 ps0 H0 H [bx g0 58 [(vs cp0j1_0.fVars), (vi cp0j1_0.fTemps), (vs cp0j1_0.fArrays), (vi cp0j1_0.fPoints), (vi cp0j1_0.fExit), (vs cp0j1_0.fEdges), (vs cp0j1_1), (vi cp0j1_2), (vs sx0_3), (vs sx0_4), (vs cp0j1_5), (vs sx0_6)], bx g_2 52 (cs_api_Edge x1), Fx0_4, Fx0_6, Fcp0j1_3] w) (_ : T_gnomon_step_state_gives_of_gnomon_num_Sub_j1 r1_34 cp0j1_0 cp0j1_1 cp0j1_2 ccp0j1_3 x0_4 cp0j1_5 x0_6 x1 H K), F58_j1 (vi r1_34) w R E := by
  intro cp0j1_0 cp0j1_1 cp0j1_2 ccp0j1_3 cp0j1_5 Fcp0j1_3 H w hcp0j1_3 I h
  unfold F58_j1
  intro _
  unfold T_gnomon_step_state_gives_of_gnomon_num_Sub_j1 at h
  exact hR r1_34 (Tstep_state.mk cp0j1_0 cp0j1_1 cp0j1_2 (Sl.mk none 0 0) (Sl.mk none 0 0) cp0j1_5 (Sl.mk none 0 0)) ccp0j1_3 x0_4 x0_6 sx0_3 Fcp0j1_3 sx0_4 Fx0_4 sx0_6 Fx0_6 H _ hcp0j1_3 hx0_4 hx0_6 (((((I.bring 1).drop.bring 2).bring 2).bring 3).bring 3) h
 refine xcut_i fun j1 hx1 => ?_
 refine opK_pu (pu_eql _ _ _ _ _ _) ?_
 refine xcond_p (fun c_49 => ?_) (fun c_49 => ?_)
 ·replace h := h.1 c_49
  refine s_dX I_28 fun w_35 I_36 => ?_
  refine qP_pu (pu_nilp _) ?_
  refine qP_pu pu_fa_58_3 ?_
  refine qP_pu pu_fa_52_3 ?_
  refine qL_ld (ld1 Try.isAgg27 (I_36.at1 (o := 8) (vs := [(vs sx0_3)]) (nb rfl) rfl)) ?_
  refine qL_ld (ld1 Try.isAgg3 ((I_36.bring 4).at1 (o := 3) (vs := [(vi x1.fDst)]) (nb rfl) rfl)) ?_
  obtain ⟨h_39, x_37, h_40, h⟩ := h
  obtain ⟨g_38, a_42, h_41, h_43⟩ := hx0_3.addr h_40
  refine qP_pu (pu_ix_27 h_41 _ _ _ _ h_39 (hx0_3.lt h_39 h_40)) ?_
  refine s_rowst (x := r0_34) (I_36.bring 1) hx0_3 h_41 (List.getElem?_eq_some_iff.1 h_40).1 Try.sizeOf2 rfl fun F_44 w_45 h_46 I_47 k_48 => ?_
  exact hx1 _ _ (hj1 x0.fc x0.ffrom x0.fpoint ((x0_3).set (x1.fDst : Int).toNat r0_34) x0.fscript F_44 H_26 _ h_46 ((((I_47.bring 3).bring 3).bring 4).bring 4) h)
 ·replace h := h.2 c_49
  exact hx1 _ _ (hj1 x0.fc x0.ffrom x0.fpoint x0_3 x0.fscript Fx0_3 H_26 _ hx0_3 (((((I_28.bring 1).bring 3).bring 3).bring 4).bring 4) h)
theorem L_gnomon_step_state_gives_of_gnomon_num_Sub (x0 : Tstep_state) (x0_3 : (List Int)) (x0_4 : (List (List Int))) (x0_6 : (List Tapi_Event)) (x1 : Tapi_Edge) {H : Hp} {K : Int → Tstep_state → (List Int) → (List (List Int)) → (List Tapi_Event) → Hp → Prop} (h : T_gnomon_step_state_gives_of_gnomon_num_Sub x0 x0_3 x0_4 x0_6 x1 H K) : C_gnomon_step_state_gives_of_gnomon_num_Sub x0 x0_3 x0_4 x0_6 x1 H K := by
 intro g0 sx0_3 Fx0_3 sx0_4 Fx0_4 sx0_6 Fx0_6 hx0_3 hx0_4 hx0_6 w I
 refine F58_ok ?_
 refine LF_gnomon_step_state_gives_of_gnomon_num_Sub x0 x0_3 x0_4 x0_6 x1 g0 sx0_3 Fx0_3 sx0_4 Fx0_4 sx0_6 Fx0_6 hx0_3 hx0_4 hx0_6 I (fun r0 y0 y0_3 y0_4 y0_6 sy0_3 Fy0_3 sy0_4 Fy0_4 sy0_6 Fy0_6 H' w' khy0_3 khy0_4 khy0_6 I' hk => ⟨H', _, I', r0, y0, y0_3, y0_4, y0_6, sy0_3, Fy0_3, sy0_4, Fy0_4, sy0_6, Fy0_6, rfl, rfl, khy0_3, khy0_4, khy0_6, hk⟩) h


/- function 64: gnomon/num.Div -/
def T_gnomon_num_Div (x0 : Int) (x1 : Int) (H : Hp) (K : Int → Int → Hp → Prop) : Prop :=
 C_gnomon_num_divides x0 x1 H (fun (r0_9 : Int) (H_1 : Hp) => 
 (¬ (r0_9 = 0) →
 K 0 r0_9 H_1) ∧
 (r0_9 = 0 →
 x1 ≠ 0 ∧
 K (IntKind.wrap .i64 (Int.tdiv x0 x1)) 0 H_1))
theorem LF_gnomon_num_Div (x0 : Int) (x1 : Int) {w0 w : World} {ps0 : Nat → Prop} {H0 H : Hp} {K : Int → Int → Hp → Prop} {R : Value → World → Prop} {E : Pan} (I : Inv w0 ps0 H0 H [] w) (hR : ∀ (r0 : Int) (r1 : Int) (H' : Hp) (w' : World) (_ : Inv w0 ps0 H0 H' [] w') (_ : K r0 r1 H'), R (Value.tuple #[(vi r0), (vi r1)]) w') (h : T_gnomon_num_Div x0 x1 H K) : F64 (vi x0) (vi x1) w R E := by
 unfold T_gnomon_num_Div at h
 unfold F64
 refine opK_calls (cap := []) (fun args w => Try.call78 args w) ?_
 refine Cv_ct (Fi := []) (Fr := []) I (h) (fun v_5 H_1 F_6 w_2 I_3 l_8 k_4 q_7 => ?_) (fun _ _ _ _ _ q => q.elim)
 obtain ⟨r0_9, rfl, rfl, h⟩ := q_7
 refine opK_pu (pu_neq _ _ _ _ _ _) ?_
 refine xcond_n (fun c_11 => ?_) (fun c_11 => ?_)
 ·replace h := h.1 c_11
  exact hR 0 r0_9 H_1 _ I_3 h
 ·replace h := h.2 c_11
  obtain ⟨h_10, h⟩ := h
  refine opK_pu (pu_quo _ _ _ _ _ _ h_10) ?_
  exact hR (IntKind.wrap .i64 (Int.tdiv x0 x1)) 0 H_1 _ I_3 h
theorem L_gnomon_num_Div (x0 : Int) (x1 : Int) {H : Hp} {K : Int → Int → Hp → Prop} (h : T_gnomon_num_Div x0 x1 H K) : C_gnomon_num_Div x0 x1 H K := by
 intro w I
 refine F64_ok ?_
 refine LF_gnomon_num_Div x0 x1 I (fun r0 r1 H' w' I' hk => ⟨H', _, I', r0, r1, rfl, rfl, hk⟩) h


/- function 36: (*gnomon/step.state).divides -/
def T_gnomon_step_state_divides (x0 : Tstep_state) (x0_3 : (List Int)) (x0_4 : (List (List Int))) (x0_6 : (List Tapi_Event)) (x1 : Tapi_Edge) (H : Hp) (K : Int → Tstep_state → (List Int) → (List (List Int)) → (List Tapi_Event) → Hp → Prop) : Prop :=
 C_gnomon_step_state_gives_of_gnomon_num_Div (Tstep_state.mk x0.fc x0.ffrom x0.fpoint (Sl.mk none 0 0) (Sl.mk none 0 0) x0.fscript (Sl.mk none 0 0)) x0_3 x0_4 x0_6 x1 H (fun (r0_14 : Int) (y0_14 : Tstep_state) (y0_3_14 : (List Int)) (y0_4_14 : (List (List Int))) (y0_6_14 : (List Tapi_Event)) (H_6 : Hp) => 
 K r0_14 (Tstep_state.mk ((y0_14).fc) ((y0_14).ffrom) ((y0_14).fpoint) (Sl.mk none 0 0) (Sl.mk none 0 0) ((y0_14).fscript) (Sl.mk none 0 0)) y0_3_14 y0_4_14 y0_6_14 H_6)
theorem LF_gnomon_step_state_divides (x0 : Tstep_state) (x0_3 : (List Int)) (x0_4 : (List (List Int))) (x0_6 : (List Tapi_Event)) (x1 : Tapi_Edge) (g0 : Nat) (sx0_3 : Sl) (Fx0_3 : Frag) (sx0_4 : Sl) (Fx0_4 : Frag) (sx0_6 : Sl) (Fx0_6 : Frag) (hx0_3 : RowL 2 1 cs_int64 sx0_3 x0_3 Fx0_3) (hx0_4 : RowsL 27 2 1 cs_int64 sx0_4 x0_4 Fx0_4) (hx0_6 : RowL 74 3 cs_api_Event sx0_6 x0_6 Fx0_6) {w0 w : World} {ps0 : Nat → Prop} {H0 H : Hp} {K : Int → Tstep_state → (List Int) → (List (List Int)) → (List Tapi_Event) → Hp → Prop} {R : Value → World → Prop} {E : Pan} (I : Inv w0 ps0 H0 H [bx g0 58 [(vs x0.fc.fVars), (vi x0.fc.fTemps), (vs x0.fc.fArrays), (vi x0.fc.fPoints), (vi x0.fc.fExit), (vs x0.fc.fEdges), (vs x0.ffrom), (vi x0.fpoint), (vs sx0_3), (vs sx0_4), (vs x0.fscript), (vs sx0_6)], Fx0_3, Fx0_4, Fx0_6] w) (hR : ∀ (r0 : Int) (y0 : Tstep_state) (y0_3 : (List Int)) (y0_4 : (List (List Int))) (y0_6 : (List Tapi_Event)) (sy0_3 : Sl) (Fy0_3 : Frag) (sy0_4 : Sl) (Fy0_4 : Frag) (sy0_6 : Sl) (Fy0_6 : Frag) (H' : Hp) (w' : World) (_ : RowL 2 1 cs_int64 sy0_3 y0_3 Fy0_3) (_ : RowsL 27 2 1 cs_int64 sy0_4 y0_4 Fy0_4) (_ : RowL 74 3 cs_api_Event sy0_6 y0_6 Fy0_6) (_ : Inv w0 ps0 H0 H' [bx g0 58 [(vs y0.fc.fVars), (vi y0.fc.fTemps), (vs y0.fc.fArrays), (vi y0.fc.fPoints), (vi y0.fc.fExit), (vs y0.fc.fEdges), (vs y0.ffrom), (vi y0.fpoint), (vs sy0_3), (vs sy0_4), (vs y0.fscript), (vs sy0_6)], Fy0_3, Fy0_4, Fy0_6] w') (_ : K r0 y0 y0_3 y0_4 y0_6 H'), R (vi r0) w') (h : T_gnomon_step_state_divides x0 x0_3 x0_4 x0_6 x1 H K) : F36 (Value.pointer (some ⟨g0, 0, none⟩)) (Value.agg (cs_api_Edge x1).toArray) w R E := by
 unfold T_gnomon_step_state_divides at h
 unfold F36
 refine s_box I (cs := (cs_api_Edge x1)) rfl fun g_2 w_3 I_4 k_5 => ?_
 refine opK_ld (ldA Try.isAgg52 Try.sizeOf52 rfl (I_4.at1 (o := 0) (vs := (cs_api_Edge x1)) (nb rfl) rfl)) ?_
 refine opK_calls (cap := []) (fun args w => Try.call58 args w) ?_
 refine Cv_ct (Fi := [bx g0 58 [(vs x0.fc.fVars), (vi x0.fc.fTemps), (vs x0.fc.fArrays), (vi x0.fc.fPoints), (vi x0.fc.fExit), (vs x0.fc.fEdges), (vs x0.ffrom), (vi x0.fpoint), (vs sx0_3), (vs sx0_4), (vs x0.fscript), (vs sx0_6)], Fx0_3, Fx0_4, Fx0_6]) (Fr := [bx g_2 52 (cs_api_Edge x1)]) ((((I_4.bring 4).bring 4).bring 4).bring 4) (h g0 sx0_3 Fx0_3 sx0_4 Fx0_4 sx0_6 Fx0_6 hx0_3 hx0_4 hx0_6) (fun v_10 H_6 F_11 w_7 I_8 l_13 k_9 q_12 => ?_) (fun _ _ _ _ _ q => q.elim)
 obtain ⟨r0_14, y0_14, y0_3_14, y0_4_14, y0_6_14, sy0_3_14, Fy0_3_14, sy0_4_14, Fy0_4_14, sy0_6_14, Fy0_6_14, rfl, rfl, hy0_3_14, hy0_4_14, hy0_6_14, h⟩ := q_12
 exact hR r0_14 (Tstep_state.mk ((y0_14).fc) ((y0_14).ffrom) ((y0_14).fpoint) (Sl.mk none 0 0) (Sl.mk none 0 0) ((y0_14).fscript) (Sl.mk none 0 0)) y0_3_14 y0_4_14 y0_6_14 sy0_3_14 Fy0_3_14 sy0_4_14 Fy0_4_14 sy0_6_14 Fy0_6_14 H_6 _ hy0_3_14 hy0_4_14 hy0_6_14 (((((I_8.bring 4).drop.bring 3).bring 3).bring 3).bring 3) h
theorem L_gnomon_step_state_divides (x0 : Tstep_state) (x0_3 : (List Int)) (x0_4 : (List (List Int))) (x0_6 : (List Tapi_Event)) (x1 : Tapi_Edge) {H : Hp} {K : Int → Tstep_state → (List Int) → (List (List Int)) → (List Tapi_Event) → Hp → Prop} (h : T_gnomon_step_state_divides x0 x0_3 x0_4 x0_6 x1 H K) : C_gnomon_step_state_divides x0 x0_3 x0_4 x0_6 x1 H K := by
 intro g0 sx0_3 Fx0_3 sx0_4 Fx0_4 sx0_6 Fx0_6 hx0_3 hx0_4 hx0_6 w I
 refine F36_ok ?_
 refine LF_gnomon_step_state_divides x0 x0_3 x0_4 x0_6 x1 g0 sx0_3 Fx0_3 sx0_4 Fx0_4 sx0_6 Fx0_6 hx0_3 hx0_4 hx0_6 I (fun r0 y0 y0_3 y0_4 y0_6 sy0_3 Fy0_3 sy0_4 Fy0_4 sy0_6 Fy0_6 H' w' khy0_3 khy0_4 khy0_6 I' hk => ⟨H', _, I', r0, y0, y0_3, y0_4, y0_6, sy0_3, Fy0_3, sy0_4, Fy0_4, sy0_6, Fy0_6, rfl, rfl, khy0_3, khy0_4, khy0_6, hk⟩) h


/- function 41: (*gnomon/step.state).passes -/
def T_gnomon_step_state_passes (x0 : Tstep_state) (x0_3 : (List Int)) (x0_4 : (List (List Int))) (x0_6 : (List Tapi_Event)) (_x1 : Tapi_Edge) (H : Hp) (K : Int → Tstep_state → (List Int) → (List (List Int)) → (List Tapi_Event) → Hp → Prop) : Prop :=
 (x0_6.length + ([(Tapi_Event.mk false 0 true)] : List Tapi_Event).length) * 25 ≤ 140737488355328 ∧
 K 0 (Tstep_state.mk x0.fc x0.ffrom x0.fpoint (Sl.mk none 0 0) (Sl.mk none 0 0) x0.fscript (Sl.mk none 0 0)) x0_3 x0_4 (x0_6 ++ [(Tapi_Event.mk false 0 true)]) H
theorem LF_gnomon_step_state_passes (x0 : Tstep_state) (x0_3 : (List Int)) (x0_4 : (List (List Int))) (x0_6 : (List Tapi_Event)) (x1 : Tapi_Edge) (g0 : Nat) (sx0_3 : Sl) (Fx0_3 : Frag) (sx0_4 : Sl) (Fx0_4 : Frag) (sx0_6 : Sl) (Fx0_6 : Frag) (hx0_3 : RowL 2 1 cs_int64 sx0_3 x0_3 Fx0_3) (hx0_4 : RowsL 27 2 1 cs_int64 sx0_4 x0_4 Fx0_4) (hx0_6 : RowL 74 3 cs_api_Event sx0_6 x0_6 Fx0_6) {w0 w : World} {ps0 : Nat → Prop} {H0 H : Hp} {K : Int → Tstep_state → (List Int) → (List (List Int)) → (List Tapi_Event) → Hp → Prop} {R : Value → World → Prop} {E : Pan} (I : Inv w0 ps0 H0 H [bx g0 58 [(vs x0.fc.fVars), (vi x0.fc.fTemps), (vs x0.fc.fArrays), (vi x0.fc.fPoints), (vi x0.fc.fExit), (vs x0.fc.fEdges), (vs x0.ffrom), (vi x0.fpoint), (vs sx0_3), (vs sx0_4), (vs x0.fscript), (vs sx0_6)], Fx0_3, Fx0_4, Fx0_6] w) (hR : ∀ (r0 : Int) (y0 : Tstep_state) (y0_3 : (List Int)) (y0_4 : (List (List Int))) (y0_6 : (List Tapi_Event)) (sy0_3 : Sl) (Fy0_3 : Frag) (sy0_4 : Sl) (Fy0_4 : Frag) (sy0_6 : Sl) (Fy0_6 : Frag) (H' : Hp) (w' : World) (_ : RowL 2 1 cs_int64 sy0_3 y0_3 Fy0_3) (_ : RowsL 27 2 1 cs_int64 sy0_4 y0_4 Fy0_4) (_ : RowL 74 3 cs_api_Event sy0_6 y0_6 Fy0_6) (_ : Inv w0 ps0 H0 H' [bx g0 58 [(vs y0.fc.fVars), (vi y0.fc.fTemps), (vs y0.fc.fArrays), (vi y0.fc.fPoints), (vi y0.fc.fExit), (vs y0.fc.fEdges), (vs y0.ffrom), (vi y0.fpoint), (vs sy0_3), (vs sy0_4), (vs y0.fscript), (vs sy0_6)], Fy0_3, Fy0_4, Fy0_6] w') (_ : K r0 y0 y0_3 y0_4 y0_6 H'), R (vi r0) w') (h : T_gnomon_step_state_passes x0 x0_3 x0_4 x0_6 x1 H K) : F41 (Value.pointer (some ⟨g0, 0, none⟩)) (Value.agg (cs_api_Edge x1).toArray) w R E := by
 unfold T_gnomon_step_state_passes at h
 unfold F41
 refine s_box I (cs := (cs_api_Edge x1)) rfl fun g_2 w_3 I_4 k_5 => ?_
 refine opK_pu (pu_nilp _) ?_
 refine opK_pu pu_fa_58_6 ?_
 refine opK_ld (ld1 Try.isAgg31 ((I_4.bring 1).at1 (o := 11) (vs := [(vs sx0_6)]) (nb rfl) rfl)) ?_
 refine opK_pu (pu_bld_74_2 _) ?_
 refine s_bs (e := 74) (c := cs_api_Event) (xs := [(Tapi_Event.mk false 0 true)]) I_4 (bs_31_1 _ _ _) rfl rfl cs_api_Event_l cs_api_Event_o (nb rfl) fun s_7 F_8 w_9 h_10 I_11 k_12 => ?_
 obtain ⟨h_19, h⟩ := h
 refine app_31 (s := sx0_6) (xs := x0_6) (I_11.bring 5) hx0_6 (h_10.srcO ((I_11.bring 5).bring 1)) h_19 fun s_13 F_14 w_15 h_16 I_17 k_18 => ?_
 refine opK_pu (pu_nilp _) ?_
 refine opK_pu pu_fa_58_6 ?_
 refine s_store ((I_17.bring 1).drop.bring 2) Try.sizeOf31 (vs := [(vs s_13)]) (cs' := [(vs x0.fc.fVars), (vi x0.fc.fTemps), (vs x0.fc.fArrays), (vi x0.fc.fPoints), (vi x0.fc.fExit), (vs x0.fc.fEdges), (vs x0.ffrom), (vi x0.fpoint), (vs sx0_3), (vs sx0_4), (vs x0.fscript), (vs s_13)]) rfl rfl (nb rfl) rfl rfl fun w_20 I_21 k_22 => ?_
 exact hR 0 (Tstep_state.mk x0.fc x0.ffrom x0.fpoint (Sl.mk none 0 0) (Sl.mk none 0 0) x0.fscript (Sl.mk none 0 0)) x0_3 x0_4 (x0_6 ++ [(Tapi_Event.mk false 0 true)]) sx0_3 Fx0_3 sx0_4 Fx0_4 s_13 F_14 H _ hx0_3 hx0_4 h_16 (((((I_21.bring 2).drop.bring 1).bring 3).bring 3).bring 3) h
theorem L_gnomon_step_state_passes (x0 : Tstep_state) (x0_3 : (List Int)) (x0_4 : (List (List Int))) (x0_6 : (List Tapi_Event)) (x1 : Tapi_Edge) {H : Hp} {K : Int → Tstep_state → (List Int) → (List (List Int)) → (List Tapi_Event) → Hp → Prop} (h : T_gnomon_step_state_passes x0 x0_3 x0_4 x0_6 x1 H K) : C_gnomon_step_state_passes x0 x0_3 x0_4 x0_6 x1 H K := by
 intro g0 sx0_3 Fx0_3 sx0_4 Fx0_4 sx0_6 Fx0_6 hx0_3 hx0_4 hx0_6 w I
 refine F41_ok ?_
 refine LF_gnomon_step_state_passes x0 x0_3 x0_4 x0_6 x1 g0 sx0_3 Fx0_3 sx0_4 Fx0_4 sx0_6 Fx0_6 hx0_3 hx0_4 hx0_6 I (fun r0 y0 y0_3 y0_4 y0_6 sy0_3 Fy0_3 sy0_4 Fy0_4 sy0_6 Fy0_6 H' w' khy0_3 khy0_4 khy0_6 I' hk => ⟨H', _, I', r0, y0, y0_3, y0_4, y0_6, sy0_3, Fy0_3, sy0_4, Fy0_4, sy0_6, Fy0_6, rfl, rfl, khy0_3, khy0_4, khy0_6, hk⟩) h


/- function 27: (gnomon/cfg.graph).point -/
def T_gnomon_cfg_graph_point (x0 : Tcfg_graph) (x1 : Int) (H : Hp) (K : Bool → Hp → Prop) : Prop :=
 K ((decide (0 ≤ x1)) && (decide (x1 < x0.fCfg.fPoints))) H
theorem LF_gnomon_cfg_graph_point (x0 : Tcfg_graph) (x1 : Int) {w0 w : World} {ps0 : Nat → Prop} {H0 H : Hp} {K : Bool → Hp → Prop} {R : Value → World → Prop} {E : Pan} (I : Inv w0 ps0 H0 H [] w) (hR : ∀ (r0 : Bool) (H' : Hp) (w' : World) (_ : Inv w0 ps0 H0 H' [] w') (_ : K r0 H'), R (Value.bool r0) w') (h : T_gnomon_cfg_graph_point x0 x1 H K) : F27 (Value.agg (cs_api_Cfg x0.fCfg).toArray) (vi x1) w R E := by
 unfold T_gnomon_cfg_graph_point at h
 unfold F27
 refine s_box I (cs := (cs_api_Cfg x0.fCfg)) rfl fun g_2 w_3 I_4 k_5 => ?_
 refine opK_pu (pu_geq _ _ _ _ _ _) ?_
 try simp only [gval_b]
 refine opK_pu (Pu.g fun hb => by have hb_0 := hb; first | exact pu_fa_81_0 | (simp only [gval_t hb_0, gv_t hb_0, gv_t hb, gva_tt hb_0]; exact pu_fa_81_0) | (simp only [gval_t hb_0, gv_t hb_0, gv_t hb, gva_tf hb_0, gv_n]; exact pu_fa_81_0)) ?_
 refine opK_pu (Pu.g fun hb => by have hb_0 := hb; first | exact pu_fa_26_3 | (simp only [gv_t hb_0]; exact pu_fa_26_3) | (simp only [gval_t hb_0, gv_t hb_0, gv_t hb, gva_tf hb_0, gv_n]; exact pu_fa_26_3)) ?_
 refine opK_ld (Ld.g fun hb => by have hb_0 := hb; first | exact (ld1 Try.isAgg3 (I_4.at1 (o := 3) (vs := [(vi x0.fCfg.fPoints)]) (nb rfl) rfl)) | (simp only [gv_t hb_0]; exact (ld1 Try.isAgg3 (I_4.at1 (o := 3) (vs := [(vi x0.fCfg.fPoints)]) (nb rfl) rfl))) | (simp only [gval_t hb_0, gv_t hb_0, gv_t hb, gva_tf hb_0, gv_n]; exact (ld1 Try.isAgg3 (I_4.at1 (o := 3) (vs := [(vi x0.fCfg.fPoints)]) (nb rfl) rfl)))) ?_
 refine opK_pu (Pu.g fun hb => by have hb_0 := hb; first | exact (pu_lss _ _ _ _ _ _) | (simp only [gv_t hb_0]; exact (pu_lss _ _ _ _ _ _)) | (simp only [gval_t hb_0, gv_t hb_0, gv_t hb, gva_tf hb_0, gv_n]; exact (pu_lss _ _ _ _ _ _))) ?_
 refine opK_pu (pu_and _ _) ?_
 exact hR ((decide (0 ≤ x1)) && (decide (x1 < x0.fCfg.fPoints))) H _ I_4.drop h
theorem L_gnomon_cfg_graph_point (x0 : Tcfg_graph) (x1 : Int) {H : Hp} {K : Bool → Hp → Prop} (h : T_gnomon_cfg_graph_point x0 x1 H K) : C_gnomon_cfg_graph_point x0 x1 H K := by
 intro w I
 refine F27_ok ?_
 refine LF_gnomon_cfg_graph_point x0 x1 I (fun r0 H' w' I' hk => ⟨H', _, I', r0, rfl, rfl, hk⟩) h


/- function 15: gnomon/cfg.Check -/
def T_gnomon_cfg_Check_j3 (_cr_22j3 : Tcfg_graph) (_cr_1j3 : Tapi_Cfg) (H : Hp) (K : Int → Hp → Prop) : Prop :=
 K 0 H
def T_gnomon_cfg_Check_l4 (s6l4 : Sl) (s99l4 : Int) (cr_22l4 : Tcfg_graph) (cr_1l4 : Tapi_Cfg) (s100l4 : Int) (H : Hp) (n4 : Int → Hp → Prop) (K : Int → Hp → Prop) : Prop :=
 (s100l4 < s99l4 →
 (0 : Int) ≤ s100l4 ∧ (s100l4 : Int) < s6l4.n ∧ ∃ x_155 : Sl, EltH H s6l4 s100l4 1 [(vs x_155)] ∧ 
 C_gnomon_cfg_goes x_155 H (fun (r0_170 : Bool) (H_162 : Hp) => 
 ((!r0_170) = true →
 K 92 H_162) ∧
 ((!r0_170) = false →
 n4 (IntKind.wrap .i64 (s100l4 + 1)) H_162))) ∧
 (¬ (s100l4 < s99l4) →
 T_gnomon_cfg_Check_j3 cr_22l4 cr_1l4 H K)
def T_gnomon_cfg_Check_j2 (cs6j2 : (List (List Tapi_Edge))) (cr_22j2 : Tcfg_graph) (cr_1j2 : Tapi_Cfg) (H : Hp) (K : Int → Hp → Prop) : Prop :=
 ∀ (s_40 : Sl) (H_150 : Hp), Hle H H_150 → SlHH H_150 10 cs_api_Edge s_40 cs6j2 → s_40.n ≤ s_40.c →
 TL (0 : Int) H_150 fun (s : Int) H n4 => T_gnomon_cfg_Check_l4 s_40 cr_1j2.fPoints cr_22j2 cr_1j2 s H n4 K
def T_gnomon_cfg_Check_l5 (s75l5 : Sl) (s76l5 : Int) (cr_22l5 : Tcfg_graph) (cr_1l5 : Tapi_Cfg) (cs6l5 : (List (List Tapi_Edge))) (s77l5 : Int) (H : Hp) (n5 : ((List (List Tapi_Edge)) × Int) → Hp → Prop) (K : Int → Hp → Prop) : Prop :=
 (s77l5 < s76l5 →
 (0 : Int) ≤ s77l5 ∧ (s77l5 : Int) < s75l5.n ∧ ∃ x_48 : Tapi_Edge, EltH H s75l5 s77l5 10 (cs_api_Edge x_48) ∧ 
 C_gnomon_cfg_graph_right cr_22l5 x_48 H (fun (r0_71 : Bool) (H_63 : Hp) => 
 ((!r0_71) = true →
 K 92 H_63) ∧
 ((!r0_71) = false →
 (0 : Int) ≤ x_48.fFrom ∧ ∃ xs_75 : List Tapi_Edge, (cs6l5)[(x_48.fFrom : Int).toNat]? = some xs_75 ∧
 (xs_75.length + ([x_48] : List Tapi_Edge).length) * 81 ≤ 140737488355328 ∧
 n5 (((cs6l5).set (x_48.fFrom : Int).toNat (xs_75 ++ [x_48])), (IntKind.wrap .i64 (s77l5 + 1))) H_63))) ∧
 (¬ (s77l5 < s76l5) →
 T_gnomon_cfg_Check_j2 cs6l5 cr_22l5 cr_1l5 H K)
def T_gnomon_cfg_Check_j1 (cr_1j1 : Tapi_Cfg) (H : Hp) (K : Int → Hp → Prop) : Prop :=
 C_gnomon_cfg_graph_point (Tcfg_graph.mk cr_1j1) cr_1j1.fExit H (fun (r0_38 : Bool) (H_30 : Hp) => 
 ((!r0_38) = true →
 K 92 H_30) ∧
 ((!r0_38) = false →
 (0 : Int) ≤ cr_1j1.fPoints ∧ cr_1j1.fPoints * 25 ≤ 140737488355328 ∧
 TL (((List.replicate (cr_1j1.fPoints : Int).toNat ([] : List Tapi_Edge)), 0) : (List (List Tapi_Edge)) × Int) H_30 fun (s : (List (List Tapi_Edge)) × Int) H n5 => T_gnomon_cfg_Check_l5 cr_1j1.fEdges (cr_1j1.fEdges.n : Int) (Tcfg_graph.mk cr_1j1) cr_1j1 s.1 s.2 H n5 K))
def T_gnomon_cfg_Check_l6 (s49l6 : Sl) (s50l6 : Int) (cr_1l6 : Tapi_Cfg) (s51l6 : Int) (H : Hp) (n6 : Int → Hp → Prop) (K : Int → Hp → Prop) : Prop :=
 (s51l6 < s50l6 →
 (0 : Int) ≤ s51l6 ∧ (s51l6 : Int) < s49l6.n ∧ ∃ x_6 : Tapi_Decl, EltH H s49l6 s51l6 2 (cs_api_Decl x_6) ∧ 
 (((decide (x_6.fSize < 1)) || (decide (1024 < x_6.fSize))) = true →
 K 92 H) ∧
 (((decide (x_6.fSize < 1)) || (decide (1024 < x_6.fSize))) = false →
 n6 (IntKind.wrap .i64 (s51l6 + 1)) H)) ∧
 (¬ (s51l6 < s50l6) →
 T_gnomon_cfg_Check_j1 cr_1l6 H K)
def T_gnomon_cfg_Check (x0 : Tapi_Cfg) (H : Hp) (K : Int → Hp → Prop) : Prop :=
 ((((decide (x0.fTemps < 0)) || (decide (64 < x0.fTemps))) || (decide (64 < (IntKind.wrap .i64 ((x0.fVars.n : Int) + x0.fTemps))))) = true →
 K 90 H) ∧
 ((((decide (x0.fTemps < 0)) || (decide (64 < x0.fTemps))) || (decide (64 < (IntKind.wrap .i64 ((x0.fVars.n : Int) + x0.fTemps))))) = false →
 ((((decide (x0.fPoints < 1)) || (decide (4096 < x0.fPoints))) || (decide (8192 < (x0.fEdges.n : Int)))) = true →
 K 91 H) ∧
 ((((decide (x0.fPoints < 1)) || (decide (4096 < x0.fPoints))) || (decide (8192 < (x0.fEdges.n : Int)))) = false →
 (16 < (x0.fArrays.n : Int) →
 K 92 H) ∧
 (¬ (16 < (x0.fArrays.n : Int)) →
 TL (0 : Int) H fun (s : Int) H n6 => T_gnomon_cfg_Check_l6 x0.fArrays (x0.fArrays.n : Int) x0 s H n6 K)))
theorem LF_gnomon_cfg_Check (x0 : Tapi_Cfg) {w0 w : World} {ps0 : Nat → Prop} {H0 H : Hp} {K : Int → Hp → Prop} {R : Value → World → Prop} {E : Pan} (I : Inv w0 ps0 H0 H [] w) (hR : ∀ (r0 : Int) (H' : Hp) (w' : World) (_ : Inv w0 ps0 H0 H' [] w') (_ : K r0 H'), R (vi r0) w') (h : T_gnomon_cfg_Check x0 H K) : F15 (Value.agg (cs_api_Cfg x0).toArray) w R E := by
 unfold T_gnomon_cfg_Check at h
 unfold F15
 refine s_box I (cs := (cs_api_Cfg x0)) rfl fun g_2 w_3 I_4 k_5 => ?_
 refine opK_pu pu_fa_26_1 ?_
 refine opK_ld (ld1 Try.isAgg3 (I_4.at1 (o := 1) (vs := [(vi x0.fTemps)]) (nb rfl) rfl)) ?_
 refine opK_pu (pu_lss _ _ _ _ _ _) ?_
 refine opK_pu (Pu.g fun hb => by have hb_0 := hb; first | exact pu_fa_26_1 | (simp only [gval_t hb_0, gv_t hb_0, gv_t hb, gva_ft hb_0]; exact pu_fa_26_1) | (simp only [gval_t hb_0, gv_t hb_0, gv_t hb, gva_ff hb_0, gv_n]; exact pu_fa_26_1)) ?_
 refine opK_ld (Ld.g fun hb => by have hb_0 := hb; first | exact (ld1 Try.isAgg3 (I_4.at1 (o := 1) (vs := [(vi x0.fTemps)]) (nb rfl) rfl)) | (simp only [gv_t hb_0]; exact (ld1 Try.isAgg3 (I_4.at1 (o := 1) (vs := [(vi x0.fTemps)]) (nb rfl) rfl))) | (simp only [gval_t hb_0, gv_t hb_0, gv_t hb, gva_ff hb_0, gv_n]; exact (ld1 Try.isAgg3 (I_4.at1 (o := 1) (vs := [(vi x0.fTemps)]) (nb rfl) rfl)))) ?_
 refine opK_pu (Pu.g fun hb => by have hb_0 := hb; first | exact (pu_gtr _ _ _ _ _ _) | (simp only [gv_t hb_0]; exact (pu_gtr _ _ _ _ _ _)) | (simp only [gval_t hb_0, gv_t hb_0, gv_t hb, gva_ff hb_0, gv_n]; exact (pu_gtr _ _ _ _ _ _))) ?_
 refine opK_pu (pu_or _ _) ?_
 refine opK_pu (Pu.g fun hb => by have hb_0 := hb; first | exact pu_fa_26_0 | (simp only [gval_t hb_0, gv_t hb_0, gv_t hb, gva_ft hb_0]; exact pu_fa_26_0) | (simp only [gval_t hb_0, gv_t hb_0, gv_t hb, gva_ff hb_0, gv_n]; exact pu_fa_26_0)) ?_
 refine opK_ld (Ld.g fun hb => by have hb_0 := hb; first | exact (ld1 Try.isAgg22 (I_4.at1 (o := 0) (vs := [(vs x0.fVars)]) (nb rfl) rfl)) | (simp only [gv_t hb_0]; exact (ld1 Try.isAgg22 (I_4.at1 (o := 0) (vs := [(vs x0.fVars)]) (nb rfl) rfl))) | (simp only [gval_t hb_0, gv_t hb_0, gv_t hb, gva_ff hb_0, gv_n]; exact (ld1 Try.isAgg22 (I_4.at1 (o := 0) (vs := [(vs x0.fVars)]) (nb rfl) rfl)))) ?_
 refine opK_pu (Pu.g fun hb => by have hb_0 := hb; first | exact (pu_len_22 _ _ _) | (simp only [gv_t hb_0]; exact (pu_len_22 _ _ _)) | (simp only [gval_t hb_0, gv_t hb_0, gv_t hb, gva_ff hb_0, gv_n]; exact (pu_len_22 _ _ _))) ?_
 refine opK_pu (Pu.g fun hb => by have hb_0 := hb; first | exact pu_fa_26_1 | (simp only [gval_t hb_0, gv_t hb_0, gv_t hb, gva_ft hb_0]; exact pu_fa_26_1) | (simp only [gval_t hb_0, gv_t hb_0, gv_t hb, gva_ff hb_0, gv_n]; exact pu_fa_26_1)) ?_
 refine opK_ld (Ld.g fun hb => by have hb_0 := hb; first | exact (ld1 Try.isAgg3 (I_4.at1 (o := 1) (vs := [(vi x0.fTemps)]) (nb rfl) rfl)) | (simp only [gv_t hb_0]; exact (ld1 Try.isAgg3 (I_4.at1 (o := 1) (vs := [(vi x0.fTemps)]) (nb rfl) rfl))) | (simp only [gval_t hb_0, gv_t hb_0, gv_t hb, gva_ff hb_0, gv_n]; exact (ld1 Try.isAgg3 (I_4.at1 (o := 1) (vs := [(vi x0.fTemps)]) (nb rfl) rfl)))) ?_
 refine opK_pu (Pu.g fun hb => by have hb_0 := hb; first | exact (pu_add _ _ _ _ _ _) | (simp only [gv_t hb_0]; exact (pu_add _ _ _ _ _ _)) | (simp only [gval_t hb_0, gv_t hb_0, gv_t hb, gva_ff hb_0, gv_n]; exact (pu_add _ _ _ _ _ _))) ?_
 refine opK_pu (Pu.g fun hb => by have hb_0 := hb; first | exact (pu_gtr _ _ _ _ _ _) | (simp only [gv_t hb_0]; exact (pu_gtr _ _ _ _ _ _)) | (simp only [gval_t hb_0, gv_t hb_0, gv_t hb, gva_ff hb_0, gv_n]; exact (pu_gtr _ _ _ _ _ _))) ?_
 refine opK_pu (pu_or _ _) ?_
 refine xcond_b (fun c_202 => ?_) (fun c_202 => ?_)
 ·replace h := h.1 c_202
  exact hR 90 H _ I_4.drop h
 ·replace h := h.2 c_202
  refine opK_pu pu_fa_26_3 ?_
  refine opK_ld (ld1 Try.isAgg3 (I_4.at1 (o := 3) (vs := [(vi x0.fPoints)]) (nb rfl) rfl)) ?_
  refine opK_pu (pu_lss _ _ _ _ _ _) ?_
  refine opK_pu (Pu.g fun hb => by have hb_0 := hb; first | exact pu_fa_26_3 | (simp only [gval_t hb_0, gv_t hb_0, gv_t hb, gva_ft hb_0]; exact pu_fa_26_3) | (simp only [gval_t hb_0, gv_t hb_0, gv_t hb, gva_ff hb_0, gv_n]; exact pu_fa_26_3)) ?_
  refine opK_ld (Ld.g fun hb => by have hb_0 := hb; first | exact (ld1 Try.isAgg3 (I_4.at1 (o := 3) (vs := [(vi x0.fPoints)]) (nb rfl) rfl)) | (simp only [gv_t hb_0]; exact (ld1 Try.isAgg3 (I_4.at1 (o := 3) (vs := [(vi x0.fPoints)]) (nb rfl) rfl))) | (simp only [gval_t hb_0, gv_t hb_0, gv_t hb, gva_ff hb_0, gv_n]; exact (ld1 Try.isAgg3 (I_4.at1 (o := 3) (vs := [(vi x0.fPoints)]) (nb rfl) rfl)))) ?_
  refine opK_pu (Pu.g fun hb => by have hb_0 := hb; first | exact (pu_gtr _ _ _ _ _ _) | (simp only [gv_t hb_0]; exact (pu_gtr _ _ _ _ _ _)) | (simp only [gval_t hb_0, gv_t hb_0, gv_t hb, gva_ff hb_0, gv_n]; exact (pu_gtr _ _ _ _ _ _))) ?_
  refine opK_pu (pu_or _ _) ?_
  refine opK_pu (Pu.g fun hb => by have hb_0 := hb; first | exact pu_fa_26_5 | (simp only [gval_t hb_0, gv_t hb_0, gv_t hb, gva_ft hb_0]; exact pu_fa_26_5) | (simp only [gval_t hb_0, gv_t hb_0, gv_t hb, gva_ff hb_0, gv_n]; exact pu_fa_26_5)) ?_
  refine opK_ld (Ld.g fun hb => by have hb_0 := hb; first | exact (ld1 Try.isAgg24 (I_4.at1 (o := 5) (vs := [(vs x0.fEdges)]) (nb rfl) rfl)) | (simp only [gv_t hb_0]; exact (ld1 Try.isAgg24 (I_4.at1 (o := 5) (vs := [(vs x0.fEdges)]) (nb rfl) rfl))) | (simp only [gval_t hb_0, gv_t hb_0, gv_t hb, gva_ff hb_0, gv_n]; exact (ld1 Try.isAgg24 (I_4.at1 (o := 5) (vs := [(vs x0.fEdges)]) (nb rfl) rfl)))) ?_
  refine opK_pu (Pu.g fun hb => by have hb_0 := hb; first | exact (pu_len_24 _ _ _) | (simp only [gv_t hb_0]; exact (pu_len_24 _ _ _)) | (simp only [gval_t hb_0, gv_t hb_0, gv_t hb, gva_ff hb_0, gv_n]; exact (pu_len_24 _ _ _))) ?_
  refine opK_pu (Pu.g fun hb => by have hb_0 := hb; first | exact (pu_gtr _ _ _ _ _ _) | (simp only [gv_t hb_0]; exact (pu_gtr _ _ _ _ _ _)) | (simp only [gval_t hb_0, gv_t hb_0, gv_t hb, gva_ff hb_0, gv_n]; exact (pu_gtr _ _ _ _ _ _))) ?_
  refine opK_pu (pu_or _ _) ?_
  refine xcond_b (fun c_201 => ?_) (fun c_201 => ?_)
  ·replace h := h.1 c_201
   exact hR 91 H _ I_4.drop h
  ·replace h := h.2 c_201
   refine opK_pu pu_fa_26_2 ?_
   refine opK_ld (ld1 Try.isAgg23 (I_4.at1 (o := 2) (vs := [(vs x0.fArrays)]) (nb rfl) rfl)) ?_
   refine opK_pu (pu_len_23 _ _ _) ?_
   refine opK_pu (pu_gtr _ _ _ _ _ _) ?_
   refine xcond_p (fun c_200 => ?_) (fun c_200 => ?_)
   ·replace h := h.1 c_200
    exact hR 92 H _ I_4.drop h
   ·replace h := h.2 c_200
    have hj1 : ∀ (H : Hp) (w : World) (_ : Inv w0 ps0 H0 H [bx g_2 26 (cs_api_Cfg x0)] w) (_ : T_gnomon_cfg_Check_j1 x0 H K), F15_j1 (Value.pointer (some ⟨g_2, 0, none⟩)) w R E := by
     intro H w I h
     unfold F15_j1
     intro _
     unfold T_gnomon_cfg_Check_j1 at h
     refine opK_ld (ldA Try.isAgg26 Try.sizeOf26 rfl (I.at1 (o := 0) (vs := (cs_api_Cfg x0)) (nb rfl) rfl)) ?_
     refine opK_pu (pu_bld_81_0 _ _ _ _ _ _ _ _ _ _ _ _) ?_
     refine s_alloc I Try.zeroValue81 (cs := [(Value.slice none 0 0), (vi 0), (Value.slice none 0 0), (vi 0), (vi 0), (Value.slice none 0 0)]) rfl fun g_23 w_24 I_25 k_26 => ?_
     refine s_store I_25 Try.sizeOf81 (vs := (cs_api_Cfg x0)) (cs' := (cs_api_Cfg x0)) rfl rfl (nb rfl) rfl rfl fun w_27 I_28 k_29 => ?_
     refine opK_ld (ldA Try.isAgg81 Try.sizeOf81 rfl (I_28.at1 (o := 0) (vs := (cs_api_Cfg x0)) (nb rfl) rfl)) ?_
     refine opK_pu pu_fa_26_4 ?_
     refine opK_ld (ld1 Try.isAgg3 ((I_28.bring 1).at1 (o := 4) (vs := [(vi x0.fExit)]) (nb rfl) rfl)) ?_
     refine opK_calls (cap := []) (fun args w => Try.call27 args w) ?_
     refine Cv_ct (Fi := []) (Fr := [bx g_23 81 (cs_api_Cfg x0), bx g_2 26 (cs_api_Cfg x0)]) I_28 (h) (fun v_34 H_30 F_35 w_31 I_32 l_37 k_33 q_36 => ?_) (fun _ _ _ _ _ q => q.elim)
     obtain ⟨r0_38, rfl, rfl, h⟩ := q_36
     refine opK_pu (pu_not _) ?_
     refine xcond_b (fun c_190 => ?_) (fun c_190 => ?_)
     ·replace h := h.1 c_190
      exact hR 92 H_30 _ I_32.drop.drop h
     ·replace h := h.2 c_190
      refine opK_pu pu_fa_26_3 ?_
      refine opK_ld (ld1 Try.isAgg3 ((I_32.bring 1).at1 (o := 3) (vs := [(vi x0.fPoints)]) (nb rfl) rfl)) ?_
      obtain ⟨h_46, h_47, h⟩ := h
      refine mks_83 I_32 h_46 h_47 fun s_40 F_41 w_42 h_43 I_44 k_45 => ?_
      have hj2 : ∀ (cs6j2 : (List (List Tapi_Edge))) (Fs6j2 : Frag) (H : Hp) (w : World) (_ : RowsL 24 52 10 cs_api_Edge s_40 cs6j2 Fs6j2) (_ : Inv w0 ps0 H0 H [bx g_23 81 [(Value.slice (Tcfg_graph.mk x0).fCfg.fVars.a (Tcfg_graph.mk x0).fCfg.fVars.n (Tcfg_graph.mk x0).fCfg.fVars.c), (vi (Tcfg_graph.mk x0).fCfg.fTemps), (Value.slice (Tcfg_graph.mk x0).fCfg.fArrays.a (Tcfg_graph.mk x0).fCfg.fArrays.n (Tcfg_graph.mk x0).fCfg.fArrays.c), (vi (Tcfg_graph.mk x0).fCfg.fPoints), (vi (Tcfg_graph.mk x0).fCfg.fExit), (Value.slice (Tcfg_graph.mk x0).fCfg.fEdges.a (Tcfg_graph.mk x0).fCfg.fEdges.n (Tcfg_graph.mk x0).fCfg.fEdges.c)], bx g_2 26 (cs_api_Cfg x0), Fs6j2] w) (_ : T_gnomon_cfg_Check_j2 cs6j2 (Tcfg_graph.mk x0) x0 H K), F15_j2 (Value.pointer (some ⟨g_2, 0, none⟩)) (vs s_40) w R E := by
       intro cs6j2 Fs6j2 H w hs6j2 I h
       unfold F15_j2
       intro _
       unfold T_gnomon_cfg_Check_j2 at h
       have hj3 : ∀ (H : Hp) (w : World) (_ : Inv w0 ps0 H0 H [bx g_23 81 [(Value.slice (Tcfg_graph.mk x0).fCfg.fVars.a (Tcfg_graph.mk x0).fCfg.fVars.n (Tcfg_graph.mk x0).fCfg.fVars.c), (vi (Tcfg_graph.mk x0).fCfg.fTemps), (Value.slice (Tcfg_graph.mk x0).fCfg.fArrays.a (Tcfg_graph.mk x0).fCfg.fArrays.n (Tcfg_graph.mk x0).fCfg.fArrays.c), (vi (Tcfg_graph.mk x0).fCfg.fPoints), (vi (Tcfg_graph.mk x0).fCfg.fExit), (Value.slice (Tcfg_graph.mk x0).fCfg.fEdges.a (Tcfg_graph.mk x0).fCfg.fEdges.n (Tcfg_graph.mk x0).fCfg.fEdges.c)], bx g_2 26 (cs_api_Cfg x0)] w) (_ : T_gnomon_cfg_Check_j3 (Tcfg_graph.mk x0) x0 H K), F15_j3 w R E := by
        intro H w I h
        unfold F15_j3
        intro _
        unfold T_gnomon_cfg_Check_j3 at h
        exact hR 0 H _ I.drop.drop h
       refine xcut_i fun j3 hx3 => ?_
       refine opK_pu pu_fa_26_3 ?_
       refine opK_ld (ld1 Try.isAgg3 ((I.bring 1).at1 (o := 3) (vs := [(vi x0.fPoints)]) (nb rfl) rfl)) ?_
       obtain ⟨H_150, I_151, l_152, h_153, h_154⟩ := Inv.freezeLL (I.bring 2) hs6j2 (by decide)
       replace h := h s_40 H_150 l_152 h_153 h_154
       obtain ⟨J_173, m_174, i_175, b_176⟩ := h
       refine xloop_J (J := fun n l w => ∃ (s : Int) (H : Hp) , n = m_174 s ∧ l = [(vi s)] ∧ Inv w0 ps0 H0 H [bx g_23 81 [(Value.slice (Tcfg_graph.mk x0).fCfg.fVars.a (Tcfg_graph.mk x0).fCfg.fVars.n (Tcfg_graph.mk x0).fCfg.fVars.c), (vi (Tcfg_graph.mk x0).fCfg.fTemps), (Value.slice (Tcfg_graph.mk x0).fCfg.fArrays.a (Tcfg_graph.mk x0).fCfg.fArrays.n (Tcfg_graph.mk x0).fCfg.fArrays.c), (vi (Tcfg_graph.mk x0).fCfg.fPoints), (vi (Tcfg_graph.mk x0).fCfg.fExit), (Value.slice (Tcfg_graph.mk x0).fCfg.fEdges.a (Tcfg_graph.mk x0).fCfg.fEdges.n (Tcfg_graph.mk x0).fCfg.fEdges.c)], bx g_2 26 (cs_api_Cfg x0)] w ∧ J_173 s H) ⟨_, 0, H_150, rfl, rfl, ((I_151.bring 1).bring 1), i_175⟩ ?_
       rintro n_177 τ_178 w next4 ⟨s100l4, H, rfl, l_179, I, s_180⟩ hn4
       simp only [List.map_cons, List.map_nil, List.cons.injEq, and_true] at l_179
       have e100 := l_179
       simp only [e100]
       obtain ⟨n4, hm4, h⟩ : ∃ n4 : Int → Hp → Prop, (∀ s' H', n4 s' H' → J_173 s' H' ∧ m_174 s' < m_174 s100l4) ∧ T_gnomon_cfg_Check_l4 s_40 x0.fPoints (Tcfg_graph.mk x0) x0 s100l4 H n4 K := ⟨_, fun _ _ h => h, b_176 s100l4 H (fun s' H' => J_173 s' H' ∧ m_174 s' < m_174 s100l4) s_180 (fun _ _ a b => ⟨a, b⟩)⟩
       unfold F15_l4
       unfold T_gnomon_cfg_Check_l4 at h
       refine opK_pu (pu_lss _ _ _ _ _ _) ?_
       refine xcond_p (fun c_172 => ?_) (fun c_172 => ?_)
       ·replace h := h.1 c_172
        obtain ⟨h_158, h_159, x_155, h_161, h⟩ := h
        obtain ⟨g_156, o_157, h_160, h_161⟩ := h_161
        refine opK_pu (pu_ix_83 h_160 _ _ _ _ h_158 h_159) ?_
        refine opK_ld (ld1 (v := (vs x_155)) Try.isAgg24 (I.atH h_161)) ?_
        refine opK_calls (cap := []) (fun args w => Try.call29 args w) ?_
        refine Cv_ct (Fi := []) (Fr := [bx g_23 81 [(Value.slice (Tcfg_graph.mk x0).fCfg.fVars.a (Tcfg_graph.mk x0).fCfg.fVars.n (Tcfg_graph.mk x0).fCfg.fVars.c), (vi (Tcfg_graph.mk x0).fCfg.fTemps), (Value.slice (Tcfg_graph.mk x0).fCfg.fArrays.a (Tcfg_graph.mk x0).fCfg.fArrays.n (Tcfg_graph.mk x0).fCfg.fArrays.c), (vi (Tcfg_graph.mk x0).fCfg.fPoints), (vi (Tcfg_graph.mk x0).fCfg.fExit), (Value.slice (Tcfg_graph.mk x0).fCfg.fEdges.a (Tcfg_graph.mk x0).fCfg.fEdges.n (Tcfg_graph.mk x0).fCfg.fEdges.c)], bx g_2 26 (cs_api_Cfg x0)]) I (h) (fun v_166 H_162 F_167 w_163 I_164 l_169 k_165 q_168 => ?_) (fun _ _ _ _ _ q => q.elim)
        obtain ⟨r0_170, rfl, rfl, h⟩ := q_168
        refine opK_pu (pu_not _) ?_
        refine xcond_b (fun c_171 => ?_) (fun c_171 => ?_)
        ·replace h := h.1 c_171
         exact hR 92 H_162 _ I_164.drop.drop h
        ·replace h := h.2 c_171
         refine opK_pu (pu_add _ _ _ _ _ _) ?_
         exact hn4 _ _ _ (hm4 _ _ h).2 ⟨(IntKind.wrap .i64 (s100l4 + 1)), H_162, rfl, rfl, ((I_164.bring 1).bring 1), (hm4 _ _ h).1⟩
       ·replace h := h.2 c_172
        exact hx3 _ _ (hj3 H _ ((I.bring 1).bring 1) h)
      refine xcut_i fun j2 hx2 => ?_
      refine opK_pu pu_fa_26_5 ?_
      refine opK_ld (ld1 Try.isAgg24 ((I_44.bring 2).at1 (o := 5) (vs := [(vs x0.fEdges)]) (nb rfl) rfl)) ?_
      refine opK_pu (pu_len_24 _ _ _) ?_
      obtain ⟨J_182, m_183, i_184, b_185⟩ := h
      refine xloop_J (J := fun n l w => ∃ (s : (List (List Tapi_Edge)) × Int) (H : Hp) (Fs6l5 : Frag) , n = m_183 s ∧ l = (match s with | (cs6l5, s77l5) => [(vi s77l5)]) ∧ (match s with | (cs6l5, s77l5) => RowsL 24 52 10 cs_api_Edge s_40 cs6l5 Fs6l5) ∧ (match s with | (cs6l5, s77l5) => Inv w0 ps0 H0 H [bx g_23 81 [(Value.slice (Tcfg_graph.mk x0).fCfg.fVars.a (Tcfg_graph.mk x0).fCfg.fVars.n (Tcfg_graph.mk x0).fCfg.fVars.c), (vi (Tcfg_graph.mk x0).fCfg.fTemps), (Value.slice (Tcfg_graph.mk x0).fCfg.fArrays.a (Tcfg_graph.mk x0).fCfg.fArrays.n (Tcfg_graph.mk x0).fCfg.fArrays.c), (vi (Tcfg_graph.mk x0).fCfg.fPoints), (vi (Tcfg_graph.mk x0).fCfg.fExit), (Value.slice (Tcfg_graph.mk x0).fCfg.fEdges.a (Tcfg_graph.mk x0).fCfg.fEdges.n (Tcfg_graph.mk x0).fCfg.fEdges.c)], bx g_2 26 (cs_api_Cfg x0), Fs6l5] w) ∧ J_182 s H) ⟨_, ((List.replicate (x0.fPoints : Int).toNat ([] : List Tapi_Edge)), 0), H_30, F_41, rfl, rfl, (RowsL.made (e := 52) cs_api_Edge_l cs_api_Edge_o h_43), ((I_44.bring 2).bring 2), i_184⟩ ?_
      rintro n_186 τ_187 w next5 ⟨⟨cs6l5, s77l5⟩, H, Fs6l5, rfl, l_188, hs6l5, I, s_189⟩ hn5
      dsimp only at l_188 I hs6l5
      simp only [List.map_cons, List.map_nil, List.cons.injEq, and_true] at l_188
      have e77 := l_188
      simp only [e77]
      obtain ⟨n5, hm5, h⟩ : ∃ n5 : ((List (List Tapi_Edge)) × Int) → Hp → Prop, (∀ s' H', n5 s' H' → J_182 s' H' ∧ m_183 s' < m_183 (cs6l5, s77l5)) ∧ T_gnomon_cfg_Check_l5 x0.fEdges (x0.fEdges.n : Int) (Tcfg_graph.mk x0) x0 cs6l5 s77l5 H n5 K := ⟨_, fun _ _ h => h, b_185 (cs6l5, s77l5) H (fun s' H' => J_182 s' H' ∧ m_183 s' < m_183 (cs6l5, s77l5)) s_189 (fun _ _ a b => ⟨a, b⟩)⟩
      unfold F15_l5
      unfold T_gnomon_cfg_Check_l5 at h
      refine opK_pu (pu_lss _ _ _ _ _ _) ?_
      refine xcond_p (fun c_181 => ?_) (fun c_181 => ?_)
      ·replace h := h.1 c_181
       obtain ⟨h_51, h_52, x_48, h_54, h⟩ := h
       obtain ⟨g_49, o_50, h_53, h_54⟩ := h_54
       refine opK_pu (pu_ix_24 h_53 _ _ _ _ h_51 h_52) ?_
       refine opK_ld (ldA (vs := (cs_api_Edge x_48)) Try.isAgg52 Try.sizeOf52 rfl (I.atH h_54)) ?_
       refine s_alloc I Try.zeroValue52 (cs := [(vi 0), (vi 0), (vi 0), (vi 0), (vi 0), (vi 0), (vi 0), (vi 0), (vi 0), (vi 0)]) rfl fun g_56 w_57 I_58 k_59 => ?_
       refine s_store I_58 Try.sizeOf52 (vs := (cs_api_Edge x_48)) (cs' := (cs_api_Edge x_48)) rfl rfl (nb rfl) rfl rfl fun w_60 I_61 k_62 => ?_
       refine opK_ld (ldA Try.isAgg81 Try.sizeOf81 rfl ((I_61.bring 1).at1 (o := 0) (vs := [(Value.slice (Tcfg_graph.mk x0).fCfg.fVars.a (Tcfg_graph.mk x0).fCfg.fVars.n (Tcfg_graph.mk x0).fCfg.fVars.c), (vi (Tcfg_graph.mk x0).fCfg.fTemps), (Value.slice (Tcfg_graph.mk x0).fCfg.fArrays.a (Tcfg_graph.mk x0).fCfg.fArrays.n (Tcfg_graph.mk x0).fCfg.fArrays.c), (vi (Tcfg_graph.mk x0).fCfg.fPoints), (vi (Tcfg_graph.mk x0).fCfg.fExit), (Value.slice (Tcfg_graph.mk x0).fCfg.fEdges.a (Tcfg_graph.mk x0).fCfg.fEdges.n (Tcfg_graph.mk x0).fCfg.fEdges.c)]) (nb rfl) rfl)) ?_
       refine opK_ld (ldA Try.isAgg52 Try.sizeOf52 rfl (I_61.at1 (o := 0) (vs := (cs_api_Edge x_48)) (nb rfl) rfl)) ?_
       refine opK_calls (cap := []) (fun args w => Try.call28 args w) ?_
       refine Cv_ct (Fi := []) (Fr := [bx g_56 52 (cs_api_Edge x_48), bx g_23 81 [(Value.slice (Tcfg_graph.mk x0).fCfg.fVars.a (Tcfg_graph.mk x0).fCfg.fVars.n (Tcfg_graph.mk x0).fCfg.fVars.c), (vi (Tcfg_graph.mk x0).fCfg.fTemps), (Value.slice (Tcfg_graph.mk x0).fCfg.fArrays.a (Tcfg_graph.mk x0).fCfg.fArrays.n (Tcfg_graph.mk x0).fCfg.fArrays.c), (vi (Tcfg_graph.mk x0).fCfg.fPoints), (vi (Tcfg_graph.mk x0).fCfg.fExit), (Value.slice (Tcfg_graph.mk x0).fCfg.fEdges.a (Tcfg_graph.mk x0).fCfg.fEdges.n (Tcfg_graph.mk x0).fCfg.fEdges.c)], bx g_2 26 (cs_api_Cfg x0), Fs6l5]) I_61 (h) (fun v_67 H_63 F_68 w_64 I_65 l_70 k_66 q_69 => ?_) (fun _ _ _ _ _ q => q.elim)
       obtain ⟨r0_71, rfl, rfl, h⟩ := q_69
       refine opK_pu (pu_not _) ?_
       refine xcond_b (fun c_118 => ?_) (fun c_118 => ?_)
       ·replace h := h.1 c_118
        exact hR 92 H_63 _ I_65.drop.drop.drop.drop h
       ·replace h := h.2 c_118
        refine s_dX I_65 fun w_72 I_73 => ?_
        refine qP_pu pu_fa_52_0 ?_
        refine qP_pu pu_fa_52_0 ?_
        refine qL_ld (ld1 Try.isAgg3 (I_73.at1 (o := 0) (vs := [(vi x_48.fFrom)]) (nb rfl) rfl)) ?_
        refine qL_ld (ld1 Try.isAgg3 (I_73.at1 (o := 0) (vs := [(vi x_48.fFrom)]) (nb rfl) rfl)) ?_
        obtain ⟨h_74, xs_75, h_76, h⟩ := h
        obtain ⟨ss_77, s_78, F_79, F_80, F_81, h_82, h_83, h_84, h_85, h_86, I_87⟩ := RowsL.open_ hs6l5 (I_73.bring 3) h_76
        obtain ⟨g_91, a_93, h_92, h_94⟩ := h_82.addr h_83
        refine qP_pu (pu_ix_83 h_92 _ _ _ _ h_74 (h_82.lt h_74 h_83)) ?_
        refine qL_ld (ld1 (v := (vs s_78)) Try.isAgg24 (h_82.atW I_87 h_92 h_83)) ?_
        refine qL_ld (ldA Try.isAgg52 Try.sizeOf52 rfl ((I_87.bring 3).at1 (o := 0) (vs := (cs_api_Edge x_48)) (nb rfl) rfl)) ?_
        refine s_bs (e := 52) (c := cs_api_Edge) (xs := [x_48]) I_87 (bs_24_1 _ _ _ _ _ _ _ _ _ _) rfl rfl cs_api_Edge_l cs_api_Edge_o (nb rfl) fun s_96 F_97 w_98 h_99 I_100 k_101 => ?_
        refine ⟨(k_101 _ (RowL.lt_blk h_82 I_87 h_92)), (k_101 _ (I_87.bring 3).lt1), (k_101 _ (I_87.bring 3).lt1), ?_⟩
        obtain ⟨h_108, h⟩ := h
        refine app_24 (s := s_78) (xs := xs_75) (I_100.bring 2) h_84 (h_99.srcO ((I_100.bring 2).bring 1)) h_108 fun s_102 F_103 w_104 h_105 I_106 k_107 => ?_
        refine ⟨(k_107 _ ((I_100.bring 2).bring 4).lt1 (Inv.row_ne_b (((I_100.bring 2).bring 4).bring 1))), ?_⟩
        obtain ⟨g_109, a_111, h_110, h_112⟩ := h_82.addr h_83
        refine qP_pu (pu_ix_83 h_110 _ _ _ _ h_74 (h_82.lt h_74 h_83)) ?_
        refine s_rowst (x := s_102) ((I_106.bring 1).drop.bring 1) h_82 h_110 (List.getElem?_eq_some_iff.1 h_83).1 Try.sizeOf24 rfl fun F_113 w_114 h_115 I_116 k_117 => ?_
        refine opK_pu (pu_add _ _ _ _ _ _) ?_
        exact hn5 _ _ _ (hm5 _ _ h).2 ⟨(((cs6l5).set (x_48.fFrom : Int).toNat (xs_75 ++ [x_48])), (IntKind.wrap .i64 (s77l5 + 1))), H_63, (F_113 ++ (F_103 ++ F_81)), rfl, rfl, (RowsL.close1 h_115 h_105 h_85), ((((((I_116.bring 2).bring 2).bring 2).join3.bring 1).drop.bring 2).bring 2), (hm5 _ _ h).1⟩
      ·replace h := h.2 c_181
       exact hx2 _ _ (hj2 cs6l5 Fs6l5 H _ hs6l5 (((I.bring 2).bring 2).bring 2) h)
    refine xcut_i fun j1 hx1 => ?_
    refine opK_pu pu_fa_26_2 ?_
    refine opK_ld (ld1 Try.isAgg23 (I_4.at1 (o := 2) (vs := [(vs x0.fArrays)]) (nb rfl) rfl)) ?_
    refine opK_pu (pu_len_23 _ _ _) ?_
    obtain ⟨J_192, m_193, i_194, b_195⟩ := h
    refine xloop_J (J := fun n l w => ∃ (s : Int) (H : Hp) , n = m_193 s ∧ l = [(vi s)] ∧ Inv w0 ps0 H0 H [bx g_2 26 (cs_api_Cfg x0)] w ∧ J_192 s H) ⟨_, 0, H, rfl, rfl, I_4, i_194⟩ ?_
    rintro n_196 τ_197 w next6 ⟨s51l6, H, rfl, l_198, I, s_199⟩ hn6
    simp only [List.map_cons, List.map_nil, List.cons.injEq, and_true] at l_198
    have e51 := l_198
    simp only [e51]
    obtain ⟨n6, hm6, h⟩ : ∃ n6 : Int → Hp → Prop, (∀ s' H', n6 s' H' → J_192 s' H' ∧ m_193 s' < m_193 s51l6) ∧ T_gnomon_cfg_Check_l6 x0.fArrays (x0.fArrays.n : Int) x0 s51l6 H n6 K := ⟨_, fun _ _ h => h, b_195 s51l6 H (fun s' H' => J_192 s' H' ∧ m_193 s' < m_193 s51l6) s_199 (fun _ _ a b => ⟨a, b⟩)⟩
    unfold F15_l6
    unfold T_gnomon_cfg_Check_l6 at h
    refine opK_pu (pu_lss _ _ _ _ _ _) ?_
    refine xcond_p (fun c_191 => ?_) (fun c_191 => ?_)
    ·replace h := h.1 c_191
     obtain ⟨h_9, h_10, x_6, h_12, h⟩ := h
     obtain ⟨g_7, o_8, h_11, h_12⟩ := h_12
     refine opK_pu (pu_ix_23 h_11 _ _ _ _ h_9 h_10) ?_
     refine opK_ld (ldA (vs := (cs_api_Decl x_6)) Try.isAgg60 Try.sizeOf60 rfl (I.atH h_12)) ?_
     refine s_alloc I Try.zeroValue60 (cs := [(Value.string ⟨#[]⟩), (vi 0)]) rfl fun g_14 w_15 I_16 k_17 => ?_
     refine s_store I_16 Try.sizeOf60 (vs := (cs_api_Decl x_6)) (cs' := (cs_api_Decl x_6)) rfl rfl (nb rfl) rfl rfl fun w_18 I_19 k_20 => ?_
     refine opK_pu pu_fa_60_1 ?_
     refine opK_ld (ld1 Try.isAgg3 (I_19.at1 (o := 1) (vs := [(vi x_6.fSize)]) (nb rfl) rfl)) ?_
     refine opK_pu (pu_lss _ _ _ _ _ _) ?_
     refine opK_pu (Pu.g fun hb => by have hb_0 := hb; first | exact pu_fa_60_1 | (simp only [gval_t hb_0, gv_t hb_0, gv_t hb, gva_ft hb_0]; exact pu_fa_60_1) | (simp only [gval_t hb_0, gv_t hb_0, gv_t hb, gva_ff hb_0, gv_n]; exact pu_fa_60_1)) ?_
     refine opK_ld (Ld.g fun hb => by have hb_0 := hb; first | exact (ld1 Try.isAgg3 (I_19.at1 (o := 1) (vs := [(vi x_6.fSize)]) (nb rfl) rfl)) | (simp only [gv_t hb_0]; exact (ld1 Try.isAgg3 (I_19.at1 (o := 1) (vs := [(vi x_6.fSize)]) (nb rfl) rfl))) | (simp only [gval_t hb_0, gv_t hb_0, gv_t hb, gva_ff hb_0, gv_n]; exact (ld1 Try.isAgg3 (I_19.at1 (o := 1) (vs := [(vi x_6.fSize)]) (nb rfl) rfl)))) ?_
     refine opK_pu (Pu.g fun hb => by have hb_0 := hb; first | exact (pu_gtr _ _ _ _ _ _) | (simp only [gv_t hb_0]; exact (pu_gtr _ _ _ _ _ _)) | (simp only [gval_t hb_0, gv_t hb_0, gv_t hb, gva_ff hb_0, gv_n]; exact (pu_gtr _ _ _ _ _ _))) ?_
     refine opK_pu (pu_or _ _) ?_
     refine xcond_b (fun c_21 => ?_) (fun c_21 => ?_)
     ·replace h := h.1 c_21
      exact hR 92 H _ I_19.drop.drop h
     ·replace h := h.2 c_21
      refine opK_pu (pu_add _ _ _ _ _ _) ?_
      exact hn6 _ _ _ (hm6 _ _ h).2 ⟨(IntKind.wrap .i64 (s51l6 + 1)), H, rfl, rfl, I_19.drop, (hm6 _ _ h).1⟩
    ·replace h := h.2 c_191
     exact hx1 _ _ (hj1 H _ I h)
theorem L_gnomon_cfg_Check (x0 : Tapi_Cfg) {H : Hp} {K : Int → Hp → Prop} (h : T_gnomon_cfg_Check x0 H K) : C_gnomon_cfg_Check x0 H K := by
 intro w I
 refine F15_ok ?_
 refine LF_gnomon_cfg_Check x0 I (fun r0 H' w' I' hk => ⟨H', _, I', r0, rfl, rfl, hk⟩) h


/- function 5: gnomon/gnomonlaw10.known -/
def T_gnomon_gnomonlaw10_known (H : Hp) (K : Bool → Hp → Prop) : Prop :=
 ∀ (s_2 : Sl) (H_23 : Hp), Hle H H_23 → SlH H_23 1 cs_string s_2 [⟨#[120]⟩] → s_2.n ≤ s_2.c →
 ∀ (s_9 : Sl) (H_28 : Hp), Hle H_23 H_28 → SlH H_28 10 cs_api_Edge s_9 [(Tapi_Edge.mk 0 1 2 0 (-1) 0 (Tapi_Operand.mk (-1) 4) (Tapi_Operand.mk (-1) 0))] → s_9.n ≤ s_9.c →
 C_gnomon_step_Run (Tapi_Cfg.mk s_2 0 (Sl.mk none 0 0) 2 1 s_9) (Sl.mk none 0 0) 5 H_28 (fun (r0_41 : Tapi_Outcome) (r1_41 : Int) (r2_41 : Int) (H_33 : Hp) => 
 ∃ x_50 : Int, ((((((decide (r2_41 = 0)) && (decide (r1_41 = 1))) && (decide (r0_41.fStatus = 2))) && (decide (r0_41.fSteps = 1))) && (decide ((r0_41.fVars.n : Int) = 1))) = true → (0 : Int) ≤ 0 ∧ (0 : Int) < r0_41.fVars.n ∧ EltH H_33 r0_41.fVars 0 1 [(vi x_50)]) ∧ 
 K ((((((decide (r2_41 = 0)) && (decide (r1_41 = 1))) && (decide (r0_41.fStatus = 2))) && (decide (r0_41.fSteps = 1))) && (decide ((r0_41.fVars.n : Int) = 1))) && (decide (x_50 = 4))) H_33)
theorem LF_gnomon_gnomonlaw10_known {w0 w : World} {ps0 : Nat → Prop} {H0 H : Hp} {K : Bool → Hp → Prop} {R : Value → World → Prop} {E : Pan} (I : Inv w0 ps0 H0 H [] w) (hR : ∀ (r0 : Bool) (H' : Hp) (w' : World) (_ : Inv w0 ps0 H0 H' [] w') (_ : K r0 H'), R (Value.bool r0) w') (h : T_gnomon_gnomonlaw10_known H K) : F5 w R E := by
 unfold T_gnomon_gnomonlaw10_known at h
 unfold F5
 refine s_bs (e := 9) (c := cs_string) (xs := [⟨#[120]⟩]) I (bs_22_1 _) rfl rfl cs_string_l cs_string_o (nb rfl) fun s_2 F_3 w_4 h_5 I_6 k_7 => ?_
 refine opK_pu (pu_bld_50_0_1 _ _) ?_
 refine opK_pu (pu_bld_50_0 _) ?_
 refine opK_pu (pu_bld_52_1_2_4_6_7 _ _ _ _ _ _ _) ?_
 refine s_bs (e := 52) (c := cs_api_Edge) (xs := [(Tapi_Edge.mk 0 1 2 0 (-1) 0 (Tapi_Operand.mk (-1) 4) (Tapi_Operand.mk (-1) 0))]) I_6 (bs_24_1 _ _ _ _ _ _ _ _ _ _) rfl rfl cs_api_Edge_l cs_api_Edge_o (nb rfl) fun s_9 F_10 w_11 h_12 I_13 k_14 => ?_
 refine opK_pu (pu_bld_26_0_3_4_5 _ _ _ _ _ _ _ _) ?_
 refine s_alloc I_13 Try.zeroValue26 (cs := [(Value.slice none 0 0), (vi 0), (Value.slice none 0 0), (vi 0), (vi 0), (Value.slice none 0 0)]) rfl fun g_16 w_17 I_18 k_19 => ?_
 refine s_store I_18 Try.sizeOf26 (vs := [(vs s_2), (vi 0), (Value.slice none 0 0), (vi 2), (vi 1), (vs s_9)]) (cs' := [(vs s_2), (vi 0), (Value.slice none 0 0), (vi 2), (vi 1), (vs s_9)]) rfl rfl (nb rfl) rfl rfl fun w_20 I_21 k_22 => ?_
 refine opK_ld (ldA Try.isAgg26 Try.sizeOf26 rfl (I_21.at1 (o := 0) (vs := [(vs s_2), (vi 0), (Value.slice none 0 0), (vi 2), (vi 1), (vs s_9)]) (nb rfl) rfl)) ?_
 obtain ⟨H_23, I_24, l_25, h_26, h_27⟩ := Inv.freezeC (I_21.bring 2) h_5 (by decide)
 replace h := h s_2 H_23 l_25 h_26 h_27
 obtain ⟨H_28, I_29, l_30, h_31, h_32⟩ := Inv.freezeC (I_24.bring 1) h_12 (by decide)
 replace h := h s_9 H_28 l_30 h_31 h_32
 refine opK_calls (cap := []) (fun args w => Try.call8 args w) ?_
 refine Cv_ct (Fi := []) (Fr := [bx g_16 26 [(vs s_2), (vi 0), (Value.slice none 0 0), (vi 2), (vi 1), (vs s_9)]]) I_29 (h) (fun v_37 H_33 F_38 w_34 I_35 l_40 k_36 q_39 => ?_) (fun _ _ _ _ _ q => q.elim)
 obtain ⟨r0_41, r1_41, r2_41, rfl, rfl, h⟩ := q_39
 refine opK_pu (pu_extract _ _ _ rfl) ?_
 refine opK_pu (pu_extract _ _ _ rfl) ?_
 refine opK_pu (pu_extract _ _ _ rfl) ?_
 refine s_alloc I_35 Try.zeroValue34 (cs := [(vi 0), (vi 0), (vi 0), (Value.slice none 0 0), (Value.slice none 0 0), (Value.slice none 0 0)]) rfl fun g_43 w_44 I_45 k_46 => ?_
 refine s_store I_45 Try.sizeOf34 (vs := (cs_api_Outcome r0_41)) (cs' := (cs_api_Outcome r0_41)) rfl rfl (nb rfl) rfl rfl fun w_47 I_48 k_49 => ?_
 refine opK_pu (pu_eql _ _ _ _ _ _) ?_
 try simp only [gval_b]
 refine opK_pu (Pu.g fun hb => by have hb_0 := hb; first | exact (pu_eql _ _ _ _ _ _) | (simp only [gv_t hb_0]; exact (pu_eql _ _ _ _ _ _)) | (simp only [gval_t hb_0, gv_t hb_0, gv_t hb, gva_tf hb_0, gv_n]; exact (pu_eql _ _ _ _ _ _))) ?_
 refine opK_pu (pu_and _ _) ?_
 refine opK_pu (Pu.g fun hb => by have hb_0 := hb; first | exact pu_fa_34_0 | (simp only [gval_t hb_0, gv_t hb_0, gv_t hb, gva_tt hb_0]; exact pu_fa_34_0) | (simp only [gval_t hb_0, gv_t hb_0, gv_t hb, gva_tf hb_0, gv_n]; exact pu_fa_34_0)) ?_
 refine opK_ld (Ld.g fun hb => by have hb_0 := hb; first | exact (ld1 Try.isAgg3 (I_48.at1 (o := 0) (vs := [(vi r0_41.fStatus)]) (nb rfl) rfl)) | (simp only [gv_t hb_0]; exact (ld1 Try.isAgg3 (I_48.at1 (o := 0) (vs := [(vi r0_41.fStatus)]) (nb rfl) rfl))) | (simp only [gval_t hb_0, gv_t hb_0, gv_t hb, gva_tf hb_0, gv_n]; exact (ld1 Try.isAgg3 (I_48.at1 (o := 0) (vs := [(vi r0_41.fStatus)]) (nb rfl) rfl)))) ?_
 refine opK_pu (Pu.g fun hb => by have hb_0 := hb; first | exact (pu_eql _ _ _ _ _ _) | (simp only [gv_t hb_0]; exact (pu_eql _ _ _ _ _ _)) | (simp only [gval_t hb_0, gv_t hb_0, gv_t hb, gva_tf hb_0, gv_n]; exact (pu_eql _ _ _ _ _ _))) ?_
 refine opK_pu (pu_and _ _) ?_
 refine opK_pu (Pu.g fun hb => by have hb_0 := hb; first | exact pu_fa_34_2 | (simp only [gval_t hb_0, gv_t hb_0, gv_t hb, gva_tt hb_0]; exact pu_fa_34_2) | (simp only [gval_t hb_0, gv_t hb_0, gv_t hb, gva_tf hb_0, gv_n]; exact pu_fa_34_2)) ?_
 refine opK_ld (Ld.g fun hb => by have hb_0 := hb; first | exact (ld1 Try.isAgg3 (I_48.at1 (o := 2) (vs := [(vi r0_41.fSteps)]) (nb rfl) rfl)) | (simp only [gv_t hb_0]; exact (ld1 Try.isAgg3 (I_48.at1 (o := 2) (vs := [(vi r0_41.fSteps)]) (nb rfl) rfl))) | (simp only [gval_t hb_0, gv_t hb_0, gv_t hb, gva_tf hb_0, gv_n]; exact (ld1 Try.isAgg3 (I_48.at1 (o := 2) (vs := [(vi r0_41.fSteps)]) (nb rfl) rfl)))) ?_
 refine opK_pu (Pu.g fun hb => by have hb_0 := hb; first | exact (pu_eql _ _ _ _ _ _) | (simp only [gv_t hb_0]; exact (pu_eql _ _ _ _ _ _)) | (simp only [gval_t hb_0, gv_t hb_0, gv_t hb, gva_tf hb_0, gv_n]; exact (pu_eql _ _ _ _ _ _))) ?_
 refine opK_pu (pu_and _ _) ?_
 refine opK_pu (Pu.g fun hb => by have hb_0 := hb; first | exact pu_fa_34_4 | (simp only [gval_t hb_0, gv_t hb_0, gv_t hb, gva_tt hb_0]; exact pu_fa_34_4) | (simp only [gval_t hb_0, gv_t hb_0, gv_t hb, gva_tf hb_0, gv_n]; exact pu_fa_34_4)) ?_
 refine opK_ld (Ld.g fun hb => by have hb_0 := hb; first | exact (ld1 Try.isAgg27 (I_48.at1 (o := 4) (vs := [(vs r0_41.fVars)]) (nb rfl) rfl)) | (simp only [gv_t hb_0]; exact (ld1 Try.isAgg27 (I_48.at1 (o := 4) (vs := [(vs r0_41.fVars)]) (nb rfl) rfl))) | (simp only [gval_t hb_0, gv_t hb_0, gv_t hb, gva_tf hb_0, gv_n]; exact (ld1 Try.isAgg27 (I_48.at1 (o := 4) (vs := [(vs r0_41.fVars)]) (nb rfl) rfl)))) ?_
 refine opK_pu (Pu.g fun hb => by have hb_0 := hb; first | exact (pu_len_27 _ _ _) | (simp only [gv_t hb_0]; exact (pu_len_27 _ _ _)) | (simp only [gval_t hb_0, gv_t hb_0, gv_t hb, gva_tf hb_0, gv_n]; exact (pu_len_27 _ _ _))) ?_
 refine opK_pu (Pu.g fun hb => by have hb_0 := hb; first | exact (pu_eql _ _ _ _ _ _) | (simp only [gv_t hb_0]; exact (pu_eql _ _ _ _ _ _)) | (simp only [gval_t hb_0, gv_t hb_0, gv_t hb, gva_tf hb_0, gv_n]; exact (pu_eql _ _ _ _ _ _))) ?_
 refine opK_pu (pu_and _ _) ?_
 refine opK_pu (Pu.g fun hb => by have hb_0 := hb; first | exact pu_fa_34_4 | (simp only [gval_t hb_0, gv_t hb_0, gv_t hb, gva_tt hb_0]; exact pu_fa_34_4) | (simp only [gval_t hb_0, gv_t hb_0, gv_t hb, gva_tf hb_0, gv_n]; exact pu_fa_34_4)) ?_
 refine opK_ld (Ld.g fun hb => by have hb_0 := hb; first | exact (ld1 Try.isAgg27 (I_48.at1 (o := 4) (vs := [(vs r0_41.fVars)]) (nb rfl) rfl)) | (simp only [gv_t hb_0]; exact (ld1 Try.isAgg27 (I_48.at1 (o := 4) (vs := [(vs r0_41.fVars)]) (nb rfl) rfl))) | (simp only [gval_t hb_0, gv_t hb_0, gv_t hb, gva_tf hb_0, gv_n]; exact (ld1 Try.isAgg27 (I_48.at1 (o := 4) (vs := [(vs r0_41.fVars)]) (nb rfl) rfl)))) ?_
 obtain ⟨x_50, h_56, h⟩ := h
 obtain ⟨g_51, o_52, h_56⟩ := elt_g h_56
 refine opK_pu (Pu.g fun hb => by have hb_0 := hb; first | exact (pu_ix_27 (h_56 hb).2.2.1 _ _ _ _ (h_56 hb).1 (h_56 hb).2.1) | (simp only [gv_t hb_0]; exact (pu_ix_27 (h_56 hb).2.2.1 _ _ _ _ (h_56 hb).1 (h_56 hb).2.1)) | (simp only [gval_t hb_0, gv_t hb_0, gv_t hb, gva_tf hb_0, gv_n]; exact (pu_ix_27 (h_56 hb).2.2.1 _ _ _ _ (h_56 hb).1 (h_56 hb).2.1))) ?_
 refine opK_ld (Ld.g fun hb => by have hb_0 := hb; first | exact (ld1 (v := (vi x_50)) Try.isAgg2 (I_48.atH (h_56 hb).2.2.2)) | (simp only [gv_t hb_0]; exact (ld1 (v := (vi x_50)) Try.isAgg2 (I_48.atH (h_56 hb).2.2.2))) | (simp only [gval_t hb_0, gv_t hb_0, gv_t hb, gva_tf hb_0, gv_n]; exact (ld1 (v := (vi x_50)) Try.isAgg2 (I_48.atH (h_56 hb).2.2.2)))) ?_
 refine opK_pu (Pu.g fun hb => by have hb_0 := hb; first | exact (pu_eql _ _ _ _ _ _) | (simp only [gv_t hb_0]; exact (pu_eql _ _ _ _ _ _)) | (simp only [gval_t hb_0, gv_t hb_0, gv_t hb, gva_tf hb_0, gv_n]; exact (pu_eql _ _ _ _ _ _))) ?_
 refine opK_pu (pu_and _ _) ?_
 exact hR ((((((decide (r2_41 = 0)) && (decide (r1_41 = 1))) && (decide (r0_41.fStatus = 2))) && (decide (r0_41.fSteps = 1))) && (decide ((r0_41.fVars.n : Int) = 1))) && (decide (x_50 = 4))) H_33 _ I_48.drop.drop h
theorem L_gnomon_gnomonlaw10_known {H : Hp} {K : Bool → Hp → Prop} (h : T_gnomon_gnomonlaw10_known H K) : C_gnomon_gnomonlaw10_known H K := by
 intro w I
 refine F5_ok ?_
 refine LF_gnomon_gnomonlaw10_known I (fun r0 H' w' I' hk => ⟨H', _, I', r0, rfl, rfl, hk⟩) h


/- function 72: gnomon/gnomonref7.Sub -/
def T_gnomon_gnomonref7_Sub (x0 : Int) (x1 : Int) (H : Hp) (K : Int → Int → Hp → Prop) : Prop :=
 ((((decide (x1 < 0)) && (decide ((IntKind.wrap .i64 (9223372036854775807 + x1)) < x0))) || ((decide (0 < x1)) && (decide (x0 < (IntKind.wrap .i64 ((-9223372036854775808) + x1)))))) = true →
 K 0 1 H) ∧
 ((((decide (x1 < 0)) && (decide ((IntKind.wrap .i64 (9223372036854775807 + x1)) < x0))) || ((decide (0 < x1)) && (decide (x0 < (IntKind.wrap .i64 ((-9223372036854775808) + x1)))))) = false →
 K (IntKind.wrap .i64 (x0 - x1)) 0 H)
theorem LF_gnomon_gnomonref7_Sub (x0 : Int) (x1 : Int) {w0 w : World} {ps0 : Nat → Prop} {H0 H : Hp} {K : Int → Int → Hp → Prop} {R : Value → World → Prop} {E : Pan} (I : Inv w0 ps0 H0 H [] w) (hR : ∀ (r0 : Int) (r1 : Int) (H' : Hp) (w' : World) (_ : Inv w0 ps0 H0 H' [] w') (_ : K r0 r1 H'), R (Value.tuple #[(vi r0), (vi r1)]) w') (h : T_gnomon_gnomonref7_Sub x0 x1 H K) : F72 (vi x0) (vi x1) w R E := by
 unfold T_gnomon_gnomonref7_Sub at h
 unfold F72
 refine opK_pu (pu_lss _ _ _ _ _ _) ?_
 try simp only [gval_b]
 try simp only [gval_b, gv_gv, gvl_tt, gvl_tf, gvl_ft, gvl_ff, gvg_tt, gvg_tf, gvg_ft, gvg_ff]
 refine opK_pu (Pu.g fun hb => by have hb_0 := hb; first | exact (pu_add _ _ _ _ _ _) | (simp only [gv_t hb_0]; exact (pu_add _ _ _ _ _ _)) | (simp only [gval_t hb_0, gv_t hb_0, gv_t hb, gva_tf hb_0, gv_n]; exact (pu_add _ _ _ _ _ _))) ?_
 refine opK_pu (Pu.g fun hb => by have hb_0 := hb; first | exact (pu_gtr _ _ _ _ _ _) | (simp only [gv_t hb_0]; exact (pu_gtr _ _ _ _ _ _)) | (simp only [gval_t hb_0, gv_t hb_0, gv_t hb, gva_tf hb_0, gv_n]; exact (pu_gtr _ _ _ _ _ _))) ?_
 refine opK_pu (pu_and _ _) ?_
 try simp only [gval_b]
 refine opK_pu (Pu.g fun hb => by have hb_0 := hb; first | exact (pu_gtr _ _ _ _ _ _) | (simp only [gv_t hb_0]; exact (pu_gtr _ _ _ _ _ _)) | (simp only [gval_t hb_0, gv_t hb_0, gv_t hb, gva_ff hb_0, gv_n]; exact (pu_gtr _ _ _ _ _ _))) ?_
 try simp only [gv_gv, gvl_ft]
 try simp only [gval_b, gv_gv, gvl_tt, gvl_tf, gvl_ft, gvl_ff, gvg_tt, gvg_tf, gvg_ft, gvg_ff]
 try simp only [gval_b, gv_gv, gvl_tt, gvl_tf, gvl_ft, gvl_ff, gvg_tt, gvg_tf, gvg_ft, gvg_ff]
 refine opK_pu (Pu.e (gsgg_ft _ _ _) (Pu.g fun hb => by obtain ⟨hb_0, hb_1⟩ := gg_ft hb; first | exact (pu_add _ _ _ _ _ _) | (simp only [gv_t hb]; exact (pu_add _ _ _ _ _ _)))) ?_
 refine opK_pu (Pu.e (gsgg_ft _ _ _) (Pu.g fun hb => by obtain ⟨hb_0, hb_1⟩ := gg_ft hb; first | exact (pu_lss _ _ _ _ _ _) | (simp only [gv_t hb]; exact (pu_lss _ _ _ _ _ _)))) ?_
 refine opK_pu (Pu.g fun hb => by have hb_0 := hb; first | exact (pu_and _ _) | (simp only [gv_t hb_0, gva_ft hb_0]; exact (pu_and _ _)) | (simp only [gval_t hb_0, gv_t hb_0, gv_t hb, gva_ff hb_0, gv_n]; exact (pu_and _ _))) ?_
 refine opK_pu (pu_or _ _) ?_
 refine xcond_b (fun c_1 => ?_) (fun c_1 => ?_)
 ·replace h := h.1 c_1
  exact hR 0 1 H _ I h
 ·replace h := h.2 c_1
  refine opK_pu (pu_sub _ _ _ _ _ _) ?_
  exact hR (IntKind.wrap .i64 (x0 - x1)) 0 H _ I h
theorem L_gnomon_gnomonref7_Sub (x0 : Int) (x1 : Int) {H : Hp} {K : Int → Int → Hp → Prop} (h : T_gnomon_gnomonref7_Sub x0 x1 H K) : C_gnomon_gnomonref7_Sub x0 x1 H K := by
 intro w I
 refine F72_ok ?_
 refine LF_gnomon_gnomonref7_Sub x0 x1 I (fun r0 r1 H' w' I' hk => ⟨H', _, I', r0, r1, rfl, rfl, hk⟩) h


/- function 21: gnomon/gnomonref10.taken -/
def T_gnomon_gnomonref10_taken_j1 (_cr_1j1 : Tapi_Cfg) (_ccp1j1_0 : (List Int)) (_ccp1j1_1 : (List (List Int))) (H : Hp) (K : Int → Hp → Prop) : Prop :=
 K (-1) H
def T_gnomon_gnomonref10_taken_l2 (s2l2 : Sl) (cr_1l2 : Tapi_Cfg) (ccp1l2_0 : (List Int)) (ccp1l2_1 : (List (List Int))) (s7l2 : Int) (H : Hp) (n2 : Int → Hp → Prop) (K : Int → Hp → Prop) : Prop :=
 (s7l2 < (s2l2.n : Int) →
 (0 : Int) ≤ s7l2 ∧ (s7l2 : Int) < s2l2.n ∧ ∃ x_8 : Int, EltH H s2l2 s7l2 1 [(vi x_8)] ∧ 
 (0 : Int) ≤ x_8 ∧ (x_8 : Int) < cr_1l2.fEdges.n ∧ ∃ x_15 : Tapi_Edge, EltH H cr_1l2.fEdges x_8 10 (cs_api_Edge x_15) ∧ 
 TG ((!decide (x_15.fKind = 12)) = false) (C_gnomon_gnomonref10_state_value (Tgnomonref10_state.mk (Sl.mk none 0 0) (Sl.mk none 0 0)) ccp1l2_0 ccp1l2_1 x_15.fA H) 0 H (fun (r0_40 : Int) (H_32 : Hp) =>
 TG ((!decide (x_15.fKind = 12)) = false) (C_gnomon_gnomonref10_state_value (Tgnomonref10_state.mk (Sl.mk none 0 0) (Sl.mk none 0 0)) ccp1l2_0 ccp1l2_1 x_15.fB H_32) 0 H_32 (fun (r0_49 : Int) (H_41 : Hp) =>
 TG ((!decide (x_15.fKind = 12)) = false) (C_gnomon_gnomonref7_Cmp x_15.fOp r0_40 r0_49 H_41) false H_41 (fun (r0_58 : Bool) (H_50 : Hp) =>
 (((!decide (x_15.fKind = 12)) || r0_58) = true →
 K x_8 H_50) ∧
 (((!decide (x_15.fKind = 12)) || r0_58) = false →
 n2 (IntKind.wrap .i64 (s7l2 + 1)) H_50))))) ∧
 (¬ (s7l2 < (s2l2.n : Int)) →
 T_gnomon_gnomonref10_taken_j1 cr_1l2 ccp1l2_0 ccp1l2_1 H K)
def T_gnomon_gnomonref10_taken (x0 : Tapi_Cfg) (_x1 : Tgnomonref10_state) (x1_0 : (List Int)) (x1_1 : (List (List Int))) (x2 : Sl) (H : Hp) (K : Int → Hp → Prop) : Prop :=
 TL (0 : Int) H fun (s : Int) H n2 => T_gnomon_gnomonref10_taken_l2 x2 x0 x1_0 x1_1 s H n2 K
theorem LF_gnomon_gnomonref10_taken (x0 : Tapi_Cfg) (x1 : Tgnomonref10_state) (x1_0 : (List Int)) (x1_1 : (List (List Int))) (x2 : Sl) (g1 : Nat) (sx1_0 : Sl) (Fx1_0 : Frag) (sx1_1 : Sl) (Fx1_1 : Frag) (hx1_0 : RowL 2 1 cs_int64 sx1_0 x1_0 Fx1_0) (hx1_1 : RowsL 27 2 1 cs_int64 sx1_1 x1_1 Fx1_1) {w0 w : World} {ps0 : Nat → Prop} {H0 H : Hp} {K : Int → Hp → Prop} {R : Value → World → Prop} {E : Pan} (I : Inv w0 ps0 H0 H [bx g1 71 [(vs sx1_0), (vs sx1_1)], Fx1_0, Fx1_1] w) (hR : ∀ (r0 : Int) (H' : Hp) (w' : World) (_ : Inv w0 ps0 H0 H' [bx g1 71 [(vs sx1_0), (vs sx1_1)], Fx1_0, Fx1_1] w') (_ : K r0 H'), R (vi r0) w') (h : T_gnomon_gnomonref10_taken x0 x1 x1_0 x1_1 x2 H K) : F21 (Value.agg (cs_api_Cfg x0).toArray) (Value.pointer (some ⟨g1, 0, none⟩)) (vs x2) w R E := by
 unfold T_gnomon_gnomonref10_taken at h
 unfold F21
 refine s_box I (cs := (cs_api_Cfg x0)) rfl fun g_2 w_3 I_4 k_5 => ?_
 have hj1 : ∀ (H : Hp) (w : World) (_ : Inv w0 ps0 H0 H [bx g_2 26 (cs_api_Cfg x0), bx g1 71 [(vs sx1_0), (vs sx1_1)], Fx1_0, Fx1_1] w) (_ : T_gnomon_gnomonref10_taken_j1 x0 x1_0 x1_1 H K), F21_j1 w R E := by
  intro H w I h
  unfold F21_j1
  intro _
  unfold T_gnomon_gnomonref10_taken_j1 at h
  exact hR (-1) H _ (((I.drop.bring 2).bring 2).bring 2) h
 refine xcut_i fun j1 hx1 => ?_
 obtain ⟨J_71, m_72, i_73, b_74⟩ := h
 refine xloop_J (J := fun n l w => ∃ (s : Int) (H : Hp) , n = m_72 s ∧ l = [(vi s)] ∧ Inv w0 ps0 H0 H [bx g_2 26 (cs_api_Cfg x0), bx g1 71 [(vs sx1_0), (vs sx1_1)], Fx1_0, Fx1_1] w ∧ J_71 s H) ⟨_, 0, H, rfl, rfl, ((((I_4.bring 3).bring 3).bring 3).bring 3), i_73⟩ ?_
 rintro n_75 τ_76 w next2 ⟨s7l2, H, rfl, l_77, I, s_78⟩ hn2
 simp only [List.map_cons, List.map_nil, List.cons.injEq, and_true] at l_77
 have e7 := l_77
 simp only [e7]
 obtain ⟨n2, hm2, h⟩ : ∃ n2 : Int → Hp → Prop, (∀ s' H', n2 s' H' → J_71 s' H' ∧ m_72 s' < m_72 s7l2) ∧ T_gnomon_gnomonref10_taken_l2 x2 x0 x1_0 x1_1 s7l2 H n2 K := ⟨_, fun _ _ h => h, b_74 s7l2 H (fun s' H' => J_71 s' H' ∧ m_72 s' < m_72 s7l2) s_78 (fun _ _ a b => ⟨a, b⟩)⟩
 unfold F21_l2
 unfold T_gnomon_gnomonref10_taken_l2 at h
 refine opK_pu (pu_len_68 _ _ _) ?_
 refine opK_pu (pu_lss _ _ _ _ _ _) ?_
 refine xcond_p (fun c_70 => ?_) (fun c_70 => ?_)
 ·replace h := h.1 c_70
  refine s_dX I fun w_6 I_7 => ?_
  refine qP_pu pu_fa_26_5 ?_
  obtain ⟨h_11, h_12, x_8, h_14, h⟩ := h
  obtain ⟨g_9, o_10, h_13, h_14⟩ := h_14
  refine qP_pu (pu_ix_68 h_13 _ _ _ _ h_11 h_12) ?_
  refine qL_ld (ld1 Try.isAgg24 (I_7.at1 (o := 5) (vs := [(vs x0.fEdges)]) (nb rfl) rfl)) ?_
  refine qL_ld (ld1 (v := (vi x_8)) Try.isAgg3 (I_7.atH h_14)) ?_
  obtain ⟨h_18, h_19, x_15, h_21, h⟩ := h
  obtain ⟨g_16, o_17, h_20, h_21⟩ := h_21
  refine qP_pu (pu_ix_24 h_20 _ _ _ _ h_18 h_19) ?_
  refine qL_ld (ldA (vs := (cs_api_Edge x_15)) Try.isAgg52 Try.sizeOf52 rfl (I_7.atH h_21)) ?_
  refine s_alloc I_7 Try.zeroValue52 (cs := [(vi 0), (vi 0), (vi 0), (vi 0), (vi 0), (vi 0), (vi 0), (vi 0), (vi 0), (vi 0)]) rfl fun g_23 w_24 I_25 k_26 => ?_
  refine ⟨(k_26 _ (I_7.atH_lt h_21)), (k_26 _ (I_7.atH_lt h_14)), (k_26 _ I_7.lt1), ?_⟩
  refine s_store I_25 Try.sizeOf52 (vs := (cs_api_Edge x_15)) (cs' := (cs_api_Edge x_15)) rfl rfl (nb rfl) rfl rfl fun w_27 I_28 k_29 => ?_
  refine s_dX I_28 fun w_30 I_31 => ?_
  refine qP_pu pu_fa_52_2 ?_
  refine qL_ld (ld1 Try.isAgg3 (I_31.at1 (o := 2) (vs := [(vi x_15.fKind)]) (nb rfl) rfl)) ?_
  refine qP_pu (pu_neq _ _ _ _ _ _) ?_
  refine qP_pu (Pu.g fun hb => by have hb_0 := hb; first | exact pu_fa_52_5 | (simp only [gval_t hb_0, gv_t hb_0, gv_t hb, gva_ft hb_0]; exact pu_fa_52_5) | (simp only [gval_t hb_0, gv_t hb_0, gv_t hb, gva_ff hb_0, gv_n]; exact pu_fa_52_5)) ?_
  try simp only [gval_b]
  refine qP_pu (Pu.g fun hb => by have hb_0 := hb; first | exact pu_fa_52_6 | (simp only [gval_t hb_0, gv_t hb_0, gv_t hb, gva_ft hb_0]; exact pu_fa_52_6) | (simp only [gval_t hb_0, gv_t hb_0, gv_t hb, gva_ff hb_0, gv_n]; exact pu_fa_52_6)) ?_
  try simp only [gval_b, gv_gv, gvl_tt, gvl_tf, gvl_ft, gvl_ff, gvg_tt, gvg_tf, gvg_ft, gvg_ff]
  refine qP_pu (Pu.g fun hb => by have hb_0 := hb; first | exact pu_fa_52_7 | (simp only [gval_t hb_0, gv_t hb_0, gv_t hb, gva_ft hb_0]; exact pu_fa_52_7) | (simp only [gval_t hb_0, gv_t hb_0, gv_t hb, gva_ff hb_0, gv_n]; exact pu_fa_52_7)) ?_
  refine qL_g (p := (Value.pointer (some ⟨g_23, 5, none⟩))) rfl (Ld.g fun hb => by have hb_0 := hb; first | exact (ld1 Try.isAgg3 (I_31.at1 (o := 5) (vs := [(vi x_15.fOp)]) (nb rfl) rfl)) | (simp only [gv_t hb_0]; exact (ld1 Try.isAgg3 (I_31.at1 (o := 5) (vs := [(vi x_15.fOp)]) (nb rfl) rfl))) | (simp only [gval_t hb_0, gv_t hb_0, gv_t hb, gva_ff hb_0, gv_n]; exact (ld1 Try.isAgg3 (I_31.at1 (o := 5) (vs := [(vi x_15.fOp)]) (nb rfl) rfl)))) ?_
  refine qL_g (p := (Value.pointer (some ⟨g_23, 6, none⟩))) rfl (Ld.g fun hb => by have hb_0 := hb; first | exact (ldA Try.isAgg50 Try.sizeOf50 rfl (I_31.at1 (o := 6) (vs := (cs_api_Operand x_15.fA)) (nb rfl) rfl)) | (simp only [gv_t hb_0]; exact (ldA Try.isAgg50 Try.sizeOf50 rfl (I_31.at1 (o := 6) (vs := (cs_api_Operand x_15.fA)) (nb rfl) rfl))) | (simp only [gval_t hb_0, gv_t hb_0, gv_t hb, gva_ff hb_0, gv_n]; exact (ldA Try.isAgg50 Try.sizeOf50 rfl (I_31.at1 (o := 6) (vs := (cs_api_Operand x_15.fA)) (nb rfl) rfl)))) ?_
  refine qL_g (p := (Value.pointer (some ⟨g_23, 8, none⟩))) rfl (Ld.g fun hb => by have hb_0 := hb; first | exact (ldA Try.isAgg50 Try.sizeOf50 rfl (I_31.at1 (o := 8) (vs := (cs_api_Operand x_15.fB)) (nb rfl) rfl)) | (simp only [gv_t hb_0]; exact (ldA Try.isAgg50 Try.sizeOf50 rfl (I_31.at1 (o := 8) (vs := (cs_api_Operand x_15.fB)) (nb rfl) rfl))) | (simp only [gval_t hb_0, gv_t hb_0, gv_t hb, gva_ff hb_0, gv_n]; exact (ldA Try.isAgg50 Try.sizeOf50 rfl (I_31.at1 (o := 8) (vs := (cs_api_Operand x_15.fB)) (nb rfl) rfl)))) ?_
  refine opK_g2 (D := fun v_36 w_33 => ∃ (r0_40 : Int) (H_32 : Hp), v_36 = (gv (!decide (x_15.fKind = 12)) false (vi r0_40)) ∧ (Inv w0 ps0 H0 H_32 [bx g1 71 [(vs sx1_0), (vs sx1_1)], Fx1_0, Fx1_1, bx g_23 52 (cs_api_Edge x_15), bx g_2 26 (cs_api_Cfg x0)] w_33) ∧ (∀ i, i < w_30.heap.size → ¬ inF [bx g1 71 [(vs sx1_0), (vs sx1_1)], Fx1_0, Fx1_1] i → w_33.heap[i]? = w_30.heap[i]?) ∧ Hle H H_32 ∧ (TG ((!decide (x_15.fKind = 12)) = false) (C_gnomon_gnomonref10_state_value (Tgnomonref10_state.mk (Sl.mk none 0 0) (Sl.mk none 0 0)) x1_0 x1_1 x_15.fB H_32) 0 H_32 (fun (r0_49 : Int) (H_41 : Hp) =>
 TG ((!decide (x_15.fKind = 12)) = false) (C_gnomon_gnomonref7_Cmp x_15.fOp r0_40 r0_49 H_41) false H_41 (fun (r0_58 : Bool) (H_50 : Hp) =>
 (((!decide (x_15.fKind = 12)) || r0_58) = true →
 K x_8 H_50) ∧
 (((!decide (x_15.fKind = 12)) || r0_58) = false →
 n2 (IntKind.wrap .i64 (s7l2 + 1)) H_50))))) (fun b_69 => ?_) (fun b_69 => ?_) ?_
  ·replace h := h.1 b_69
   have hb_0 := b_69
   try simp only [gv_t hb_0]
   refine opK_calls (cap := []) (fun args w => Try.call48 args w) ?_
   refine Cv_ct (Fi := [bx g1 71 [(vs sx1_0), (vs sx1_1)], Fx1_0, Fx1_1]) (Fr := [bx g_23 52 (cs_api_Edge x_15), bx g_2 26 (cs_api_Cfg x0)]) (((I_31.bring 4).bring 4).bring 4) (h g1 sx1_0 Fx1_0 sx1_1 Fx1_1 hx1_0 hx1_1) (fun v_36 H_32 F_37 w_33 I_34 l_39 k_35 q_38 => ?_) (fun _ _ _ _ _ q => q.elim)
   obtain ⟨r0_40, rfl, rfl, h⟩ := q_38
   exact ⟨r0_40, H_32, by first | rfl | rw [gv_t b_69], I_34, k_35, l_39, h⟩
  ·exact ⟨0, H, by first | rfl | rw [gv_f b_69], (((I_31.bring 4).bring 4).bring 4), fun _ _ _ => rfl, Hle.refl _, h.2 b_69⟩
  ·clear h
   rintro v_36 w_33 ⟨r0_40, H_32, rfl, I_34, k_35, l_39, h⟩
   refine ⟨(same_g (p := (Value.pointer (some ⟨g_23, 8, none⟩))) rfl (k_35 _ I_31.lt1 (Inv.not_in (Fi := [bx g1 71 [(vs sx1_0), (vs sx1_1)], Fx1_0, Fx1_1]) (((I_31.bring 4).bring 4).bring 4)))), (same_g (p := (Value.pointer (some ⟨g_23, 5, none⟩))) rfl (k_35 _ I_31.lt1 (Inv.not_in (Fi := [bx g1 71 [(vs sx1_0), (vs sx1_1)], Fx1_0, Fx1_1]) (((I_31.bring 4).bring 4).bring 4)))), ?_⟩
   refine opK_g2 (D := fun v_45 w_42 => ∃ (r0_49 : Int) (H_41 : Hp), v_45 = (gv (!decide (x_15.fKind = 12)) false (vi r0_49)) ∧ (Inv w0 ps0 H0 H_41 [bx g1 71 [(vs sx1_0), (vs sx1_1)], Fx1_0, Fx1_1, bx g_23 52 (cs_api_Edge x_15), bx g_2 26 (cs_api_Cfg x0)] w_42) ∧ (∀ i, i < w_33.heap.size → ¬ inF [bx g1 71 [(vs sx1_0), (vs sx1_1)], Fx1_0, Fx1_1] i → w_42.heap[i]? = w_33.heap[i]?) ∧ Hle H_32 H_41 ∧ (TG ((!decide (x_15.fKind = 12)) = false) (C_gnomon_gnomonref7_Cmp x_15.fOp r0_40 r0_49 H_41) false H_41 (fun (r0_58 : Bool) (H_50 : Hp) =>
 (((!decide (x_15.fKind = 12)) || r0_58) = true →
 K x_8 H_50) ∧
 (((!decide (x_15.fKind = 12)) || r0_58) = false →
 n2 (IntKind.wrap .i64 (s7l2 + 1)) H_50)))) (fun b_68 => ?_) (fun b_68 => ?_) ?_
   ·replace h := h.1 b_68
    have hb_0 := b_68
    try simp only [gv_t hb_0]
    refine opK_calls (cap := []) (fun args w => Try.call48 args w) ?_
    refine Cv_ct (Fi := [bx g1 71 [(vs sx1_0), (vs sx1_1)], Fx1_0, Fx1_1]) (Fr := [bx g_23 52 (cs_api_Edge x_15), bx g_2 26 (cs_api_Cfg x0)]) (((I_34.bring 2).bring 2).bring 2) (h g1 sx1_0 Fx1_0 sx1_1 Fx1_1 hx1_0 hx1_1) (fun v_45 H_41 F_46 w_42 I_43 l_48 k_44 q_47 => ?_) (fun _ _ _ _ _ q => q.elim)
    obtain ⟨r0_49, rfl, rfl, h⟩ := q_47
    exact ⟨r0_49, H_41, by first | rfl | rw [gv_t b_68], I_43, k_44, l_48, h⟩
   ·exact ⟨0, H_32, by first | rfl | rw [gv_f b_68], (((I_34.bring 2).bring 2).bring 2), fun _ _ _ => rfl, Hle.refl _, h.2 b_68⟩
   ·clear h
    rintro v_45 w_42 ⟨r0_49, H_41, rfl, I_43, k_44, l_48, h⟩
    refine ⟨(same_g (p := (Value.pointer (some ⟨g_23, 5, none⟩))) rfl (k_44 _ (I_34.bring 3).lt1 (Inv.not_in (Fi := [bx g1 71 [(vs sx1_0), (vs sx1_1)], Fx1_0, Fx1_1]) ((((I_34.bring 3).bring 3).bring 3).bring 3)))), ?_⟩
    refine opK_g2 (D := fun v_54 w_51 => ∃ (r0_58 : Bool) (H_50 : Hp), v_54 = (gv (!decide (x_15.fKind = 12)) false (Value.bool r0_58)) ∧ (Inv w0 ps0 H0 H_50 [bx g1 71 [(vs sx1_0), (vs sx1_1)], Fx1_0, Fx1_1, bx g_23 52 (cs_api_Edge x_15), bx g_2 26 (cs_api_Cfg x0)] w_51) ∧ (∀ i, i < w_42.heap.size → ¬ inF [] i → w_51.heap[i]? = w_42.heap[i]?) ∧ Hle H_41 H_50 ∧ ((((!decide (x_15.fKind = 12)) || r0_58) = true →
 K x_8 H_50) ∧
 (((!decide (x_15.fKind = 12)) || r0_58) = false →
 n2 (IntKind.wrap .i64 (s7l2 + 1)) H_50))) (fun b_67 => ?_) (fun b_67 => ?_) ?_
    ·replace h := h.1 b_67
     have hb_0 := b_67
     try simp only [gv_t hb_0]
     refine opK_calls (cap := []) (fun args w => Try.call47 args w) ?_
     refine Cv_ct (Fi := []) (Fr := [bx g1 71 [(vs sx1_0), (vs sx1_1)], Fx1_0, Fx1_1, bx g_23 52 (cs_api_Edge x_15), bx g_2 26 (cs_api_Cfg x0)]) I_43 (h) (fun v_54 H_50 F_55 w_51 I_52 l_57 k_53 q_56 => ?_) (fun _ _ _ _ _ q => q.elim)
     obtain ⟨r0_58, rfl, rfl, h⟩ := q_56
     exact ⟨r0_58, H_50, by first | rfl | rw [gv_t b_67], I_52, k_53, l_57, h⟩
    ·exact ⟨false, H_41, by first | rfl | rw [gv_f b_67], I_43, fun _ _ _ => rfl, Hle.refl _, h.2 b_67⟩
    ·clear h
     rintro v_54 w_51 ⟨r0_58, H_50, rfl, I_52, k_53, l_57, h⟩
     refine qP_pu (pu_or _ _) ?_
     refine xcond_b (fun c_66 => ?_) (fun c_66 => ?_)
     ·replace h := h.1 c_66
      refine opK_pu (pu_ix_68 h_13 _ _ _ _ h_11 h_12) ?_
      refine opK_ld (ld1 (v := (vi x_8)) Try.isAgg3 (I_52.atH (h_14.le (Hle.trans l_39 (Hle.trans l_48 l_57))))) ?_
      exact hR x_8 H_50 _ (((((I_52.bring 3).drop.bring 3).drop.bring 2).bring 2).bring 2) h
     ·replace h := h.2 c_66
      refine opK_pu (pu_add _ _ _ _ _ _) ?_
      exact hn2 _ _ _ (hm2 _ _ h).2 ⟨(IntKind.wrap .i64 (s7l2 + 1)), H_50, rfl, rfl, (((((I_52.bring 3).drop.bring 2).bring 2).bring 2).bring 3), (hm2 _ _ h).1⟩
 ·replace h := h.2 c_70
  exact hx1 _ _ (hj1 H _ ((((I.bring 3).bring 3).bring 3).bring 3) h)
theorem L_gnomon_gnomonref10_taken (x0 : Tapi_Cfg) (x1 : Tgnomonref10_state) (x1_0 : (List Int)) (x1_1 : (List (List Int))) (x2 : Sl) {H : Hp} {K : Int → Hp → Prop} (h : T_gnomon_gnomonref10_taken x0 x1 x1_0 x1_1 x2 H K) : C_gnomon_gnomonref10_taken x0 x1 x1_0 x1_1 x2 H K := by
 intro g1 sx1_0 Fx1_0 sx1_1 Fx1_1 hx1_0 hx1_1 w I
 refine F21_ok ?_
 refine LF_gnomon_gnomonref10_taken x0 x1 x1_0 x1_1 x2 g1 sx1_0 Fx1_0 sx1_1 Fx1_1 hx1_0 hx1_1 I (fun r0 H' w' I' hk => ⟨H', _, I', r0, rfl, rfl, hk⟩) h


/- function 20: gnomon/gnomonref9.All -/
def T_gnomon_gnomonref9_All (x0 : Tapi_Cfg) (H : Hp) (K : Int → Hp → Prop) : Prop :=
 K (IntKind.wrap .i64 ((x0.fVars.n : Int) + x0.fTemps)) H
theorem LF_gnomon_gnomonref9_All (x0 : Tapi_Cfg) {w0 w : World} {ps0 : Nat → Prop} {H0 H : Hp} {K : Int → Hp → Prop} {R : Value → World → Prop} {E : Pan} (I : Inv w0 ps0 H0 H [] w) (hR : ∀ (r0 : Int) (H' : Hp) (w' : World) (_ : Inv w0 ps0 H0 H' [] w') (_ : K r0 H'), R (vi r0) w') (h : T_gnomon_gnomonref9_All x0 H K) : F20 (Value.agg (cs_api_Cfg x0).toArray) w R E := by
 unfold T_gnomon_gnomonref9_All at h
 unfold F20
 refine s_box I (cs := (cs_api_Cfg x0)) rfl fun g_2 w_3 I_4 k_5 => ?_
 refine opK_pu pu_fa_26_0 ?_
 refine opK_ld (ld1 Try.isAgg22 (I_4.at1 (o := 0) (vs := [(vs x0.fVars)]) (nb rfl) rfl)) ?_
 refine opK_pu (pu_len_22 _ _ _) ?_
 refine opK_pu pu_fa_26_1 ?_
 refine opK_ld (ld1 Try.isAgg3 (I_4.at1 (o := 1) (vs := [(vi x0.fTemps)]) (nb rfl) rfl)) ?_
 refine opK_pu (pu_add _ _ _ _ _ _) ?_
 exact hR (IntKind.wrap .i64 ((x0.fVars.n : Int) + x0.fTemps)) H _ I_4.drop h
theorem L_gnomon_gnomonref9_All (x0 : Tapi_Cfg) {H : Hp} {K : Int → Hp → Prop} (h : T_gnomon_gnomonref9_All x0 H K) : C_gnomon_gnomonref9_All x0 H K := by
 intro w I
 refine F20_ok ?_
 refine LF_gnomon_gnomonref9_All x0 I (fun r0 H' w' I' hk => ⟨H', _, I', r0, rfl, rfl, hk⟩) h


/- function 86: gnomon/gnomonref9.None -/
def T_gnomon_gnomonref9_None (H : Hp) (K : Tapi_Operand → Hp → Prop) : Prop :=
 K (Tapi_Operand.mk (-1) 0) H
theorem LF_gnomon_gnomonref9_None {w0 w : World} {ps0 : Nat → Prop} {H0 H : Hp} {K : Tapi_Operand → Hp → Prop} {R : Value → World → Prop} {E : Pan} (I : Inv w0 ps0 H0 H [] w) (hR : ∀ (r0 : Tapi_Operand) (H' : Hp) (w' : World) (_ : Inv w0 ps0 H0 H' [] w') (_ : K r0 H'), R (Value.agg (cs_api_Operand r0).toArray) w') (h : T_gnomon_gnomonref9_None H K) : F86 w R E := by
 unfold T_gnomon_gnomonref9_None at h
 unfold F86
 refine s_alloc I Try.zeroValue50 (cs := [(vi 0), (vi 0)]) rfl fun g_2 w_3 I_4 k_5 => ?_
 refine opK_pu (pu_bld_50_0 _) ?_
 refine s_store I_4 Try.sizeOf50 (vs := [(vi (-1)), (vi 0)]) (cs' := [(vi (-1)), (vi 0)]) rfl rfl (nb rfl) rfl rfl fun w_6 I_7 k_8 => ?_
 refine xcell_A Try.isAgg50 Try.sizeOf50 rfl (I_7.at1 (o := 0) (vs := [(vi (-1)), (vi 0)]) (nb rfl) rfl) ?_
 exact hR (Tapi_Operand.mk (-1) 0) H _ I_7.drop h
theorem L_gnomon_gnomonref9_None {H : Hp} {K : Tapi_Operand → Hp → Prop} (h : T_gnomon_gnomonref9_None H K) : C_gnomon_gnomonref9_None H K := by
 intro w I
 refine F86_ok ?_
 refine LF_gnomon_gnomonref9_None I (fun r0 H' w' I' hk => ⟨H', _, I', r0, rfl, rfl, hk⟩) h


end Go.Proofs.Ytgapepdglhcglaa
