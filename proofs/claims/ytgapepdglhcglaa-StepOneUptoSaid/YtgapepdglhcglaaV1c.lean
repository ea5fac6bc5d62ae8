/-
  Typed formulas of the program's functions, and the theorems that the contracts follow from them; printed by lift.py off the code.
-/
import Derived.Test.YtgapepdglhcglaaV1
namespace Go.Proofs.Ytgapepdglhcglaa
open Go.RowKit
set_option maxRecDepth 100000
set_option maxHeartbeats 2000000

/- function 67: gnomon/num.compares -/
def T_gnomon_num_compares (H : Hp) (K : Hp → Prop) : Prop :=
 K H
theorem LF_gnomon_num_compares {w0 w : World} {ps0 : Nat → Prop} {H0 H : Hp} {K : Hp → Prop} {R : Value → World → Prop} {E : Pan} (I : Inv w0 ps0 H0 H [] w) (hR : ∀ (H' : Hp) (w' : World) (_ : Inv w0 ps0 H0 H' [] w') (_ : K H'), R (Value.agg #[(Value.func (.func 79) #[] #[]), (Value.func (.func 80) #[] #[]), (Value.func (.func 81) #[] #[]), (Value.func (.func 82) #[] #[]), (Value.func (.func 83) #[] #[]), (Value.func (.func 84) #[] #[]), (Value.func (.func 85) #[] #[])]) w') (h : T_gnomon_num_compares H K) : F67 w R E := by
 unfold T_gnomon_num_compares at h
 unfold F67
 refine s_alloc I Try.zeroValue107 (cs := [Value.nilFunc, Value.nilFunc, Value.nilFunc, Value.nilFunc, Value.nilFunc, Value.nilFunc, Value.nilFunc]) rfl fun g_2 w_3 I_4 k_5 => ?_
 refine opK_pu pu_blf_107_79_80_81_82_83_84_85 ?_
 refine s_store I_4 Try.sizeOf107 (vs := [(Value.func (.func 79) #[] #[]), (Value.func (.func 80) #[] #[]), (Value.func (.func 81) #[] #[]), (Value.func (.func 82) #[] #[]), (Value.func (.func 83) #[] #[]), (Value.func (.func 84) #[] #[]), (Value.func (.func 85) #[] #[])]) (cs' := [(Value.func (.func 79) #[] #[]), (Value.func (.func 80) #[] #[]), (Value.func (.func 81) #[] #[]), (Value.func (.func 82) #[] #[]), (Value.func (.func 83) #[] #[]), (Value.func (.func 84) #[] #[]), (Value.func (.func 85) #[] #[])]) rfl rfl (nb rfl) rfl rfl fun w_6 I_7 k_8 => ?_
 refine xcell_A Try.isAgg107 Try.sizeOf107 rfl (I_7.at1 (o := 0) (vs := [(Value.func (.func 79) #[] #[]), (Value.func (.func 80) #[] #[]), (Value.func (.func 81) #[] #[]), (Value.func (.func 82) #[] #[]), (Value.func (.func 83) #[] #[]), (Value.func (.func 84) #[] #[]), (Value.func (.func 85) #[] #[])]) (nb rfl) rfl) ?_
 exact hR H _ I_7.drop h
theorem L_gnomon_num_compares {H : Hp} {K : Hp → Prop} (h : T_gnomon_num_compares H K) : C_gnomon_num_compares H K := by
 intro w I
 refine F67_ok ?_
 refine LF_gnomon_num_compares I (fun H' w' I' hk => ⟨H', _, I', rfl, rfl, hk⟩) h


/- function 82: gnomon/num.compares$3 -/
def T_gnomon_num_compares_3 (x0 : Int) (x1 : Int) (H : Hp) (K : Bool → Hp → Prop) : Prop :=
 K (decide (x0 = x1)) H
theorem LF_gnomon_num_compares_3 (x0 : Int) (x1 : Int) {w0 w : World} {ps0 : Nat → Prop} {H0 H : Hp} {K : Bool → Hp → Prop} {R : Value → World → Prop} {E : Pan} (I : Inv w0 ps0 H0 H [] w) (hR : ∀ (r0 : Bool) (H' : Hp) (w' : World) (_ : Inv w0 ps0 H0 H' [] w') (_ : K r0 H'), R (Value.bool r0) w') (h : T_gnomon_num_compares_3 x0 x1 H K) : F82 (vi x0) (vi x1) w R E := by
 unfold T_gnomon_num_compares_3 at h
 unfold F82
 refine opK_pu (pu_eql _ _ _ _ _ _) ?_
 exact hR (decide (x0 = x1)) H _ I h
theorem L_gnomon_num_compares_3 (x0 : Int) (x1 : Int) {H : Hp} {K : Bool → Hp → Prop} (h : T_gnomon_num_compares_3 x0 x1 H K) : C_gnomon_num_compares_3 x0 x1 H K := by
 intro w I
 refine F82_ok ?_
 refine LF_gnomon_num_compares_3 x0 x1 I (fun r0 H' w' I' hk => ⟨H', _, I', r0, rfl, rfl, hk⟩) h


/- function 32: (*gnomon/step.state).negates -/
def T_gnomon_step_state_negates (x0 : Tstep_state) (x0_3 : (List Int)) (x0_4 : (List (List Int))) (x0_6 : (List Tapi_Event)) (x1 : Tapi_Edge) (H : Hp) (K : Int → Tstep_state → (List Int) → (List (List Int)) → (List Tapi_Event) → Hp → Prop) : Prop :=
 C_gnomon_step_state_gives_of_gnomon_step_state_negates_1 (Tstep_state.mk x0.fc x0.ffrom x0.fpoint (Sl.mk none 0 0) (Sl.mk none 0 0) x0.fscript (Sl.mk none 0 0)) x0_3 x0_4 x0_6 x1 H (fun (r0_14 : Int) (y0_14 : Tstep_state) (y0_3_14 : (List Int)) (y0_4_14 : (List (List Int))) (y0_6_14 : (List Tapi_Event)) (H_6 : Hp) => 
 K r0_14 (Tstep_state.mk ((y0_14).fc) ((y0_14).ffrom) ((y0_14).fpoint) (Sl.mk none 0 0) (Sl.mk none 0 0) ((y0_14).fscript) (Sl.mk none 0 0)) y0_3_14 y0_4_14 y0_6_14 H_6)
theorem LF_gnomon_step_state_negates (x0 : Tstep_state) (x0_3 : (List Int)) (x0_4 : (List (List Int))) (x0_6 : (List Tapi_Event)) (x1 : Tapi_Edge) (g0 : Nat) (sx0_3 : Sl) (Fx0_3 : Frag) (sx0_4 : Sl) (Fx0_4 : Frag) (sx0_6 : Sl) (Fx0_6 : Frag) (hx0_3 : RowL 2 1 cs_int64 sx0_3 x0_3 Fx0_3) (hx0_4 : RowsL 27 2 1 cs_int64 sx0_4 x0_4 Fx0_4) (hx0_6 : RowL 74 3 cs_api_Event sx0_6 x0_6 Fx0_6) {w0 w : World} {ps0 : Nat → Prop} {H0 H : Hp} {K : Int → Tstep_state → (List Int) → (List (List Int)) → (List Tapi_Event) → Hp → Prop} {R : Value → World → Prop} {E : Pan} (I : Inv w0 ps0 H0 H [bx g0 58 [(vs x0.fc.fVars), (vi x0.fc.fTemps), (vs x0.fc.fArrays), (vi x0.fc.fPoints), (vi x0.fc.fExit), (vs x0.fc.fEdges), (vs x0.ffrom), (vi x0.fpoint), (vs sx0_3), (vs sx0_4), (vs x0.fscript), (vs sx0_6)], Fx0_3, Fx0_4, Fx0_6] w) (hR : ∀ (r0 : Int) (y0 : Tstep_state) (y0_3 : (List Int)) (y0_4 : (List (List Int))) (y0_6 : (List Tapi_Event)) (sy0_3 : Sl) (Fy0_3 : Frag) (sy0_4 : Sl) (Fy0_4 : Frag) (sy0_6 : Sl) (Fy0_6 : Frag) (H' : Hp) (w' : World) (_ : RowL 2 1 cs_int64 sy0_3 y0_3 Fy0_3) (_ : RowsL 27 2 1 cs_int64 sy0_4 y0_4 Fy0_4) (_ : RowL 74 3 cs_api_Event sy0_6 y0_6 Fy0_6) (_ : Inv w0 ps0 H0 H' [bx g0 58 [(vs y0.fc.fVars), (vi y0.fc.fTemps), (vs y0.fc.fArrays), (vi y0.fc.fPoints), (vi y0.fc.fExit), (vs y0.fc.fEdges), (vs y0.ffrom), (vi y0.fpoint), (vs sy0_3), (vs sy0_4), (vs y0.fscript), (vs sy0_6)], Fy0_3, Fy0_4, Fy0_6] w') (_ : K r0 y0 y0_3 y0_4 y0_6 H'), R (vi r0) w') (h : T_gnomon_step_state_negates x0 x0_3 x0_4 x0_6 x1 H K) : F32 (Value.pointer (some ⟨g0, 0, none⟩)) (Value.agg (cs_api_Edge x1).toArray) w R E := by
 unfold T_gnomon_step_state_negates at h
 unfold F32
 refine s_box I (cs := (cs_api_Edge x1)) rfl fun g_2 w_3 I_4 k_5 => ?_
 refine opK_ld (ldA Try.isAgg52 Try.sizeOf52 rfl (I_4.at1 (o := 0) (vs := (cs_api_Edge x1)) (nb rfl) rfl)) ?_
 refine opK_calls (cap := []) (fun args w => Try.call58 args w) ?_
 refine Cv_ct (Fi := [bx g0 58 [(vs x0.fc.fVars), (vi x0.fc.fTemps), (vs x0.fc.fArrays), (vi x0.fc.fPoints), (vi x0.fc.fExit), (vs x0.fc.fEdges), (vs x0.ffrom), (vi x0.fpoint), (vs sx0_3), (vs sx0_4), (vs x0.fscript), (vs sx0_6)], Fx0_3, Fx0_4, Fx0_6]) (Fr := [bx g_2 52 (cs_api_Edge x1)]) ((((I_4.bring 4).bring 4).bring 4).bring 4) (h g0 sx0_3 Fx0_3 sx0_4 Fx0_4 sx0_6 Fx0_6 hx0_3 hx0_4 hx0_6) (fun v_10 H_6 F_11 w_7 I_8 l_13 k_9 q_12 => ?_) (fun _ _ _ _ _ q => q.elim)
 obtain ⟨r0_14, y0_14, y0_3_14, y0_4_14, y0_6_14, sy0_3_14, Fy0_3_14, sy0_4_14, Fy0_4_14, sy0_6_14, Fy0_6_14, rfl, rfl, hy0_3_14, hy0_4_14, hy0_6_14, h⟩ := q_12
 exact hR r0_14 (Tstep_state.mk ((y0_14).fc) ((y0_14).ffrom) ((y0_14).fpoint) (Sl.mk none 0 0) (Sl.mk none 0 0) ((y0_14).fscript) (Sl.mk none 0 0)) y0_3_14 y0_4_14 y0_6_14 sy0_3_14 Fy0_3_14 sy0_4_14 Fy0_4_14 sy0_6_14 Fy0_6_14 H_6 _ hy0_3_14 hy0_4_14 hy0_6_14 (((((I_8.bring 4).drop.bring 3).bring 3).bring 3).bring 3) h
theorem L_gnomon_step_state_negates (x0 : Tstep_state) (x0_3 : (List Int)) (x0_4 : (List (List Int))) (x0_6 : (List Tapi_Event)) (x1 : Tapi_Edge) {H : Hp} {K : Int → Tstep_state → (List Int) → (List (List Int)) → (List Tapi_Event) → Hp → Prop} (h : T_gnomon_step_state_negates x0 x0_3 x0_4 x0_6 x1 H K) : C_gnomon_step_state_negates x0 x0_3 x0_4 x0_6 x1 H K := by
 intro g0 sx0_3 Fx0_3 sx0_4 Fx0_4 sx0_6 Fx0_6 hx0_3 hx0_4 hx0_6 w I
 refine F32_ok ?_
 refine LF_gnomon_step_state_negates x0 x0_3 x0_4 x0_6 x1 g0 sx0_3 Fx0_3 sx0_4 Fx0_4 sx0_6 Fx0_6 hx0_3 hx0_4 hx0_6 I (fun r0 y0 y0_3 y0_4 y0_6 sy0_3 Fy0_3 sy0_4 Fy0_4 sy0_6 Fy0_6 H' w' khy0_3 khy0_4 khy0_6 I' hk => ⟨H', _, I', r0, y0, y0_3, y0_4, y0_6, sy0_3, Fy0_3, sy0_4, Fy0_4, sy0_6, Fy0_6, rfl, rfl, khy0_3, khy0_4, khy0_6, hk⟩) h


/- function 58: (*gnomon/step.state).gives -/
def T_gnomon_step_state_gives_of_gnomon_num_Add_j1 (s8j1 : Int) (cp0j1_0 : Tapi_Cfg) (cp0j1_1 : Sl) (cp0j1_2 : Int) (ccp0j1_3 : (List Int)) (ccp0j1_4 : (List (List Int))) (cp0j1_5 : Sl) (ccp0j1_6 : (List Tapi_Event)) (_cr_1j1 : Tapi_Edge) (H : Hp) (K : Int → Tstep_state → (List Int) → (List (List Int)) → (List Tapi_Event) → Hp → Prop) : Prop :=
 K s8j1 (Tstep_state.mk cp0j1_0 cp0j1_1 cp0j1_2 (Sl.mk none 0 0) (Sl.mk none 0 0) cp0j1_5 (Sl.mk none 0 0)) ccp0j1_3 ccp0j1_4 ccp0j1_6 H
def T_gnomon_step_state_gives_of_gnomon_num_Add (x0 : Tstep_state) (x0_3 : (List Int)) (x0_4 : (List (List Int))) (x0_6 : (List Tapi_Event)) (x1 : Tapi_Edge) (H : Hp) (K : Int → Tstep_state → (List Int) → (List (List Int)) → (List Tapi_Event) → Hp → Prop) : Prop :=
 C_gnomon_step_state_value (Tstep_state.mk x0.fc x0.ffrom x0.fpoint (Sl.mk none 0 0) (Sl.mk none 0 0) x0.fscript (Sl.mk none 0 0)) x0_3 x0_4 x0_6 x1.fA H (fun (r0_16 : Int) (H_8 : Hp) => 
 C_gnomon_step_state_value (Tstep_state.mk x0.fc x0.ffrom x0.fpoint (Sl.mk none 0 0) (Sl.mk none 0 0) x0.fscript (Sl.mk none 0 0)) x0_3 x0_4 x0_6 x1.fB H_8 (fun (r0_25 : Int) (H_17 : Hp) => 
 C_gnomon_num_Add r0_16 r0_25 H_17 (fun (r0_34 : Int) (r1_34 : Int) (H_26 : Hp) => 
 (r1_34 = 0 →
 (0 : Int) ≤ x1.fDst ∧ ∃ x_37 : Int, (x0_3)[(x1.fDst : Int).toNat]? = some x_37 ∧
 T_gnomon_step_state_gives_of_gnomon_num_Add_j1 r1_34 x0.fc x0.ffrom x0.fpoint ((x0_3).set (x1.fDst : Int).toNat r0_34) x0_4 x0.fscript x0_6 x1 H_26 K) ∧
 (¬ (r1_34 = 0) →
 T_gnomon_step_state_gives_of_gnomon_num_Add_j1 r1_34 x0.fc x0.ffrom x0.fpoint x0_3 x0_4 x0.fscript x0_6 x1 H_26 K))))
theorem LF_gnomon_step_state_gives_of_gnomon_num_Add (x0 : Tstep_state) (x0_3 : (List Int)) (x0_4 : (List (List Int))) (x0_6 : (List Tapi_Event)) (x1 : Tapi_Edge) (g0 : Nat) (sx0_3 : Sl) (Fx0_3 : Frag) (sx0_4 : Sl) (Fx0_4 : Frag) (sx0_6 : Sl) (Fx0_6 : Frag) (hx0_3 : RowL 2 1 cs_int64 sx0_3 x0_3 Fx0_3) (hx0_4 : RowsL 27 2 1 cs_int64 sx0_4 x0_4 Fx0_4) (hx0_6 : RowL 74 3 cs_api_Event sx0_6 x0_6 Fx0_6) {w0 w : World} {ps0 : Nat → Prop} {H0 H : Hp} {K : Int → Tstep_state → (List Int) → (List (List Int)) → (List Tapi_Event) → Hp → Prop} {R : Value → World → Prop} {E : Pan} (I : Inv w0 ps0 H0 H [bx g0 58 [(vs x0.fc.fVars), (vi x0.fc.fTemps), (vs x0.fc.fArrays), (vi x0.fc.fPoints), (vi x0.fc.fExit), (vs x0.fc.fEdges), (vs x0.ffrom), (vi x0.fpoint), (vs sx0_3), (vs sx0_4), (vs x0.fscript), (vs sx0_6)], Fx0_3, Fx0_4, Fx0_6] w) (hR : ∀ (r0 : Int) (y0 : Tstep_state) (y0_3 : (List Int)) (y0_4 : (List (List Int))) (y0_6 : (List Tapi_Event)) (sy0_3 : Sl) (Fy0_3 : Frag) (sy0_4 : Sl) (Fy0_4 : Frag) (sy0_6 : Sl) (Fy0_6 : Frag) (H' : Hp) (w' : World) (_ : RowL 2 1 cs_int64 sy0_3 y0_3 Fy0_3) (_ : RowsL 27 2 1 cs_int64 sy0_4 y0_4 Fy0_4) (_ : RowL 74 3 cs_api_Event sy0_6 y0_6 Fy0_6) (_ : Inv w0 ps0 H0 H' [bx g0 58 [(vs y0.fc.fVars), (vi y0.fc.fTemps), (vs y0.fc.fArrays), (vi y0.fc.fPoints), (vi y0.fc.fExit), (vs y0.fc.fEdges), (vs y0.ffrom), (vi y0.fpoint), (vs sy0_3), (vs sy0_4), (vs y0.fscript), (vs sy0_6)], Fy0_3, Fy0_4, Fy0_6] w') (_ : K r0 y0 y0_3 y0_4 y0_6 H'), R (vi r0) w') (h : T_gnomon_step_state_gives_of_gnomon_num_Add x0 x0_3 x0_4 x0_6 x1 H K) : F58 (Value.pointer (some ⟨g0, 0, none⟩)) (Value.agg (cs_api_Edge x1).toArray) (Value.func (.func 61) #[] #[]) w R E := by
 unfold T_gnomon_step_state_gives_of_gnomon_num_Add at h
 unfold F58
 refine s_box I (cs := (cs_api_Edge x1)) rfl fun g_2 w_3 I_4 k_5 => ?_
 refine s_dX I_4 fun w_6 I_7 => ?_
 refine qP_pu pu_fa_52_6 ?_
 refine qP_pu pu_fa_52_7 ?_
 refine qL_ld (ldA Try.isAgg50 Try.sizeOf50 rfl (I_7.at1 (o := 6) (vs := (cs_api_Operand x1.fA)) (nb rfl) rfl)) ?_
 refine qL_ld (ldA Try.isAgg50 Try.sizeOf50 rfl (I_7.at1 (o := 8) (vs := (cs_api_Operand x1.fB)) (nb rfl) rfl)) ?_
 refine opK_calls (cap := []) (fun args w => Try.call44 args w) ?_
 refine Cv_ct (Fi := [bx g0 58 [(vs x0.fc.fVars), (vi x0.fc.fTemps), (vs x0.fc.fArrays), (vi x0.fc.fPoints), (vi x0.fc.fExit), (vs x0.fc.fEdges), (vs x0.ffrom), (vi x0.fpoint), (vs sx0_3), (vs sx0_4), (vs x0.fscript), (vs sx0_6)], Fx0_3, Fx0_4, Fx0_6]) (Fr := [bx g_2 52 (cs_api_Edge x1)]) ((((I_7.bring 4).bring 4).bring 4).bring 4) (h g0 sx0_3 Fx0_3 sx0_4 Fx0_4 sx0_6 Fx0_6 hx0_3 hx0_4 hx0_6) (fun v_12 H_8 F_13 w_9 I_10 l_15 k_11 q_14 => ?_) (fun _ _ _ _ _ q => q.elim)
 obtain ⟨r0_16, rfl, rfl, h⟩ := q_14
 refine ⟨(k_11 _ I_7.lt1 (Inv.not_in (Fi := [bx g0 58 [(vs x0.fc.fVars), (vi x0.fc.fTemps), (vs x0.fc.fArrays), (vi x0.fc.fPoints), (vi x0.fc.fExit), (vs x0.fc.fEdges), (vs x0.ffrom), (vi x0.fpoint), (vs sx0_3), (vs sx0_4), (vs x0.fscript), (vs sx0_6)], Fx0_3, Fx0_4, Fx0_6]) ((((I_7.bring 4).bring 4).bring 4).bring 4))), ?_⟩
 refine opK_calls (cap := []) (fun args w => Try.call44 args w) ?_
 refine Cv_ct (Fi := [bx g0 58 [(vs x0.fc.fVars), (vi x0.fc.fTemps), (vs x0.fc.fArrays), (vi x0.fc.fPoints), (vi x0.fc.fExit), (vs x0.fc.fEdges), (vs x0.ffrom), (vi x0.fpoint), (vs sx0_3), (vs sx0_4), (vs x0.fscript), (vs sx0_6)], Fx0_3, Fx0_4, Fx0_6]) (Fr := [bx g_2 52 (cs_api_Edge x1)]) ((((I_10.bring 3).bring 3).bring 3).bring 3) (h g0 sx0_3 Fx0_3 sx0_4 Fx0_4 sx0_6 Fx0_6 hx0_3 hx0_4 hx0_6) (fun v_21 H_17 F_22 w_18 I_19 l_24 k_20 q_23 => ?_) (fun _ _ _ _ _ q => q.elim)
 obtain ⟨r0_25, rfl, rfl, h⟩ := q_23
 refine opK_calls (cap := []) (fun args w => Try.call61 args w) ?_
 refine Cv_ct (Fi := []) (Fr := [bx g0 58 [(vs x0.fc.fVars), (vi x0.fc.fTemps), (vs x0.fc.fArrays), (vi x0.fc.fPoints), (vi x0.fc.fExit), (vs x0.fc.fEdges), (vs x0.ffrom), (vi x0.fpoint), (vs sx0_3), (vs sx0_4), (vs x0.fscript), (vs sx0_6)], Fx0_3, Fx0_4, Fx0_6, bx g_2 52 (cs_api_Edge x1)]) I_19 (h) (fun v_30 H_26 F_31 w_27 I_28 l_33 k_29 q_32 => ?_) (fun _ _ _ _ _ q => q.elim)
 obtain ⟨r0_34, r1_34, rfl, rfl, h⟩ := q_32
 refine qP_pu (pu_extract _ _ _ rfl) ?_
 refine qP_pu (pu_extract _ _ _ rfl) ?_
 have hj1 : ∀ (cp0j1_0 : Tapi_Cfg) (cp0j1_1 : Sl) (cp0j1_2 : Int) (ccp0j1_3 : (List Int)) (cp0j1_5 : Sl) (Fcp0j1_3 : Frag) (H : Hp) (w : World) (_ : RowL 2 1 cs_int64 sx0_3 ccp0j1_3 Fcp0j1_3) (_ : Inv w0 ps0 H0 H [bx g0 58 [(vs cp0j1_0.fVars), (vi cp0j1_0.fTemps), (vs cp0j1_0.fArrays), (vi cp0j1_0.fPoints), (vi cp0j1_0.fExit), (vs cp0j1_0.fEdges), (vs cp0j1_1), (vi cp0j1_2), (vs sx0_3), (vs sx0_4), (vs cp0j1_5), (vs sx0_6)], bx g_2 52 (cs_api_Edge x1), Fx0_4, Fx0_6, Fcp0j1_3] w) (_ : T_gnomon_step_state_gives_of_gnomon_num_Add_j1 r1_34 cp0j1_0 cp0j1_1 cp0j1_2 ccp0j1_3 x0_4 cp0j1_5 x0_6 x1 H K), F58_j1 (vi r1_34) w R E := by
  intro cp0j1_0 cp0j1_1 cp0j1_2 ccp0j1_3 cp0j1_5 Fcp0j1_3 H w hcp0j1_3 I h
  unfold F58_j1
  intro _
  unfold T_gnomon_step_state_gives_of_gnomon_num_Add_j1 at h
  exact hR r1_34 (Tstep_state.mk cp0j1_0 cp0j1_1 cp0j1_2 (Sl.mk none 0 0) (Sl.mk none 0 0) cp0j1_5 (Sl.mk none 0 0)) ccp0j1_3 x0_4 x0_6 sx0_3 Fcp0j1_3 sx0_4 Fx0_4 sx0_6 Fx0_6 H _ hcp0j1_3 hx0_4 hx0_6 (((((I.bring 1).drop.bring 2).bring 2).bring 3).bring 3) h
 refine xcut_i fun j1 hx1 => ?_
 refine opK_pu (pu_eql _ _ _ _ _ _) ?_
 refine xcond_p (fun c_49 => ?_) (fun c_49 => ?_)
 ·replace h := h.1 c_49
  refine s_dX I_28 fun w_35 I_36 => ?_
  refine qP_pu (pu_nilp _) ?_
  refine qP_pu pu_fa_58_3 ?_
  refine qP_pu pu_fa_52_3 ?_
  refine qL_ld (ld1 Try.isAgg27 (I_36.at1 (o := 8) (vs := [(vs sx0_3)]) (nb rfl) rfl)) ?_
  refine qL_ld (ld1 Try.isAgg3 ((I_36.bring 4).at1 (o := 3) (vs := [(vi x1.fDst)]) (nb rfl) rfl)) ?_
  obtain ⟨h_39, x_37, h_40, h⟩ := h
  obtain ⟨g_38, a_42, h_41, h_43⟩ := hx0_3.addr h_40
  refine qP_pu (pu_ix_27 h_41 _ _ _ _ h_39 (hx0_3.lt h_39 h_40)) ?_
  refine s_rowst (x := r0_34) (I_36.bring 1) hx0_3 h_41 (List.getElem?_eq_some_iff.1 h_40).1 Try.sizeOf2 rfl fun F_44 w_45 h_46 I_47 k_48 => ?_
  exact hx1 _ _ (hj1 x0.fc x0.ffrom x0.fpoint ((x0_3).set (x1.fDst : Int).toNat r0_34) x0.fscript F_44 H_26 _ h_46 ((((I_47.bring 3).bring 3).bring 4).bring 4) h)
 ·replace h := h.2 c_49
  exact hx1 _ _ (hj1 x0.fc x0.ffrom x0.fpoint x0_3 x0.fscript Fx0_3 H_26 _ hx0_3 (((((I_28.bring 1).bring 3).bring 3).bring 4).bring 4) h)
theorem L_gnomon_step_state_gives_of_gnomon_num_Add (x0 : Tstep_state) (x0_3 : (List Int)) (x0_4 : (List (List Int))) (x0_6 : (List Tapi_Event)) (x1 : Tapi_Edge) {H : Hp} {K : Int → Tstep_state → (List Int) → (List (List Int)) → (List Tapi_Event) → Hp → Prop} (h : T_gnomon_step_state_gives_of_gnomon_num_Add x0 x0_3 x0_4 x0_6 x1 H K) : C_gnomon_step_state_gives_of_gnomon_num_Add x0 x0_3 x0_4 x0_6 x1 H K := by
 intro g0 sx0_3 Fx0_3 sx0_4 Fx0_4 sx0_6 Fx0_6 hx0_3 hx0_4 hx0_6 w I
 refine F58_ok ?_
 refine LF_gnomon_step_state_gives_of_gnomon_num_Add x0 x0_3 x0_4 x0_6 x1 g0 sx0_3 Fx0_3 sx0_4 Fx0_4 sx0_6 Fx0_6 hx0_3 hx0_4 hx0_6 I (fun r0 y0 y0_3 y0_4 y0_6 sy0_3 Fy0_3 sy0_4 Fy0_4 sy0_6 Fy0_6 H' w' khy0_3 khy0_4 khy0_6 I' hk => ⟨H', _, I', r0, y0, y0_3, y0_4, y0_6, sy0_3, Fy0_3, sy0_4, Fy0_4, sy0_6, Fy0_6, rfl, rfl, khy0_3, khy0_4, khy0_6, hk⟩) h


/- function 39: (*gnomon/step.state).loads -/
def T_gnomon_step_state_loads (x0 : Tstep_state) (x0_3 : (List Int)) (x0_4 : (List (List Int))) (x0_6 : (List Tapi_Event)) (x1 : Tapi_Edge) (H : Hp) (K : Int → Tstep_state → (List Int) → (List (List Int)) → (List Tapi_Event) → Hp → Prop) : Prop :=
 (0 : Int) ≤ x1.fArr ∧ ∃ xs_14 : List Int, (x0_4)[(x1.fArr : Int).toNat]? = some xs_14 ∧
 C_gnomon_step_state_value (Tstep_state.mk x0.fc x0.ffrom x0.fpoint (Sl.mk none 0 0) (Sl.mk none 0 0) x0.fscript (Sl.mk none 0 0)) x0_3 x0_4 x0_6 x1.fA H (fun (r0_42 : Int) (H_34 : Hp) => 
 (((decide (r0_42 < 0)) || (decide ((xs_14.length : Int) ≤ r0_42))) = true →
 K 3 (Tstep_state.mk x0.fc x0.ffrom x0.fpoint (Sl.mk none 0 0) (Sl.mk none 0 0) x0.fscript (Sl.mk none 0 0)) x0_3 x0_4 x0_6 H_34) ∧
 (((decide (r0_42 < 0)) || (decide ((xs_14.length : Int) ≤ r0_42))) = false →
 (0 : Int) ≤ r0_42 ∧ ∃ x_43 : Int, (xs_14)[(r0_42 : Int).toNat]? = some x_43 ∧
 (0 : Int) ≤ x1.fDst ∧ ∃ x_52 : Int, (x0_3)[(x1.fDst : Int).toNat]? = some x_52 ∧
 K 0 (Tstep_state.mk x0.fc x0.ffrom x0.fpoint (Sl.mk none 0 0) (Sl.mk none 0 0) x0.fscript (Sl.mk none 0 0)) ((x0_3).set (x1.fDst : Int).toNat x_43) x0_4 x0_6 H_34))
theorem LF_gnomon_step_state_loads (x0 : Tstep_state) (x0_3 : (List Int)) (x0_4 : (List (List Int))) (x0_6 : (List Tapi_Event)) (x1 : Tapi_Edge) (g0 : Nat) (sx0_3 : Sl) (Fx0_3 : Frag) (sx0_4 : Sl) (Fx0_4 : Frag) (sx0_6 : Sl) (Fx0_6 : Frag) (hx0_3 : RowL 2 1 cs_int64 sx0_3 x0_3 Fx0_3) (hx0_4 : RowsL 27 2 1 cs_int64 sx0_4 x0_4 Fx0_4) (hx0_6 : RowL 74 3 cs_api_Event sx0_6 x0_6 Fx0_6) {w0 w : World} {ps0 : Nat → Prop} {H0 H : Hp} {K : Int → Tstep_state → (List Int) → (List (List Int)) → (List Tapi_Event) → Hp → Prop} {R : Value → World → Prop} {E : Pan} (I : Inv w0 ps0 H0 H [bx g0 58 [(vs x0.fc.fVars), (vi x0.fc.fTemps), (vs x0.fc.fArrays), (vi x0.fc.fPoints), (vi x0.fc.fExit), (vs x0.fc.fEdges), (vs x0.ffrom), (vi x0.fpoint), (vs sx0_3), (vs sx0_4), (vs x0.fscript), (vs sx0_6)], Fx0_3, Fx0_4, Fx0_6] w) (hR : ∀ (r0 : Int) (y0 : Tstep_state) (y0_3 : (List Int)) (y0_4 : (List (List Int))) (y0_6 : (List Tapi_Event)) (sy0_3 : Sl) (Fy0_3 : Frag) (sy0_4 : Sl) (Fy0_4 : Frag) (sy0_6 : Sl) (Fy0_6 : Frag) (H' : Hp) (w' : World) (_ : RowL 2 1 cs_int64 sy0_3 y0_3 Fy0_3) (_ : RowsL 27 2 1 cs_int64 sy0_4 y0_4 Fy0_4) (_ : RowL 74 3 cs_api_Event sy0_6 y0_6 Fy0_6) (_ : Inv w0 ps0 H0 H' [bx g0 58 [(vs y0.fc.fVars), (vi y0.fc.fTemps), (vs y0.fc.fArrays), (vi y0.fc.fPoints), (vi y0.fc.fExit), (vs y0.fc.fEdges), (vs y0.ffrom), (vi y0.fpoint), (vs sy0_3), (vs sy0_4), (vs y0.fscript), (vs sy0_6)], Fy0_3, Fy0_4, Fy0_6] w') (_ : K r0 y0 y0_3 y0_4 y0_6 H'), R (vi r0) w') (h : T_gnomon_step_state_loads x0 x0_3 x0_4 x0_6 x1 H K) : F39 (Value.pointer (some ⟨g0, 0, none⟩)) (Value.agg (cs_api_Edge x1).toArray) w R E := by
 unfold T_gnomon_step_state_loads at h
 unfold F39
 refine s_box I (cs := (cs_api_Edge x1)) rfl fun g_2 w_3 I_4 k_5 => ?_
 refine opK_ld (ldA Try.isAgg52 Try.sizeOf52 rfl (I_4.at1 (o := 0) (vs := (cs_api_Edge x1)) (nb rfl) rfl)) ?_
 refine opK_calls (cap := []) (fun args w => Try.call66 args w) ?_
 refine F66_ok ?_
 unfold F66
 refine s_box I_4 (cs := (cs_api_Edge x1)) rfl fun g_7 w_8 I_9 k_10 => ?_
 refine s_dX I_9 fun w_11 I_12 => ?_
 refine qP_pu pu_fa_52_6 ?_
 refine qP_pu (pu_nilp _) ?_
 refine qP_pu pu_fa_58_4 ?_
 refine qP_pu pu_fa_52_4 ?_
 refine qL_ld (ldA Try.isAgg50 Try.sizeOf50 rfl (I_12.at1 (o := 6) (vs := (cs_api_Operand x1.fA)) (nb rfl) rfl)) ?_
 refine qL_ld (ld1 Try.isAgg32 ((I_12.bring 2).at1 (o := 9) (vs := [(vs sx0_4)]) (nb rfl) rfl)) ?_
 refine qL_ld (ld1 Try.isAgg3 (I_12.at1 (o := 4) (vs := [(vi x1.fArr)]) (nb rfl) rfl)) ?_
 obtain ⟨h_13, xs_14, h_15, h⟩ := h
 obtain ⟨ss_16, s_17, F_18, F_19, F_20, h_21, h_22, h_23, h_24, h_25, I_26⟩ := RowsL.open_ hx0_4 (I_12.bring 4) h_15
 obtain ⟨g_30, a_32, h_31, h_33⟩ := h_21.addr h_22
 refine qP_pu (pu_ix_32 h_31 _ _ _ _ h_13 (h_21.lt h_13 h_22)) ?_
 refine qL_ld (ld1 (v := (vs s_17)) Try.isAgg27 (h_21.atW I_26 h_31 h_22)) ?_
 refine opK_calls (cap := []) (fun args w => Try.call44 args w) ?_
 refine Cv_ct (Fi := [bx g0 58 [(vs x0.fc.fVars), (vi x0.fc.fTemps), (vs x0.fc.fArrays), (vi x0.fc.fPoints), (vi x0.fc.fExit), (vs x0.fc.fEdges), (vs x0.ffrom), (vi x0.fpoint), (vs sx0_3), (vs sx0_4), (vs x0.fscript), (vs sx0_6)], Fx0_3, (F_18 ++ (F_19 ++ F_20)), Fx0_6]) (Fr := [bx g_7 52 (cs_api_Edge x1), bx g_2 52 (cs_api_Edge x1)]) (((((((I_26.bring 2).bring 2).bring 2).join3.bring 5).bring 1).bring 5).bring 5) (h g0 sx0_3 Fx0_3 sx0_4 (F_18 ++ (F_19 ++ F_20)) sx0_6 Fx0_6 hx0_3 (RowsL.same (RowsL.close0 h_21 h_22 h_23 h_24) h_15) hx0_6) (fun v_38 H_34 F_39 w_35 I_36 l_41 k_37 q_40 => ?_) (fun _ _ _ _ _ q => q.elim)
 obtain ⟨r0_42, rfl, rfl, h⟩ := q_40
 refine ⟨(RowL.keepF h_21 h_31 I_26 (I_36.bring 2).unjoin3), (k_37 _ ((((I_26.bring 2).bring 2).bring 2).join3.bring 1).lt1 (Inv.not_in (Fi := [bx g0 58 [(vs x0.fc.fVars), (vi x0.fc.fTemps), (vs x0.fc.fArrays), (vi x0.fc.fPoints), (vi x0.fc.fExit), (vs x0.fc.fEdges), (vs x0.ffrom), (vi x0.fpoint), (vs sx0_3), (vs sx0_4), (vs x0.fscript), (vs sx0_6)], Fx0_3, (F_18 ++ (F_19 ++ F_20)), Fx0_6]) ((((((((I_26.bring 2).bring 2).bring 2).join3.bring 1).bring 5).bring 2).bring 5).bring 5))), ((I_36.bring 0).hp1.trans ((((I_26.bring 2).bring 2).bring 2).join3.bring 3).hp1.symm), ?_⟩
 refine opK_pu (pu_lss _ _ _ _ _ _) ?_
 try simp only [gval_b]
 try simp only [gval_b, gv_gv, gvl_tt, gvl_tf, gvl_ft, gvl_ff, gvg_tt, gvg_tf, gvg_ft, gvg_ff]
 refine opK_pu (Pu.g fun hb => by have hb_0 := hb; first | exact (pu_len_row Try.underlying27 h_23) | (simp only [gv_t hb_0]; exact (pu_len_row Try.underlying27 h_23)) | (simp only [gval_t hb_0, gv_t hb_0, gv_t hb, gva_ff hb_0, gv_n]; exact (pu_len_row Try.underlying27 h_23))) ?_
 refine opK_pu (Pu.g fun hb => by have hb_0 := hb; first | exact (pu_geq _ _ _ _ _ _) | (simp only [gv_t hb_0]; exact (pu_geq _ _ _ _ _ _)) | (simp only [gval_t hb_0, gv_t hb_0, gv_t hb, gva_ff hb_0, gv_n]; exact (pu_geq _ _ _ _ _ _))) ?_
 refine opK_pu (pu_or _ _) ?_
 refine xcond_b (fun c_64 => ?_) (fun c_64 => ?_)
 ·replace h := h.1 c_64
  refine opK_pu (pu_nilt_104 _ _) ?_
  refine xcond_b (fun e => ?_) (fun e => by cases e)
  exact hR 3 (Tstep_state.mk x0.fc x0.ffrom x0.fpoint (Sl.mk none 0 0) (Sl.mk none 0 0) x0.fscript (Sl.mk none 0 0)) x0_3 x0_4 x0_6 sx0_3 Fx0_3 sx0_4 Fx0_4 sx0_6 Fx0_6 H_34 _ hx0_3 hx0_4 hx0_6 (((((((((((I_36.bring 2).unjoin3.bring 2).bring 2).bring 2).join3.permF h_25).bring 4).drop.bring 4).drop.bring 3).bring 1).bring 3).bring 3) h
 ·replace h := h.2 c_64
  obtain ⟨h_45, x_43, h_46, h⟩ := h
  obtain ⟨g_44, a_48, h_47, h_49⟩ := h_23.addr h_46
  refine opK_pu (pu_ix_27 h_47 _ _ _ _ h_45 (h_23.lt h_45 h_46)) ?_
  refine opK_pu (pu_nilf_104 _ _ _) ?_
  refine xcond_b (fun e => by cases e) (fun e => ?_)
  refine s_dX (I_36.bring 2).unjoin3 fun w_50 I_51 => ?_
  refine qP_pu (pu_nilp _) ?_
  refine qP_pu pu_fa_58_3 ?_
  refine qP_pu pu_fa_52_3 ?_
  refine qP_pu (pu_nilp _) ?_
  refine qL_ld (ld1 Try.isAgg27 ((I_51.bring 3).at1 (o := 8) (vs := [(vs sx0_3)]) (nb rfl) rfl)) ?_
  refine qL_ld (ld1 Try.isAgg3 ((I_51.bring 7).at1 (o := 3) (vs := [(vi x1.fDst)]) (nb rfl) rfl)) ?_
  refine qL_ld (ld1 (v := (vi x_43)) Try.isAgg2 (h_23.atW (I_51.bring 1) h_47 h_46)) ?_
  obtain ⟨h_54, x_52, h_55, h⟩ := h
  obtain ⟨g_53, a_57, h_56, h_58⟩ := hx0_3.addr h_55
  refine qP_pu (pu_ix_27 h_56 _ _ _ _ h_54 (hx0_3.lt h_54 h_55)) ?_
  refine s_rowst (x := x_43) (I_51.bring 4) hx0_3 h_56 (List.getElem?_eq_some_iff.1 h_55).1 Try.sizeOf2 rfl fun F_59 w_60 h_61 I_62 k_63 => ?_
  exact hR 0 (Tstep_state.mk x0.fc x0.ffrom x0.fpoint (Sl.mk none 0 0) (Sl.mk none 0 0) x0.fscript (Sl.mk none 0 0)) ((x0_3).set (x1.fDst : Int).toNat x_43) x0_4 x0_6 sx0_3 F_59 sx0_4 Fx0_4 sx0_6 Fx0_6 H_34 _ h_61 hx0_4 hx0_6 ((((((((((I_62.bring 3).bring 3).bring 3).join3.permF h_25).bring 4).drop.bring 4).drop.bring 3).bring 1).bring 2).bring 3) h
theorem L_gnomon_step_state_loads (x0 : Tstep_state) (x0_3 : (List Int)) (x0_4 : (List (List Int))) (x0_6 : (List Tapi_Event)) (x1 : Tapi_Edge) {H : Hp} {K : Int → Tstep_state → (List Int) → (List (List Int)) → (List Tapi_Event) → Hp → Prop} (h : T_gnomon_step_state_loads x0 x0_3 x0_4 x0_6 x1 H K) : C_gnomon_step_state_loads x0 x0_3 x0_4 x0_6 x1 H K := by
 intro g0 sx0_3 Fx0_3 sx0_4 Fx0_4 sx0_6 Fx0_6 hx0_3 hx0_4 hx0_6 w I
 refine F39_ok ?_
 refine LF_gnomon_step_state_loads x0 x0_3 x0_4 x0_6 x1 g0 sx0_3 Fx0_3 sx0_4 Fx0_4 sx0_6 Fx0_6 hx0_3 hx0_4 hx0_6 I (fun r0 y0 y0_3 y0_4 y0_6 sy0_3 Fy0_3 sy0_4 Fy0_4 sy0_6 Fy0_6 H' w' khy0_3 khy0_4 khy0_6 I' hk => ⟨H', _, I', r0, y0, y0_3, y0_4, y0_6, sy0_3, Fy0_3, sy0_4, Fy0_4, sy0_6, Fy0_6, rfl, rfl, khy0_3, khy0_4, khy0_6, hk⟩) h


/- function 40: (*gnomon/step.state).stores -/
def T_gnomon_step_state_stores (x0 : Tstep_state) (x0_3 : (List Int)) (x0_4 : (List (List Int))) (x0_6 : (List Tapi_Event)) (x1 : Tapi_Edge) (H : Hp) (K : Int → Tstep_state → (List Int) → (List (List Int)) → (List Tapi_Event) → Hp → Prop) : Prop :=
 (0 : Int) ≤ x1.fArr ∧ ∃ xs_14 : List Int, (x0_4)[(x1.fArr : Int).toNat]? = some xs_14 ∧
 C_gnomon_step_state_value (Tstep_state.mk x0.fc x0.ffrom x0.fpoint (Sl.mk none 0 0) (Sl.mk none 0 0) x0.fscript (Sl.mk none 0 0)) x0_3 x0_4 x0_6 x1.fA H (fun (r0_42 : Int) (H_34 : Hp) => 
 (((decide (r0_42 < 0)) || (decide ((xs_14.length : Int) ≤ r0_42))) = true →
 K 3 (Tstep_state.mk x0.fc x0.ffrom x0.fpoint (Sl.mk none 0 0) (Sl.mk none 0 0) x0.fscript (Sl.mk none 0 0)) x0_3 x0_4 x0_6 H_34) ∧
 (((decide (r0_42 < 0)) || (decide ((xs_14.length : Int) ≤ r0_42))) = false →
 (0 : Int) ≤ r0_42 ∧ ∃ x_43 : Int, (xs_14)[(r0_42 : Int).toNat]? = some x_43 ∧
 C_gnomon_step_state_value (Tstep_state.mk x0.fc x0.ffrom x0.fpoint (Sl.mk none 0 0) (Sl.mk none 0 0) x0.fscript (Sl.mk none 0 0)) x0_3 x0_4 x0_6 x1.fB H_34 (fun (r0_58 : Int) (H_50 : Hp) => 
 K 0 (Tstep_state.mk x0.fc x0.ffrom x0.fpoint (Sl.mk none 0 0) (Sl.mk none 0 0) x0.fscript (Sl.mk none 0 0)) x0_3 ((x0_4).set (x1.fArr : Int).toNat ((xs_14).set (r0_42 : Int).toNat r0_58)) x0_6 H_50)))
theorem LF_gnomon_step_state_stores (x0 : Tstep_state) (x0_3 : (List Int)) (x0_4 : (List (List Int))) (x0_6 : (List Tapi_Event)) (x1 : Tapi_Edge) (g0 : Nat) (sx0_3 : Sl) (Fx0_3 : Frag) (sx0_4 : Sl) (Fx0_4 : Frag) (sx0_6 : Sl) (Fx0_6 : Frag) (hx0_3 : RowL 2 1 cs_int64 sx0_3 x0_3 Fx0_3) (hx0_4 : RowsL 27 2 1 cs_int64 sx0_4 x0_4 Fx0_4) (hx0_6 : RowL 74 3 cs_api_Event sx0_6 x0_6 Fx0_6) {w0 w : World} {ps0 : Nat → Prop} {H0 H : Hp} {K : Int → Tstep_state → (List Int) → (List (List Int)) → (List Tapi_Event) → Hp → Prop} {R : Value → World → Prop} {E : Pan} (I : Inv w0 ps0 H0 H [bx g0 58 [(vs x0.fc.fVars), (vi x0.fc.fTemps), (vs x0.fc.fArrays), (vi x0.fc.fPoints), (vi x0.fc.fExit), (vs x0.fc.fEdges), (vs x0.ffrom), (vi x0.fpoint), (vs sx0_3), (vs sx0_4), (vs x0.fscript), (vs sx0_6)], Fx0_3, Fx0_4, Fx0_6] w) (hR : ∀ (r0 : Int) (y0 : Tstep_state) (y0_3 : (List Int)) (y0_4 : (List (List Int))) (y0_6 : (List Tapi_Event)) (sy0_3 : Sl) (Fy0_3 : Frag) (sy0_4 : Sl) (Fy0_4 : Frag) (sy0_6 : Sl) (Fy0_6 : Frag) (H' : Hp) (w' : World) (_ : RowL 2 1 cs_int64 sy0_3 y0_3 Fy0_3) (_ : RowsL 27 2 1 cs_int64 sy0_4 y0_4 Fy0_4) (_ : RowL 74 3 cs_api_Event sy0_6 y0_6 Fy0_6) (_ : Inv w0 ps0 H0 H' [bx g0 58 [(vs y0.fc.fVars), (vi y0.fc.fTemps), (vs y0.fc.fArrays), (vi y0.fc.fPoints), (vi y0.fc.fExit), (vs y0.fc.fEdges), (vs y0.ffrom), (vi y0.fpoint), (vs sy0_3), (vs sy0_4), (vs y0.fscript), (vs sy0_6)], Fy0_3, Fy0_4, Fy0_6] w') (_ : K r0 y0 y0_3 y0_4 y0_6 H'), R (vi r0) w') (h : T_gnomon_step_state_stores x0 x0_3 x0_4 x0_6 x1 H K) : F40 (Value.pointer (some ⟨g0, 0, none⟩)) (Value.agg (cs_api_Edge x1).toArray) w R E := by
 unfold T_gnomon_step_state_stores at h
 unfold F40
 refine s_box I (cs := (cs_api_Edge x1)) rfl fun g_2 w_3 I_4 k_5 => ?_
 refine opK_ld (ldA Try.isAgg52 Try.sizeOf52 rfl (I_4.at1 (o := 0) (vs := (cs_api_Edge x1)) (nb rfl) rfl)) ?_
 refine opK_calls (cap := []) (fun args w => Try.call66 args w) ?_
 refine F66_ok ?_
 unfold F66
 refine s_box I_4 (cs := (cs_api_Edge x1)) rfl fun g_7 w_8 I_9 k_10 => ?_
 refine s_dX I_9 fun w_11 I_12 => ?_
 refine qP_pu pu_fa_52_6 ?_
 refine qP_pu (pu_nilp _) ?_
 refine qP_pu pu_fa_58_4 ?_
 refine qP_pu pu_fa_52_4 ?_
 refine qL_ld (ldA Try.isAgg50 Try.sizeOf50 rfl (I_12.at1 (o := 6) (vs := (cs_api_Operand x1.fA)) (nb rfl) rfl)) ?_
 refine qL_ld (ld1 Try.isAgg32 ((I_12.bring 2).at1 (o := 9) (vs := [(vs sx0_4)]) (nb rfl) rfl)) ?_
 refine qL_ld (ld1 Try.isAgg3 (I_12.at1 (o := 4) (vs := [(vi x1.fArr)]) (nb rfl) rfl)) ?_
 obtain ⟨h_13, xs_14, h_15, h⟩ := h
 obtain ⟨ss_16, s_17, F_18, F_19, F_20, h_21, h_22, h_23, h_24, h_25, I_26⟩ := RowsL.open_ hx0_4 (I_12.bring 4) h_15
 obtain ⟨g_30, a_32, h_31, h_33⟩ := h_21.addr h_22
 refine qP_pu (pu_ix_32 h_31 _ _ _ _ h_13 (h_21.lt h_13 h_22)) ?_
 refine qL_ld (ld1 (v := (vs s_17)) Try.isAgg27 (h_21.atW I_26 h_31 h_22)) ?_
 refine opK_calls (cap := []) (fun args w => Try.call44 args w) ?_
 refine Cv_ct (Fi := [bx g0 58 [(vs x0.fc.fVars), (vi x0.fc.fTemps), (vs x0.fc.fArrays), (vi x0.fc.fPoints), (vi x0.fc.fExit), (vs x0.fc.fEdges), (vs x0.ffrom), (vi x0.fpoint), (vs sx0_3), (vs sx0_4), (vs x0.fscript), (vs sx0_6)], Fx0_3, (F_18 ++ (F_19 ++ F_20)), Fx0_6]) (Fr := [bx g_7 52 (cs_api_Edge x1), bx g_2 52 (cs_api_Edge x1)]) (((((((I_26.bring 2).bring 2).bring 2).join3.bring 5).bring 1).bring 5).bring 5) (h g0 sx0_3 Fx0_3 sx0_4 (F_18 ++ (F_19 ++ F_20)) sx0_6 Fx0_6 hx0_3 (RowsL.same (RowsL.close0 h_21 h_22 h_23 h_24) h_15) hx0_6) (fun v_38 H_34 F_39 w_35 I_36 l_41 k_37 q_40 => ?_) (fun _ _ _ _ _ q => q.elim)
 obtain ⟨r0_42, rfl, rfl, h⟩ := q_40
 refine ⟨(RowL.keepF h_21 h_31 I_26 (I_36.bring 2).unjoin3), (k_37 _ ((((I_26.bring 2).bring 2).bring 2).join3.bring 1).lt1 (Inv.not_in (Fi := [bx g0 58 [(vs x0.fc.fVars), (vi x0.fc.fTemps), (vs x0.fc.fArrays), (vi x0.fc.fPoints), (vi x0.fc.fExit), (vs x0.fc.fEdges), (vs x0.ffrom), (vi x0.fpoint), (vs sx0_3), (vs sx0_4), (vs x0.fscript), (vs sx0_6)], Fx0_3, (F_18 ++ (F_19 ++ F_20)), Fx0_6]) ((((((((I_26.bring 2).bring 2).bring 2).join3.bring 1).bring 5).bring 2).bring 5).bring 5))), ((I_36.bring 0).hp1.trans ((((I_26.bring 2).bring 2).bring 2).join3.bring 3).hp1.symm), ?_⟩
 refine opK_pu (pu_lss _ _ _ _ _ _) ?_
 try simp only [gval_b]
 try simp only [gval_b, gv_gv, gvl_tt, gvl_tf, gvl_ft, gvl_ff, gvg_tt, gvg_tf, gvg_ft, gvg_ff]
 refine opK_pu (Pu.g fun hb => by have hb_0 := hb; first | exact (pu_len_row Try.underlying27 h_23) | (simp only [gv_t hb_0]; exact (pu_len_row Try.underlying27 h_23)) | (simp only [gval_t hb_0, gv_t hb_0, gv_t hb, gva_ff hb_0, gv_n]; exact (pu_len_row Try.underlying27 h_23))) ?_
 refine opK_pu (Pu.g fun hb => by have hb_0 := hb; first | exact (pu_geq _ _ _ _ _ _) | (simp only [gv_t hb_0]; exact (pu_geq _ _ _ _ _ _)) | (simp only [gval_t hb_0, gv_t hb_0, gv_t hb, gva_ff hb_0, gv_n]; exact (pu_geq _ _ _ _ _ _))) ?_
 refine opK_pu (pu_or _ _) ?_
 refine xcond_b (fun c_64 => ?_) (fun c_64 => ?_)
 ·replace h := h.1 c_64
  refine opK_pu (pu_nilt_104 _ _) ?_
  refine xcond_b (fun e => ?_) (fun e => by cases e)
  exact hR 3 (Tstep_state.mk x0.fc x0.ffrom x0.fpoint (Sl.mk none 0 0) (Sl.mk none 0 0) x0.fscript (Sl.mk none 0 0)) x0_3 x0_4 x0_6 sx0_3 Fx0_3 sx0_4 Fx0_4 sx0_6 Fx0_6 H_34 _ hx0_3 hx0_4 hx0_6 (((((((((((I_36.bring 2).unjoin3.bring 2).bring 2).bring 2).join3.permF h_25).bring 4).drop.bring 4).drop.bring 3).bring 1).bring 3).bring 3) h
 ·replace h := h.2 c_64
  obtain ⟨h_45, x_43, h_46, h⟩ := h
  obtain ⟨g_44, a_48, h_47, h_49⟩ := h_23.addr h_46
  refine opK_pu (pu_ix_27 h_47 _ _ _ _ h_45 (h_23.lt h_45 h_46)) ?_
  refine opK_pu (pu_nilf_104 _ _ _) ?_
  refine xcond_b (fun e => by cases e) (fun e => ?_)
  refine opK_pu pu_fa_52_7 ?_
  refine opK_ld (ldA Try.isAgg50 Try.sizeOf50 rfl (((I_36.bring 2).unjoin3.bring 7).at1 (o := 8) (vs := (cs_api_Operand x1.fB)) (nb rfl) rfl)) ?_
  refine opK_calls (cap := []) (fun args w => Try.call44 args w) ?_
  refine Cv_ct (Fi := [bx g0 58 [(vs x0.fc.fVars), (vi x0.fc.fTemps), (vs x0.fc.fArrays), (vi x0.fc.fPoints), (vi x0.fc.fExit), (vs x0.fc.fEdges), (vs x0.ffrom), (vi x0.fpoint), (vs sx0_3), (vs sx0_4), (vs x0.fscript), (vs sx0_6)], Fx0_3, (F_18 ++ (F_19 ++ F_20)), Fx0_6]) (Fr := [bx g_7 52 (cs_api_Edge x1), bx g_2 52 (cs_api_Edge x1)]) ((((((((I_36.bring 2).unjoin3.bring 2).bring 2).bring 2).join3.bring 3).bring 1).bring 3).bring 3) (h g0 sx0_3 Fx0_3 sx0_4 (F_18 ++ (F_19 ++ F_20)) sx0_6 Fx0_6 hx0_3 (RowsL.same (RowsL.close0 h_21 h_22 h_23 h_24) h_15) hx0_6) (fun v_54 H_50 F_55 w_51 I_52 l_57 k_53 q_56 => ?_) (fun _ _ _ _ _ q => q.elim)
  obtain ⟨r0_58, rfl, rfl, h⟩ := q_56
  refine opK_pu (pu_nilp _) ?_
  refine s_rowst (x := r0_58) ((I_52.bring 2).unjoin3.bring 1) h_23 h_47 (List.getElem?_eq_some_iff.1 h_46).1 Try.sizeOf2 rfl fun F_59 w_60 h_61 I_62 k_63 => ?_
  exact hR 0 (Tstep_state.mk x0.fc x0.ffrom x0.fpoint (Sl.mk none 0 0) (Sl.mk none 0 0) x0.fscript (Sl.mk none 0 0)) x0_3 ((x0_4).set (x1.fArr : Int).toNat ((xs_14).set (r0_42 : Int).toNat r0_58)) x0_6 sx0_3 Fx0_3 sx0_4 (F_18 ++ (F_59 ++ F_20)) sx0_6 Fx0_6 H_50 _ hx0_3 (RowsL.close0 h_21 h_22 h_61 h_24) hx0_6 (((((((((I_62.bring 2).bring 1).bring 2).join3.bring 4).drop.bring 4).drop.bring 3).bring 1).bring 3).bring 3) h
theorem L_gnomon_step_state_stores (x0 : Tstep_state) (x0_3 : (List Int)) (x0_4 : (List (List Int))) (x0_6 : (List Tapi_Event)) (x1 : Tapi_Edge) {H : Hp} {K : Int → Tstep_state → (List Int) → (List (List Int)) → (List Tapi_Event) → Hp → Prop} (h : T_gnomon_step_state_stores x0 x0_3 x0_4 x0_6 x1 H K) : C_gnomon_step_state_stores x0 x0_3 x0_4 x0_6 x1 H K := by
 intro g0 sx0_3 Fx0_3 sx0_4 Fx0_4 sx0_6 Fx0_6 hx0_3 hx0_4 hx0_6 w I
 refine F40_ok ?_
 refine LF_gnomon_step_state_stores x0 x0_3 x0_4 x0_6 x1 g0 sx0_3 Fx0_3 sx0_4 Fx0_4 sx0_6 Fx0_6 hx0_3 hx0_4 hx0_6 I (fun r0 y0 y0_3 y0_4 y0_6 sy0_3 Fy0_3 sy0_4 Fy0_4 sy0_6 Fy0_6 H' w' khy0_3 khy0_4 khy0_6 I' hk => ⟨H', _, I', r0, y0, y0_3, y0_4, y0_6, sy0_3, Fy0_3, sy0_4, Fy0_4, sy0_6, Fy0_6, rfl, rfl, khy0_3, khy0_4, khy0_6, hk⟩) h


/- function 54: (gnomon/cfg.graph).array -/
def T_gnomon_cfg_graph_array (x0 : Tcfg_graph) (x1 : Int) (H : Hp) (K : Bool → Hp → Prop) : Prop :=
 K ((decide (0 ≤ x1)) && (decide (x1 < (x0.fCfg.fArrays.n : Int)))) H
theorem LF_gnomon_cfg_graph_array (x0 : Tcfg_graph) (x1 : Int) {w0 w : World} {ps0 : Nat → Prop} {H0 H : Hp} {K : Bool → Hp → Prop} {R : Value → World → Prop} {E : Pan} (I : Inv w0 ps0 H0 H [] w) (hR : ∀ (r0 : Bool) (H' : Hp) (w' : World) (_ : Inv w0 ps0 H0 H' [] w') (_ : K r0 H'), R (Value.bool r0) w') (h : T_gnomon_cfg_graph_array x0 x1 H K) : F54 (Value.agg (cs_api_Cfg x0.fCfg).toArray) (vi x1) w R E := by
 unfold T_gnomon_cfg_graph_array at h
 unfold F54
 refine s_box I (cs := (cs_api_Cfg x0.fCfg)) rfl fun g_2 w_3 I_4 k_5 => ?_
 refine opK_pu (pu_geq _ _ _ _ _ _) ?_
 try simp only [gval_b]
 refine opK_pu (Pu.g fun hb => by have hb_0 := hb; first | exact pu_fa_81_0 | (simp only [gval_t hb_0, gv_t hb_0, gv_t hb, gva_tt hb_0]; exact pu_fa_81_0) | (simp only [gval_t hb_0, gv_t hb_0, gv_t hb, gva_tf hb_0, gv_n]; exact pu_fa_81_0)) ?_
 refine opK_pu (Pu.g fun hb => by have hb_0 := hb; first | exact pu_fa_26_2 | (simp only [gv_t hb_0]; exact pu_fa_26_2) | (simp only [gval_t hb_0, gv_t hb_0, gv_t hb, gva_tf hb_0, gv_n]; exact pu_fa_26_2)) ?_
 refine opK_ld (Ld.g fun hb => by have hb_0 := hb; first | exact (ld1 Try.isAgg23 (I_4.at1 (o := 2) (vs := [(vs x0.fCfg.fArrays)]) (nb rfl) rfl)) | (simp only [gv_t hb_0]; exact (ld1 Try.isAgg23 (I_4.at1 (o := 2) (vs := [(vs x0.fCfg.fArrays)]) (nb rfl) rfl))) | (simp only [gval_t hb_0, gv_t hb_0, gv_t hb, gva_tf hb_0, gv_n]; exact (ld1 Try.isAgg23 (I_4.at1 (o := 2) (vs := [(vs x0.fCfg.fArrays)]) (nb rfl) rfl)))) ?_
 refine opK_pu (Pu.g fun hb => by have hb_0 := hb; first | exact (pu_len_23 _ _ _) | (simp only [gv_t hb_0]; exact (pu_len_23 _ _ _)) | (simp only [gval_t hb_0, gv_t hb_0, gv_t hb, gva_tf hb_0, gv_n]; exact (pu_len_23 _ _ _))) ?_
 refine opK_pu (Pu.g fun hb => by have hb_0 := hb; first | exact (pu_lss _ _ _ _ _ _) | (simp only [gv_t hb_0]; exact (pu_lss _ _ _ _ _ _)) | (simp only [gval_t hb_0, gv_t hb_0, gv_t hb, gva_tf hb_0, gv_n]; exact (pu_lss _ _ _ _ _ _))) ?_
 refine opK_pu (pu_and _ _) ?_
 exact hR ((decide (0 ≤ x1)) && (decide (x1 < (x0.fCfg.fArrays.n : Int)))) H _ I_4.drop h
theorem L_gnomon_cfg_graph_array (x0 : Tcfg_graph) (x1 : Int) {H : Hp} {K : Bool → Hp → Prop} (h : T_gnomon_cfg_graph_array x0 x1 H K) : C_gnomon_cfg_graph_array x0 x1 H K := by
 intro w I
 refine F54_ok ?_
 refine LF_gnomon_cfg_graph_array x0 x1 I (fun r0 H' w' I' hk => ⟨H', _, I', r0, rfl, rfl, hk⟩) h


/- function 56: gnomon/cfg.nothing -/
def T_gnomon_cfg_nothing (H : Hp) (K : Tapi_Operand → Hp → Prop) : Prop :=
 K (Tapi_Operand.mk (-1) 0) H
theorem LF_gnomon_cfg_nothing {w0 w : World} {ps0 : Nat → Prop} {H0 H : Hp} {K : Tapi_Operand → Hp → Prop} {R : Value → World → Prop} {E : Pan} (I : Inv w0 ps0 H0 H [] w) (hR : ∀ (r0 : Tapi_Operand) (H' : Hp) (w' : World) (_ : Inv w0 ps0 H0 H' [] w') (_ : K r0 H'), R (Value.agg (cs_api_Operand r0).toArray) w') (h : T_gnomon_cfg_nothing H K) : F56 w R E := by
 unfold T_gnomon_cfg_nothing at h
 unfold F56
 refine s_alloc I Try.zeroValue50 (cs := [(vi 0), (vi 0)]) rfl fun g_2 w_3 I_4 k_5 => ?_
 refine opK_pu (pu_bld_50_0 _) ?_
 refine s_store I_4 Try.sizeOf50 (vs := [(vi (-1)), (vi 0)]) (cs' := [(vi (-1)), (vi 0)]) rfl rfl (nb rfl) rfl rfl fun w_6 I_7 k_8 => ?_
 refine xcell_A Try.isAgg50 Try.sizeOf50 rfl (I_7.at1 (o := 0) (vs := [(vi (-1)), (vi 0)]) (nb rfl) rfl) ?_
 exact hR (Tapi_Operand.mk (-1) 0) H _ I_7.drop h
theorem L_gnomon_cfg_nothing {H : Hp} {K : Tapi_Operand → Hp → Prop} (h : T_gnomon_cfg_nothing H K) : C_gnomon_cfg_nothing H K := by
 intro w I
 refine F56_ok ?_
 refine LF_gnomon_cfg_nothing I (fun r0 H' w' I' hk => ⟨H', _, I', r0, rfl, rfl, hk⟩) h


/- function 74: gnomon/gnomonref7.Div -/
def T_gnomon_gnomonref7_Div (x0 : Int) (x1 : Int) (H : Hp) (K : Int → Int → Hp → Prop) : Prop :=
 C_gnomon_gnomonref7_divides x0 x1 H (fun (r0_9 : Int) (H_1 : Hp) => 
 (¬ (r0_9 = 0) →
 K 0 r0_9 H_1) ∧
 (r0_9 = 0 →
 x1 ≠ 0 ∧
 K (IntKind.wrap .i64 (Int.tdiv x0 x1)) 0 H_1))
theorem LF_gnomon_gnomonref7_Div (x0 : Int) (x1 : Int) {w0 w : World} {ps0 : Nat → Prop} {H0 H : Hp} {K : Int → Int → Hp → Prop} {R : Value → World → Prop} {E : Pan} (I : Inv w0 ps0 H0 H [] w) (hR : ∀ (r0 : Int) (r1 : Int) (H' : Hp) (w' : World) (_ : Inv w0 ps0 H0 H' [] w') (_ : K r0 r1 H'), R (Value.tuple #[(vi r0), (vi r1)]) w') (h : T_gnomon_gnomonref7_Div x0 x1 H K) : F74 (vi x0) (vi x1) w R E := by
 unfold T_gnomon_gnomonref7_Div at h
 unfold F74
 refine opK_calls (cap := []) (fun args w => Try.call87 args w) ?_
 refine Cv_ct (Fi := []) (Fr := []) I (h) (fun v_5 H_1 F_6 w_2 I_3 l_8 k_4 q_7 => ?_) (fun _ _ _ _ _ q => q.elim)
 obtain ⟨r0_9, rfl, rfl, h⟩ := q_7
 refine opK_pu (pu_neq _ _ _ _ _ _) ?_
 refine xcond_n (fun c_11 => ?_) (fun c_11 => ?_)
 ·replace h := h.1 c_11
  exact hR 0 r0_9 H_1 _ I_3 h
 ·replace h := h.2 c_11
  obtain ⟨h_10, h⟩ := h
  refine opK_pu (pu_quo _ _ _ _ _ _ h_10) ?_
  exact hR (IntKind.wrap .i64 (Int.tdiv x0 x1)) 0 H_1 _ I_3 h
theorem L_gnomon_gnomonref7_Div (x0 : Int) (x1 : Int) {H : Hp} {K : Int → Int → Hp → Prop} (h : T_gnomon_gnomonref7_Div x0 x1 H K) : C_gnomon_gnomonref7_Div x0 x1 H K := by
 intro w I
 refine F74_ok ?_
 refine LF_gnomon_gnomonref7_Div x0 x1 I (fun r0 r1 H' w' I' hk => ⟨H', _, I', r0, r1, rfl, rfl, hk⟩) h


/- function 49: gnomon/gnomonref7.Do -/
def T_gnomon_gnomonref7_Do (x0 : Int) (x1 : Int) (x2 : Int) (H : Hp) (K : Int → Int → Hp → Prop) : Prop :=
 (x0 = 5 →
 C_gnomon_gnomonref7_Neg x1 H (fun (r0_9 : Int) (r1_9 : Int) (H_1 : Hp) => 
 K r0_9 r1_9 H_1)) ∧
 (¬ (x0 = 5) →
 (x0 = 6 →
 C_gnomon_gnomonref7_Add x1 x2 H (fun (r0_18 : Int) (r1_18 : Int) (H_10 : Hp) => 
 K r0_18 r1_18 H_10)) ∧
 (¬ (x0 = 6) →
 (x0 = 7 →
 C_gnomon_gnomonref7_Sub x1 x2 H (fun (r0_27 : Int) (r1_27 : Int) (H_19 : Hp) => 
 K r0_27 r1_27 H_19)) ∧
 (¬ (x0 = 7) →
 (x0 = 8 →
 C_gnomon_gnomonref7_Mul x1 x2 H (fun (r0_36 : Int) (r1_36 : Int) (H_28 : Hp) => 
 K r0_36 r1_36 H_28)) ∧
 (¬ (x0 = 8) →
 (x0 = 9 →
 C_gnomon_gnomonref7_Div x1 x2 H (fun (r0_45 : Int) (r1_45 : Int) (H_37 : Hp) => 
 K r0_45 r1_45 H_37)) ∧
 (¬ (x0 = 9) →
 C_gnomon_gnomonref7_Rem x1 x2 H (fun (r0_54 : Int) (r1_54 : Int) (H_46 : Hp) => 
 K r0_54 r1_54 H_46))))))
theorem LF_gnomon_gnomonref7_Do (x0 : Int) (x1 : Int) (x2 : Int) {w0 w : World} {ps0 : Nat → Prop} {H0 H : Hp} {K : Int → Int → Hp → Prop} {R : Value → World → Prop} {E : Pan} (I : Inv w0 ps0 H0 H [] w) (hR : ∀ (r0 : Int) (r1 : Int) (H' : Hp) (w' : World) (_ : Inv w0 ps0 H0 H' [] w') (_ : K r0 r1 H'), R (Value.tuple #[(vi r0), (vi r1)]) w') (h : T_gnomon_gnomonref7_Do x0 x1 x2 H K) : F49 (vi x0) (vi x1) (vi x2) w R E := by
 unfold T_gnomon_gnomonref7_Do at h
 unfold F49
 refine opK_pu (pu_eql _ _ _ _ _ _) ?_
 refine xcond_p (fun c_59 => ?_) (fun c_59 => ?_)
 ·replace h := h.1 c_59
  refine opK_calls (cap := []) (fun args w => Try.call70 args w) ?_
  refine Cv_ct (Fi := []) (Fr := []) I (h) (fun v_5 H_1 F_6 w_2 I_3 l_8 k_4 q_7 => ?_) (fun _ _ _ _ _ q => q.elim)
  obtain ⟨r0_9, r1_9, rfl, rfl, h⟩ := q_7
  refine opK_pu (pu_extract _ _ _ rfl) ?_
  refine opK_pu (pu_extract _ _ _ rfl) ?_
  exact hR r0_9 r1_9 H_1 _ I_3 h
 ·replace h := h.2 c_59
  refine opK_pu (pu_eql _ _ _ _ _ _) ?_
  refine xcond_p (fun c_58 => ?_) (fun c_58 => ?_)
  ·replace h := h.1 c_58
   refine opK_calls (cap := []) (fun args w => Try.call71 args w) ?_
   refine Cv_ct (Fi := []) (Fr := []) I (h) (fun v_14 H_10 F_15 w_11 I_12 l_17 k_13 q_16 => ?_) (fun _ _ _ _ _ q => q.elim)
   obtain ⟨r0_18, r1_18, rfl, rfl, h⟩ := q_16
   refine opK_pu (pu_extract _ _ _ rfl) ?_
   refine opK_pu (pu_extract _ _ _ rfl) ?_
   exact hR r0_18 r1_18 H_10 _ I_12 h
  ·replace h := h.2 c_58
   refine opK_pu (pu_eql _ _ _ _ _ _) ?_
   refine xcond_p (fun c_57 => ?_) (fun c_57 => ?_)
   ·replace h := h.1 c_57
    refine opK_calls (cap := []) (fun args w => Try.call72 args w) ?_
    refine Cv_ct (Fi := []) (Fr := []) I (h) (fun v_23 H_19 F_24 w_20 I_21 l_26 k_22 q_25 => ?_) (fun _ _ _ _ _ q => q.elim)
    obtain ⟨r0_27, r1_27, rfl, rfl, h⟩ := q_25
    refine opK_pu (pu_extract _ _ _ rfl) ?_
    refine opK_pu (pu_extract _ _ _ rfl) ?_
    exact hR r0_27 r1_27 H_19 _ I_21 h
   ·replace h := h.2 c_57
    refine opK_pu (pu_eql _ _ _ _ _ _) ?_
    refine xcond_p (fun c_56 => ?_) (fun c_56 => ?_)
    ·replace h := h.1 c_56
     refine opK_calls (cap := []) (fun args w => Try.call73 args w) ?_
     refine Cv_ct (Fi := []) (Fr := []) I (h) (fun v_32 H_28 F_33 w_29 I_30 l_35 k_31 q_34 => ?_) (fun _ _ _ _ _ q => q.elim)
     obtain ⟨r0_36, r1_36, rfl, rfl, h⟩ := q_34
     refine opK_pu (pu_extract _ _ _ rfl) ?_
     refine opK_pu (pu_extract _ _ _ rfl) ?_
     exact hR r0_36 r1_36 H_28 _ I_30 h
    ·replace h := h.2 c_56
     refine opK_pu (pu_eql _ _ _ _ _ _) ?_
     refine xcond_p (fun c_55 => ?_) (fun c_55 => ?_)
     ·replace h := h.1 c_55
      refine opK_calls (cap := []) (fun args w => Try.call74 args w) ?_
      refine Cv_ct (Fi := []) (Fr := []) I (h) (fun v_41 H_37 F_42 w_38 I_39 l_44 k_40 q_43 => ?_) (fun _ _ _ _ _ q => q.elim)
      obtain ⟨r0_45, r1_45, rfl, rfl, h⟩ := q_43
      refine opK_pu (pu_extract _ _ _ rfl) ?_
      refine opK_pu (pu_extract _ _ _ rfl) ?_
      exact hR r0_45 r1_45 H_37 _ I_39 h
     ·replace h := h.2 c_55
      refine opK_calls (cap := []) (fun args w => Try.call75 args w) ?_
      refine Cv_ct (Fi := []) (Fr := []) I (h) (fun v_50 H_46 F_51 w_47 I_48 l_53 k_49 q_52 => ?_) (fun _ _ _ _ _ q => q.elim)
      obtain ⟨r0_54, r1_54, rfl, rfl, h⟩ := q_52
      refine opK_pu (pu_extract _ _ _ rfl) ?_
      refine opK_pu (pu_extract _ _ _ rfl) ?_
      exact hR r0_54 r1_54 H_46 _ I_48 h
theorem L_gnomon_gnomonref7_Do (x0 : Int) (x1 : Int) (x2 : Int) {H : Hp} {K : Int → Int → Hp → Prop} (h : T_gnomon_gnomonref7_Do x0 x1 x2 H K) : C_gnomon_gnomonref7_Do x0 x1 x2 H K := by
 intro w I
 refine F49_ok ?_
 refine LF_gnomon_gnomonref7_Do x0 x1 x2 I (fun r0 r1 H' w' I' hk => ⟨H', _, I', r0, r1, rfl, rfl, hk⟩) h


/- function 69: gnomon/gnomonref7.Not -/
def T_gnomon_gnomonref7_Not (x0 : Int) (H : Hp) (K : Int → Hp → Prop) : Prop :=
 (x0 = 1 →
 K 6 H) ∧
 (¬ (x0 = 1) →
 (x0 = 2 →
 K 5 H) ∧
 (¬ (x0 = 2) →
 (x0 = 3 →
 K 4 H) ∧
 (¬ (x0 = 3) →
 (x0 = 4 →
 K 3 H) ∧
 (¬ (x0 = 4) →
 (x0 = 5 →
 K 2 H) ∧
 (¬ (x0 = 5) →
 (x0 = 6 →
 K 1 H) ∧
 (¬ (x0 = 6) →
 K 0 H))))))
theorem LF_gnomon_gnomonref7_Not (x0 : Int) {w0 w : World} {ps0 : Nat → Prop} {H0 H : Hp} {K : Int → Hp → Prop} {R : Value → World → Prop} {E : Pan} (I : Inv w0 ps0 H0 H [] w) (hR : ∀ (r0 : Int) (H' : Hp) (w' : World) (_ : Inv w0 ps0 H0 H' [] w') (_ : K r0 H'), R (vi r0) w') (h : T_gnomon_gnomonref7_Not x0 H K) : F69 (vi x0) w R E := by
 unfold T_gnomon_gnomonref7_Not at h
 unfold F69
 refine opK_pu (pu_eql _ _ _ _ _ _) ?_
 refine xcond_p (fun c_6 => ?_) (fun c_6 => ?_)
 ·replace h := h.1 c_6
  exact hR 6 H _ I h
 ·replace h := h.2 c_6
  refine opK_pu (pu_eql _ _ _ _ _ _) ?_
  refine xcond_p (fun c_5 => ?_) (fun c_5 => ?_)
  ·replace h := h.1 c_5
   exact hR 5 H _ I h
  ·replace h := h.2 c_5
   refine opK_pu (pu_eql _ _ _ _ _ _) ?_
   refine xcond_p (fun c_4 => ?_) (fun c_4 => ?_)
   ·replace h := h.1 c_4
    exact hR 4 H _ I h
   ·replace h := h.2 c_4
    refine opK_pu (pu_eql _ _ _ _ _ _) ?_
    refine xcond_p (fun c_3 => ?_) (fun c_3 => ?_)
    ·replace h := h.1 c_3
     exact hR 3 H _ I h
    ·replace h := h.2 c_3
     refine opK_pu (pu_eql _ _ _ _ _ _) ?_
     refine xcond_p (fun c_2 => ?_) (fun c_2 => ?_)
     ·replace h := h.1 c_2
      exact hR 2 H _ I h
     ·replace h := h.2 c_2
      refine opK_pu (pu_eql _ _ _ _ _ _) ?_
      refine xcond_p (fun c_1 => ?_) (fun c_1 => ?_)
      ·replace h := h.1 c_1
       exact hR 1 H _ I h
      ·replace h := h.2 c_1
       exact hR 0 H _ I h
theorem L_gnomon_gnomonref7_Not (x0 : Int) {H : Hp} {K : Int → Hp → Prop} (h : T_gnomon_gnomonref7_Not x0 H K) : C_gnomon_gnomonref7_Not x0 H K := by
 intro w I
 refine F69_ok ?_
 refine LF_gnomon_gnomonref7_Not x0 I (fun r0 H' w' I' hk => ⟨H', _, I', r0, rfl, rfl, hk⟩) h


/- function 68: gnomon/gnomonref9.operand -/
def T_gnomon_gnomonref9_operand (x0 : Tapi_Operand) (x1 : Bool) (x2 : Int) (H : Hp) (K : Bool → Hp → Prop) : Prop :=
 ((!x1) = true →
 C_gnomon_gnomonref9_None H (fun (r0_16 : Tapi_Operand) (H_8 : Hp) => 
 K (decide (x0.fVar = r0_16.fVar ∧ x0.fNum = r0_16.fNum)) H_8)) ∧
 ((!x1) = false →
 K ((decide (x0.fVar = (-1))) || (((decide (0 ≤ x0.fVar)) && (decide (x0.fVar < x2))) && (decide (x0.fNum = 0)))) H)
theorem LF_gnomon_gnomonref9_operand (x0 : Tapi_Operand) (x1 : Bool) (x2 : Int) {w0 w : World} {ps0 : Nat → Prop} {H0 H : Hp} {K : Bool → Hp → Prop} {R : Value → World → Prop} {E : Pan} (I : Inv w0 ps0 H0 H [] w) (hR : ∀ (r0 : Bool) (H' : Hp) (w' : World) (_ : Inv w0 ps0 H0 H' [] w') (_ : K r0 H'), R (Value.bool r0) w') (h : T_gnomon_gnomonref9_operand x0 x1 x2 H K) : F68 (Value.agg (cs_api_Operand x0).toArray) (Value.bool x1) (vi x2) w R E := by
 unfold T_gnomon_gnomonref9_operand at h
 unfold F68
 refine s_box I (cs := (cs_api_Operand x0)) rfl fun g_2 w_3 I_4 k_5 => ?_
 refine opK_pu (pu_not _) ?_
 refine xcond_b (fun c_17 => ?_) (fun c_17 => ?_)
 ·replace h := h.1 c_17
  refine s_dX I_4 fun w_6 I_7 => ?_
  refine qL_ld (ldA Try.isAgg50 Try.sizeOf50 rfl (I_7.at1 (o := 0) (vs := (cs_api_Operand x0)) (nb rfl) rfl)) ?_
  refine opK_calls (cap := []) (fun args w => Try.call86 args w) ?_
  refine Cv_ct (Fi := []) (Fr := [bx g_2 50 (cs_api_Operand x0)]) I_7 (h) (fun v_12 H_8 F_13 w_9 I_10 l_15 k_11 q_14 => ?_) (fun _ _ _ _ _ q => q.elim)
  obtain ⟨r0_16, rfl, rfl, h⟩ := q_14
  refine ⟨(k_11 _ I_7.lt1 (Inv.not_in (Fi := []) I_7)), ?_⟩
  refine qP_pu (pu_eq_50 _ _ _ _ _ _) ?_
  exact hR (decide (x0.fVar = r0_16.fVar ∧ x0.fNum = r0_16.fNum)) H_8 _ I_10.drop h
 ·replace h := h.2 c_17
  refine opK_pu pu_fa_50_0 ?_
  refine opK_ld (ld1 Try.isAgg3 (I_4.at1 (o := 0) (vs := [(vi x0.fVar)]) (nb rfl) rfl)) ?_
  refine opK_pu (pu_eql _ _ _ _ _ _) ?_
  refine opK_pu (Pu.g fun hb => by have hb_0 := hb; first | exact pu_fa_50_0 | (simp only [gval_t hb_0, gv_t hb_0, gv_t hb, gva_ft hb_0]; exact pu_fa_50_0) | (simp only [gval_t hb_0, gv_t hb_0, gv_t hb, gva_ff hb_0, gv_n]; exact pu_fa_50_0)) ?_
  refine opK_ld (Ld.g fun hb => by have hb_0 := hb; first | exact (ld1 Try.isAgg3 (I_4.at1 (o := 0) (vs := [(vi x0.fVar)]) (nb rfl) rfl)) | (simp only [gv_t hb_0]; exact (ld1 Try.isAgg3 (I_4.at1 (o := 0) (vs := [(vi x0.fVar)]) (nb rfl) rfl))) | (simp only [gval_t hb_0, gv_t hb_0, gv_t hb, gva_ff hb_0, gv_n]; exact (ld1 Try.isAgg3 (I_4.at1 (o := 0) (vs := [(vi x0.fVar)]) (nb rfl) rfl)))) ?_
  refine opK_pu (Pu.g fun hb => by have hb_0 := hb; first | exact (pu_geq _ _ _ _ _ _) | (simp only [gv_t hb_0]; exact (pu_geq _ _ _ _ _ _)) | (simp only [gval_t hb_0, gv_t hb_0, gv_t hb, gva_ff hb_0, gv_n]; exact (pu_geq _ _ _ _ _ _))) ?_
  try simp only [gval_b, gv_gv, gvl_ft]
  refine opK_pu (Pu.e (gsgg_ft _ _ _) (Pu.g fun hb => by obtain ⟨hb_0, hb_1⟩ := gg_ft hb; first | exact pu_fa_50_0 | (simp only [gval_t hb_0, gv_t hb_0, gval_t hb_1, gv_t hb_1, gv_t hb, gv_n]; exact pu_fa_50_0))) ?_
  refine opK_ld (Ld.e (gsgg_ft _ _ _) (Ld.g fun hb => by obtain ⟨hb_0, hb_1⟩ := gg_ft hb; first | exact (ld1 Try.isAgg3 (I_4.at1 (o := 0) (vs := [(vi x0.fVar)]) (nb rfl) rfl)) | (simp only [gv_t hb]; exact (ld1 Try.isAgg3 (I_4.at1 (o := 0) (vs := [(vi x0.fVar)]) (nb rfl) rfl))))) ?_
  try simp only [gval_b, gv_gv, gvl_tt, gvl_tf, gvl_ft, gvl_ff, gvg_tt, gvg_tf, gvg_ft, gvg_ff]
  refine opK_pu (Pu.e (gsgg_ft _ _ _) (Pu.g fun hb => by obtain ⟨hb_0, hb_1⟩ := gg_ft hb; first | exact (pu_lss _ _ _ _ _ _) | (simp only [gv_t hb]; exact (pu_lss _ _ _ _ _ _)))) ?_
  refine opK_pu (Pu.g fun hb => by have hb_0 := hb; first | exact (pu_and _ _) | (simp only [gv_t hb_0, gva_ft hb_0]; exact (pu_and _ _)) | (simp only [gval_t hb_0, gv_t hb_0, gv_t hb, gva_ff hb_0, gv_n]; exact (pu_and _ _))) ?_
  try simp only [gv_gv]
  refine opK_pu (Pu.e (gsgg_ft _ _ _) (Pu.g fun hb => by obtain ⟨hb_0, hb_1⟩ := gg_ft hb; first | exact pu_fa_50_1 | (simp only [gval_t hb_0, gv_t hb_0, gval_t hb_1, gv_t hb_1, gv_t hb, gv_n]; exact pu_fa_50_1))) ?_
  refine opK_ld (Ld.e (gsgg_ft _ _ _) (Ld.g fun hb => by obtain ⟨hb_0, hb_1⟩ := gg_ft hb; first | exact (ld1 Try.isAgg2 (I_4.at1 (o := 1) (vs := [(vi x0.fNum)]) (nb rfl) rfl)) | (simp only [gv_t hb]; exact (ld1 Try.isAgg2 (I_4.at1 (o := 1) (vs := [(vi x0.fNum)]) (nb rfl) rfl))))) ?_
  refine opK_pu (Pu.e (gsgg_ft _ _ _) (Pu.g fun hb => by obtain ⟨hb_0, hb_1⟩ := gg_ft hb; first | exact (pu_eql _ _ _ _ _ _) | (simp only [gv_t hb]; exact (pu_eql _ _ _ _ _ _)))) ?_
  refine opK_pu (Pu.g fun hb => by have hb_0 := hb; first | exact (pu_and _ _) | (simp only [gv_t hb_0, gva_ft hb_0]; exact (pu_and _ _)) | (simp only [gval_t hb_0, gv_t hb_0, gv_t hb, gva_ff hb_0, gv_n]; exact (pu_and _ _))) ?_
  refine opK_pu (pu_or _ _) ?_
  exact hR ((decide (x0.fVar = (-1))) || (((decide (0 ≤ x0.fVar)) && (decide (x0.fVar < x2))) && (decide (x0.fNum = 0)))) H _ I_4.drop h
theorem L_gnomon_gnomonref9_operand (x0 : Tapi_Operand) (x1 : Bool) (x2 : Int) {H : Hp} {K : Bool → Hp → Prop} (h : T_gnomon_gnomonref9_operand x0 x1 x2 H K) : C_gnomon_gnomonref9_operand x0 x1 x2 H K := by
 intro w I
 refine F68_ok ?_
 refine LF_gnomon_gnomonref9_operand x0 x1 x2 I (fun r0 H' w' I' hk => ⟨H', _, I', r0, rfl, rfl, hk⟩) h


/- function 19: gnomon/gnomonref9.Check -/
def T_gnomon_gnomonref9_Check_j3 (_cr_1j3 : Tapi_Cfg) (H : Hp) (K : Int → Hp → Prop) : Prop :=
 K 0 H
def T_gnomon_gnomonref9_Check_l4 (s4l4 : Sl) (cr_1l4 : Tapi_Cfg) (s7l4 : Int) (H : Hp) (n4 : Int → Hp → Prop) (K : Int → Hp → Prop) : Prop :=
 (s7l4 < cr_1l4.fPoints →
 (0 : Int) ≤ s7l4 ∧ (s7l4 : Int) < s4l4.n ∧ ∃ x_163 : Sl, EltH H s4l4 s7l4 1 [(vs x_163)] ∧ 
 C_gnomon_gnomonref9_fork cr_1l4 x_163 H (fun (r0_178 : Bool) (H_170 : Hp) => 
 ((!r0_178) = true →
 K 92 H_170) ∧
 ((!r0_178) = false →
 n4 (IntKind.wrap .i64 (s7l4 + 1)) H_170))) ∧
 (¬ (s7l4 < cr_1l4.fPoints) →
 T_gnomon_gnomonref9_Check_j3 cr_1l4 H K)
def T_gnomon_gnomonref9_Check_j2 (cs4j2 : (List (List Int))) (cr_1j2 : Tapi_Cfg) (H : Hp) (K : Int → Hp → Prop) : Prop :=
 ∀ (s_31 : Sl) (H_156 : Hp), Hle H H_156 → SlHH H_156 1 cs_int s_31 cs4j2 → s_31.n ≤ s_31.c →
 TL (0 : Int) H_156 fun (s : Int) H n4 => T_gnomon_gnomonref9_Check_l4 s_31 cr_1j2 s H n4 K
def T_gnomon_gnomonref9_Check_l5 (cr_1l5 : Tapi_Cfg) (cs4l5 : (List (List Int))) (s5l5 : Int) (H : Hp) (n5 : ((List (List Int)) × Int) → Hp → Prop) (K : Int → Hp → Prop) : Prop :=
 (s5l5 < (cr_1l5.fEdges.n : Int) →
 (0 : Int) ≤ s5l5 ∧ (s5l5 : Int) < cr_1l5.fEdges.n ∧ ∃ x_39 : Tapi_Edge, EltH H cr_1l5.fEdges s5l5 10 (cs_api_Edge x_39) ∧ 
 TG ((((((decide (x_39.fFrom < 0)) || (decide (cr_1l5.fPoints ≤ x_39.fFrom))) || (decide (x_39.fTo < 0))) || (decide (cr_1l5.fPoints ≤ x_39.fTo))) || (decide (x_39.fFrom = cr_1l5.fExit))) = false) (C_gnomon_gnomonref9_All cr_1l5 H) 0 H (fun (r0_64 : Int) (H_56 : Hp) =>
 TG ((((((decide (x_39.fFrom < 0)) || (decide (cr_1l5.fPoints ≤ x_39.fFrom))) || (decide (x_39.fTo < 0))) || (decide (cr_1l5.fPoints ≤ x_39.fTo))) || (decide (x_39.fFrom = cr_1l5.fExit))) = false) (C_gnomon_gnomonref9_Right x_39 r0_64 (cr_1l5.fArrays.n : Int) H_56) false H_56 (fun (r0_73 : Bool) (H_65 : Hp) =>
 (((((((decide (x_39.fFrom < 0)) || (decide (cr_1l5.fPoints ≤ x_39.fFrom))) || (decide (x_39.fTo < 0))) || (decide (cr_1l5.fPoints ≤ x_39.fTo))) || (decide (x_39.fFrom = cr_1l5.fExit))) || (!r0_73)) = true →
 K 92 H_65) ∧
 (((((((decide (x_39.fFrom < 0)) || (decide (cr_1l5.fPoints ≤ x_39.fFrom))) || (decide (x_39.fTo < 0))) || (decide (cr_1l5.fPoints ≤ x_39.fTo))) || (decide (x_39.fFrom = cr_1l5.fExit))) || (!r0_73)) = false →
 (0 : Int) ≤ x_39.fFrom ∧ ∃ xs_77 : List Int, (cs4l5)[(x_39.fFrom : Int).toNat]? = some xs_77 ∧
 (xs_77.length + ([s5l5] : List Int).length) * 9 ≤ 140737488355328 ∧
 n5 (((cs4l5).set (x_39.fFrom : Int).toNat (xs_77 ++ [s5l5])), (IntKind.wrap .i64 (s5l5 + 1))) H_65)))) ∧
 (¬ (s5l5 < (cr_1l5.fEdges.n : Int)) →
 T_gnomon_gnomonref9_Check_j2 cs4l5 cr_1l5 H K)
def T_gnomon_gnomonref9_Check_j1 (cr_1j1 : Tapi_Cfg) (H : Hp) (K : Int → Hp → Prop) : Prop :=
 (0 : Int) ≤ cr_1j1.fPoints ∧ cr_1j1.fPoints * 25 ≤ 140737488355328 ∧
 TL (((List.replicate (cr_1j1.fPoints : Int).toNat ([] : List Int)), 0) : (List (List Int)) × Int) H fun (s : (List (List Int)) × Int) H n5 => T_gnomon_gnomonref9_Check_l5 cr_1j1 s.1 s.2 H n5 K
def T_gnomon_gnomonref9_Check_l6 (cr_1l6 : Tapi_Cfg) (s3l6 : Int) (H : Hp) (n6 : Int → Hp → Prop) (K : Int → Hp → Prop) : Prop :=
 (s3l6 < (cr_1l6.fArrays.n : Int) →
 (0 : Int) ≤ s3l6 ∧ (s3l6 : Int) < cr_1l6.fArrays.n ∧ ∃ x_15 : Tapi_Decl, EltH H cr_1l6.fArrays s3l6 2 (cs_api_Decl x_15) ∧ 
 (((decide (x_15.fSize < 1)) || (decide (1024 < x_15.fSize))) = true →
 K 92 H) ∧
 (((decide (x_15.fSize < 1)) || (decide (1024 < x_15.fSize))) = false →
 n6 (IntKind.wrap .i64 (s3l6 + 1)) H)) ∧
 (¬ (s3l6 < (cr_1l6.fArrays.n : Int)) →
 T_gnomon_gnomonref9_Check_j1 cr_1l6 H K)
def T_gnomon_gnomonref9_Check (x0 : Tapi_Cfg) (H : Hp) (K : Int → Hp → Prop) : Prop :=
 TG ((((decide (x0.fTemps < 0)) || (decide (64 < x0.fTemps))) || (decide (64 < (x0.fVars.n : Int)))) = false) (C_gnomon_gnomonref9_All x0 H) 0 H (fun (r0_14 : Int) (H_6 : Hp) =>
 (((((decide (x0.fTemps < 0)) || (decide (64 < x0.fTemps))) || (decide (64 < (x0.fVars.n : Int)))) || (decide (64 < r0_14))) = true →
 K 90 H_6) ∧
 (((((decide (x0.fTemps < 0)) || (decide (64 < x0.fTemps))) || (decide (64 < (x0.fVars.n : Int)))) || (decide (64 < r0_14))) = false →
 ((((decide (x0.fPoints < 1)) || (decide (4096 < x0.fPoints))) || (decide (8192 < (x0.fEdges.n : Int)))) = true →
 K 91 H_6) ∧
 ((((decide (x0.fPoints < 1)) || (decide (4096 < x0.fPoints))) || (decide (8192 < (x0.fEdges.n : Int)))) = false →
 ((((decide (16 < (x0.fArrays.n : Int))) || (decide (x0.fExit < 0))) || (decide (x0.fPoints ≤ x0.fExit))) = true →
 K 92 H_6) ∧
 ((((decide (16 < (x0.fArrays.n : Int))) || (decide (x0.fExit < 0))) || (decide (x0.fPoints ≤ x0.fExit))) = false →
 TL (0 : Int) H_6 fun (s : Int) H n6 => T_gnomon_gnomonref9_Check_l6 x0 s H n6 K))))
theorem LF_gnomon_gnomonref9_Check (x0 : Tapi_Cfg) {w0 w : World} {ps0 : Nat → Prop} {H0 H : Hp} {K : Int → Hp → Prop} {R : Value → World → Prop} {E : Pan} (I : Inv w0 ps0 H0 H [] w) (hR : ∀ (r0 : Int) (H' : Hp) (w' : World) (_ : Inv w0 ps0 H0 H' [] w') (_ : K r0 H'), R (vi r0) w') (h : T_gnomon_gnomonref9_Check x0 H K) : F19 (Value.agg (cs_api_Cfg x0).toArray) w R E := by
 unfold T_gnomon_gnomonref9_Check at h
 unfold F19
 refine s_box I (cs := (cs_api_Cfg x0)) rfl fun g_2 w_3 I_4 k_5 => ?_
 refine opK_pu pu_fa_26_1 ?_
 refine opK_ld (ld1 Try.isAgg3 (I_4.at1 (o := 1) (vs := [(vi x0.fTemps)]) (nb rfl) rfl)) ?_
 refine opK_pu (pu_lss _ _ _ _ _ _) ?_
 refine opK_pu (Pu.g fun hb => by have hb_0 := hb; first | exact pu_fa_26_1 | (simp only [gval_t hb_0, gv_t hb_0, gv_t hb, gva_ft hb_0]; exact pu_fa_26_1) | (simp only [gval_t hb_0, gv_t hb_0, gv_t hb, gva_ff hb_0, gv_n]; exact pu_fa_26_1)) ?_
 refine opK_ld (Ld.g fun hb => by have hb_0 := hb; first | exact (ld1 Try.isAgg3 (I_4.at1 (o := 1) (vs := [(vi x0.fTemps)]) (nb rfl) rfl)) | (simp only [gv_t hb_0]; exact (ld1 Try.isAgg3 (I_4.at1 (o := 1) (vs := [(vi x0.fTemps)]) (nb rfl) rfl))) | (simp only [gval_t hb_0, gv_t hb_0, gv_t hb, gva_ff hb_0, gv_n]; exact (ld1 Try.isAgg3 (I_4.at1 (o := 1) (vs := [(vi x0.fTemps)]) (nb rfl) rfl)))) ?_
 refine opK_pu (Pu.g fun hb => by have hb_0 := hb; first | exact (pu_gtr _ _ _ _ _ _) | (simp only [gv_t hb_0]; exact (pu_gtr _ _ _ _ _ _)) | (simp only [gval_t hb_0, gv_t hb_0, gv_t hb, gva_ff hb_0, gv_n]; exact (pu_gtr _ _ _ _ _ _))) ?_
 refine opK_pu (pu_or _ _) ?_
 refine opK_pu (Pu.g fun hb => by have hb_0 := hb; first | exact pu_fa_26_0 | (simp only [gval_t hb_0, gv_t hb_0, gv_t hb, gva_ft hb_0]; exact pu_fa_26_0) | (simp only [gval_t hb_0, gv_t hb_0, gv_t hb, gva_ff hb_0, gv_n]; exact pu_fa_26_0)) ?_
 refine opK_ld (Ld.g fun hb => by have hb_0 := hb; first | exact (ld1 Try.isAgg22 (I_4.at1 (o := 0) (vs := [(vs x0.fVars)]) (nb rfl) rfl)) | (simp only [gv_t hb_0]; exact (ld1 Try.isAgg22 (I_4.at1 (o := 0) (vs := [(vs x0.fVars)]) (nb rfl) rfl))) | (simp only [gval_t hb_0, gv_t hb_0, gv_t hb, gva_ff hb_0, gv_n]; exact (ld1 Try.isAgg22 (I_4.at1 (o := 0) (vs := [(vs x0.fVars)]) (nb rfl) rfl)))) ?_
 refine opK_pu (Pu.g fun hb => by have hb_0 := hb; first | exact (pu_len_22 _ _ _) | (simp only [gv_t hb_0]; exact (pu_len_22 _ _ _)) | (simp only [gval_t hb_0, gv_t hb_0, gv_t hb, gva_ff hb_0, gv_n]; exact (pu_len_22 _ _ _))) ?_
 refine opK_pu (Pu.g fun hb => by have hb_0 := hb; first | exact (pu_gtr _ _ _ _ _ _) | (simp only [gv_t hb_0]; exact (pu_gtr _ _ _ _ _ _)) | (simp only [gval_t hb_0, gv_t hb_0, gv_t hb, gva_ff hb_0, gv_n]; exact (pu_gtr _ _ _ _ _ _))) ?_
 refine opK_pu (pu_or _ _) ?_
 refine opK_ld (Ld.g fun hb => by have hb_0 := hb; first | exact (ldA Try.isAgg26 Try.sizeOf26 rfl (I_4.at1 (o := 0) (vs := (cs_api_Cfg x0)) (nb rfl) rfl)) | (simp only [gval_t hb_0, gv_t hb_0, gv_t hb, gva_ft hb_0]; exact (ldA Try.isAgg26 Try.sizeOf26 rfl (I_4.at1 (o := 0) (vs := (cs_api_Cfg x0)) (nb rfl) rfl))) | (simp only [gval_t hb_0, gv_t hb_0, gv_t hb, gva_ff hb_0, gv_n]; exact (ldA Try.isAgg26 Try.sizeOf26 rfl (I_4.at1 (o := 0) (vs := (cs_api_Cfg x0)) (nb rfl) rfl)))) ?_
 refine opK_g2 (D := fun v_10 w_7 => ∃ (r0_14 : Int) (H_6 : Hp), v_10 = (gv (((decide (x0.fTemps < 0)) || (decide (64 < x0.fTemps))) || (decide (64 < (x0.fVars.n : Int)))) false (vi r0_14)) ∧ (Inv w0 ps0 H0 H_6 [bx g_2 26 (cs_api_Cfg x0)] w_7) ∧ (∀ i, i < w_3.heap.size → ¬ inF [] i → w_7.heap[i]? = w_3.heap[i]?) ∧ Hle H H_6 ∧ ((((((decide (x0.fTemps < 0)) || (decide (64 < x0.fTemps))) || (decide (64 < (x0.fVars.n : Int)))) || (decide (64 < r0_14))) = true →
 K 90 H_6) ∧
 (((((decide (x0.fTemps < 0)) || (decide (64 < x0.fTemps))) || (decide (64 < (x0.fVars.n : Int)))) || (decide (64 < r0_14))) = false →
 ((((decide (x0.fPoints < 1)) || (decide (4096 < x0.fPoints))) || (decide (8192 < (x0.fEdges.n : Int)))) = true →
 K 91 H_6) ∧
 ((((decide (x0.fPoints < 1)) || (decide (4096 < x0.fPoints))) || (decide (8192 < (x0.fEdges.n : Int)))) = false →
 ((((decide (16 < (x0.fArrays.n : Int))) || (decide (x0.fExit < 0))) || (decide (x0.fPoints ≤ x0.fExit))) = true →
 K 92 H_6) ∧
 ((((decide (16 < (x0.fArrays.n : Int))) || (decide (x0.fExit < 0))) || (decide (x0.fPoints ≤ x0.fExit))) = false →
 TL (0 : Int) H_6 fun (s : Int) H n6 => T_gnomon_gnomonref9_Check_l6 x0 s H n6 K))))) (fun b_210 => ?_) (fun b_210 => ?_) ?_
 ·replace h := h.1 b_210
  have hb_0 := b_210
  try simp only [gv_t hb_0]
  refine opK_calls (cap := []) (fun args w => Try.call20 args w) ?_
  refine Cv_ct (Fi := []) (Fr := [bx g_2 26 (cs_api_Cfg x0)]) I_4 (h) (fun v_10 H_6 F_11 w_7 I_8 l_13 k_9 q_12 => ?_) (fun _ _ _ _ _ q => q.elim)
  obtain ⟨r0_14, rfl, rfl, h⟩ := q_12
  exact ⟨r0_14, H_6, by first | rfl | rw [gv_t b_210], I_8, k_9, l_13, h⟩
 ·exact ⟨0, H, by first | rfl | rw [gv_f b_210], I_4, fun _ _ _ => rfl, Hle.refl _, h.2 b_210⟩
 ·clear h
  rintro v_10 w_7 ⟨r0_14, H_6, rfl, I_8, k_9, l_13, h⟩
  refine opK_pu (Pu.g fun hb => by have hb_0 := hb; first | exact (pu_gtr _ _ _ _ _ _) | (simp only [gv_t hb_0]; exact (pu_gtr _ _ _ _ _ _)) | (simp only [gval_t hb_0, gv_t hb_0, gv_t hb, gva_ff hb_0, gv_n]; exact (pu_gtr _ _ _ _ _ _))) ?_
  refine opK_pu (pu_or _ _) ?_
  refine xcond_b (fun c_209 => ?_) (fun c_209 => ?_)
  ·replace h := h.1 c_209
   exact hR 90 H_6 _ I_8.drop h
  ·replace h := h.2 c_209
   refine opK_pu pu_fa_26_3 ?_
   refine opK_ld (ld1 Try.isAgg3 (I_8.at1 (o := 3) (vs := [(vi x0.fPoints)]) (nb rfl) rfl)) ?_
   refine opK_pu (pu_lss _ _ _ _ _ _) ?_
   refine opK_pu (Pu.g fun hb => by have hb_0 := hb; first | exact pu_fa_26_3 | (simp only [gval_t hb_0, gv_t hb_0, gv_t hb, gva_ft hb_0]; exact pu_fa_26_3) | (simp only [gval_t hb_0, gv_t hb_0, gv_t hb, gva_ff hb_0, gv_n]; exact pu_fa_26_3)) ?_
   refine opK_ld (Ld.g fun hb => by have hb_0 := hb; first | exact (ld1 Try.isAgg3 (I_8.at1 (o := 3) (vs := [(vi x0.fPoints)]) (nb rfl) rfl)) | (simp only [gv_t hb_0]; exact (ld1 Try.isAgg3 (I_8.at1 (o := 3) (vs := [(vi x0.fPoints)]) (nb rfl) rfl))) | (simp only [gval_t hb_0, gv_t hb_0, gv_t hb, gva_ff hb_0, gv_n]; exact (ld1 Try.isAgg3 (I_8.at1 (o := 3) (vs := [(vi x0.fPoints)]) (nb rfl) rfl)))) ?_
   refine opK_pu (Pu.g fun hb => by have hb_0 := hb; first | exact (pu_gtr _ _ _ _ _ _) | (simp only [gv_t hb_0]; exact (pu_gtr _ _ _ _ _ _)) | (simp only [gval_t hb_0, gv_t hb_0, gv_t hb, gva_ff hb_0, gv_n]; exact (pu_gtr _ _ _ _ _ _))) ?_
   refine opK_pu (pu_or _ _) ?_
   refine opK_pu (Pu.g fun hb => by have hb_0 := hb; first | exact pu_fa_26_5 | (simp only [gval_t hb_0, gv_t hb_0, gv_t hb, gva_ft hb_0]; exact pu_fa_26_5) | (simp only [gval_t hb_0, gv_t hb_0, gv_t hb, gva_ff hb_0, gv_n]; exact pu_fa_26_5)) ?_
   refine opK_ld (Ld.g fun hb => by have hb_0 := hb; first | exact (ld1 Try.isAgg24 (I_8.at1 (o := 5) (vs := [(vs x0.fEdges)]) (nb rfl) rfl)) | (simp only [gv_t hb_0]; exact (ld1 Try.isAgg24 (I_8.at1 (o := 5) (vs := [(vs x0.fEdges)]) (nb rfl) rfl))) | (simp only [gval_t hb_0, gv_t hb_0, gv_t hb, gva_ff hb_0, gv_n]; exact (ld1 Try.isAgg24 (I_8.at1 (o := 5) (vs := [(vs x0.fEdges)]) (nb rfl) rfl)))) ?_
   refine opK_pu (Pu.g fun hb => by have hb_0 := hb; first | exact (pu_len_24 _ _ _) | (simp only [gv_t hb_0]; exact (pu_len_24 _ _ _)) | (simp only [gval_t hb_0, gv_t hb_0, gv_t hb, gva_ff hb_0, gv_n]; exact (pu_len_24 _ _ _))) ?_
   refine opK_pu (Pu.g fun hb => by have hb_0 := hb; first | exact (pu_gtr _ _ _ _ _ _) | (simp only [gv_t hb_0]; exact (pu_gtr _ _ _ _ _ _)) | (simp only [gval_t hb_0, gv_t hb_0, gv_t hb, gva_ff hb_0, gv_n]; exact (pu_gtr _ _ _ _ _ _))) ?_
   refine opK_pu (pu_or _ _) ?_
   refine xcond_b (fun c_208 => ?_) (fun c_208 => ?_)
   ·replace h := h.1 c_208
    exact hR 91 H_6 _ I_8.drop h
   ·replace h := h.2 c_208
    refine opK_pu pu_fa_26_2 ?_
    refine opK_ld (ld1 Try.isAgg23 (I_8.at1 (o := 2) (vs := [(vs x0.fArrays)]) (nb rfl) rfl)) ?_
    refine opK_pu (pu_len_23 _ _ _) ?_
    refine opK_pu (pu_gtr _ _ _ _ _ _) ?_
    refine opK_pu (Pu.g fun hb => by have hb_0 := hb; first | exact pu_fa_26_4 | (simp only [gval_t hb_0, gv_t hb_0, gv_t hb, gva_ft hb_0]; exact pu_fa_26_4) | (simp only [gval_t hb_0, gv_t hb_0, gv_t hb, gva_ff hb_0, gv_n]; exact pu_fa_26_4)) ?_
    refine opK_ld (Ld.g fun hb => by have hb_0 := hb; first | exact (ld1 Try.isAgg3 (I_8.at1 (o := 4) (vs := [(vi x0.fExit)]) (nb rfl) rfl)) | (simp only [gv_t hb_0]; exact (ld1 Try.isAgg3 (I_8.at1 (o := 4) (vs := [(vi x0.fExit)]) (nb rfl) rfl))) | (simp only [gval_t hb_0, gv_t hb_0, gv_t hb, gva_ff hb_0, gv_n]; exact (ld1 Try.isAgg3 (I_8.at1 (o := 4) (vs := [(vi x0.fExit)]) (nb rfl) rfl)))) ?_
    refine opK_pu (Pu.g fun hb => by have hb_0 := hb; first | exact (pu_lss _ _ _ _ _ _) | (simp only [gv_t hb_0]; exact (pu_lss _ _ _ _ _ _)) | (simp only [gval_t hb_0, gv_t hb_0, gv_t hb, gva_ff hb_0, gv_n]; exact (pu_lss _ _ _ _ _ _))) ?_
    refine opK_pu (pu_or _ _) ?_
    refine opK_pu (Pu.g fun hb => by have hb_0 := hb; first | exact pu_fa_26_4 | (simp only [gval_t hb_0, gv_t hb_0, gv_t hb, gva_ft hb_0]; exact pu_fa_26_4) | (simp only [gval_t hb_0, gv_t hb_0, gv_t hb, gva_ff hb_0, gv_n]; exact pu_fa_26_4)) ?_
    refine opK_ld (Ld.g fun hb => by have hb_0 := hb; first | exact (ld1 Try.isAgg3 (I_8.at1 (o := 4) (vs := [(vi x0.fExit)]) (nb rfl) rfl)) | (simp only [gv_t hb_0]; exact (ld1 Try.isAgg3 (I_8.at1 (o := 4) (vs := [(vi x0.fExit)]) (nb rfl) rfl))) | (simp only [gval_t hb_0, gv_t hb_0, gv_t hb, gva_ff hb_0, gv_n]; exact (ld1 Try.isAgg3 (I_8.at1 (o := 4) (vs := [(vi x0.fExit)]) (nb rfl) rfl)))) ?_
    refine opK_pu (Pu.g fun hb => by have hb_0 := hb; first | exact pu_fa_26_3 | (simp only [gval_t hb_0, gv_t hb_0, gv_t hb, gva_ft hb_0]; exact pu_fa_26_3) | (simp only [gval_t hb_0, gv_t hb_0, gv_t hb, gva_ff hb_0, gv_n]; exact pu_fa_26_3)) ?_
    refine opK_ld (Ld.g fun hb => by have hb_0 := hb; first | exact (ld1 Try.isAgg3 (I_8.at1 (o := 3) (vs := [(vi x0.fPoints)]) (nb rfl) rfl)) | (simp only [gv_t hb_0]; exact (ld1 Try.isAgg3 (I_8.at1 (o := 3) (vs := [(vi x0.fPoints)]) (nb rfl) rfl))) | (simp only [gval_t hb_0, gv_t hb_0, gv_t hb, gva_ff hb_0, gv_n]; exact (ld1 Try.isAgg3 (I_8.at1 (o := 3) (vs := [(vi x0.fPoints)]) (nb rfl) rfl)))) ?_
    refine opK_pu (Pu.g fun hb => by have hb_0 := hb; first | exact (pu_geq _ _ _ _ _ _) | (simp only [gv_t hb_0]; exact (pu_geq _ _ _ _ _ _)) | (simp only [gval_t hb_0, gv_t hb_0, gv_t hb, gva_ff hb_0, gv_n]; exact (pu_geq _ _ _ _ _ _))) ?_
    refine opK_pu (pu_or _ _) ?_
    refine xcond_b (fun c_207 => ?_) (fun c_207 => ?_)
    ·replace h := h.1 c_207
     exact hR 92 H_6 _ I_8.drop h
    ·replace h := h.2 c_207
     have hj1 : ∀ (H : Hp) (w : World) (_ : Inv w0 ps0 H0 H [bx g_2 26 (cs_api_Cfg x0)] w) (_ : T_gnomon_gnomonref9_Check_j1 x0 H K), F19_j1 (Value.pointer (some ⟨g_2, 0, none⟩)) w R E := by
      intro H w I h
      unfold F19_j1
      intro _
      unfold T_gnomon_gnomonref9_Check_j1 at h
      refine opK_pu pu_fa_26_3 ?_
      refine opK_ld (ld1 Try.isAgg3 (I.at1 (o := 3) (vs := [(vi x0.fPoints)]) (nb rfl) rfl)) ?_
      obtain ⟨h_37, h_38, h⟩ := h
      refine mks_55 I h_37 h_38 fun s_31 F_32 w_33 h_34 I_35 k_36 => ?_
      have hj2 : ∀ (cs4j2 : (List (List Int))) (Fs4j2 : Frag) (H : Hp) (w : World) (_ : RowsL 68 3 1 cs_int s_31 cs4j2 Fs4j2) (_ : Inv w0 ps0 H0 H [bx g_2 26 (cs_api_Cfg x0), Fs4j2] w) (_ : T_gnomon_gnomonref9_Check_j2 cs4j2 x0 H K), F19_j2 (Value.pointer (some ⟨g_2, 0, none⟩)) (vs s_31) w R E := by
       intro cs4j2 Fs4j2 H w hs4j2 I h
       unfold F19_j2
       intro _
       unfold T_gnomon_gnomonref9_Check_j2 at h
       have hj3 : ∀ (H : Hp) (w : World) (_ : Inv w0 ps0 H0 H [bx g_2 26 (cs_api_Cfg x0)] w) (_ : T_gnomon_gnomonref9_Check_j3 x0 H K), F19_j3 w R E := by
        intro H w I h
        unfold F19_j3
        intro _
        unfold T_gnomon_gnomonref9_Check_j3 at h
        exact hR 0 H _ I.drop h
       refine xcut_i fun j3 hx3 => ?_
       obtain ⟨H_156, I_157, l_158, h_159, h_160⟩ := Inv.freezeLL (I.bring 1) hs4j2 (by decide)
       replace h := h s_31 H_156 l_158 h_159 h_160
       obtain ⟨J_181, m_182, i_183, b_184⟩ := h
       refine xloop_J (J := fun n l w => ∃ (s : Int) (H : Hp) , n = m_182 s ∧ l = [(vi s)] ∧ Inv w0 ps0 H0 H [bx g_2 26 (cs_api_Cfg x0)] w ∧ J_181 s H) ⟨_, 0, H_156, rfl, rfl, I_157, i_183⟩ ?_
       rintro n_185 τ_186 w next4 ⟨s7l4, H, rfl, l_187, I, s_188⟩ hn4
       simp only [List.map_cons, List.map_nil, List.cons.injEq, and_true] at l_187
       have e7 := l_187
       simp only [e7]
       obtain ⟨n4, hm4, h⟩ : ∃ n4 : Int → Hp → Prop, (∀ s' H', n4 s' H' → J_181 s' H' ∧ m_182 s' < m_182 s7l4) ∧ T_gnomon_gnomonref9_Check_l4 s_31 x0 s7l4 H n4 K := ⟨_, fun _ _ h => h, b_184 s7l4 H (fun s' H' => J_181 s' H' ∧ m_182 s' < m_182 s7l4) s_188 (fun _ _ a b => ⟨a, b⟩)⟩
       unfold F19_l4
       unfold T_gnomon_gnomonref9_Check_l4 at h
       refine opK_pu pu_fa_26_3 ?_
       refine opK_ld (ld1 Try.isAgg3 (I.at1 (o := 3) (vs := [(vi x0.fPoints)]) (nb rfl) rfl)) ?_
       refine opK_pu (pu_lss _ _ _ _ _ _) ?_
       refine xcond_p (fun c_180 => ?_) (fun c_180 => ?_)
       ·replace h := h.1 c_180
        refine s_dX I fun w_161 I_162 => ?_
        obtain ⟨h_166, h_167, x_163, h_169, h⟩ := h
        obtain ⟨g_164, o_165, h_168, h_169⟩ := h_169
        refine qP_pu (pu_ix_55 h_168 _ _ _ _ h_166 h_167) ?_
        refine qL_ld (ldA Try.isAgg26 Try.sizeOf26 rfl (I_162.at1 (o := 0) (vs := (cs_api_Cfg x0)) (nb rfl) rfl)) ?_
        refine qL_ld (ld1 (v := (vs x_163)) Try.isAgg68 (I_162.atH h_169)) ?_
        refine opK_calls (cap := []) (fun args w => Try.call46 args w) ?_
        refine Cv_ct (Fi := []) (Fr := [bx g_2 26 (cs_api_Cfg x0)]) I_162 (h) (fun v_174 H_170 F_175 w_171 I_172 l_177 k_173 q_176 => ?_) (fun _ _ _ _ _ q => q.elim)
        obtain ⟨r0_178, rfl, rfl, h⟩ := q_176
        refine qP_pu (pu_not _) ?_
        refine xcond_b (fun c_179 => ?_) (fun c_179 => ?_)
        ·replace h := h.1 c_179
         exact hR 92 H_170 _ I_172.drop h
        ·replace h := h.2 c_179
         refine opK_pu (pu_add _ _ _ _ _ _) ?_
         exact hn4 _ _ _ (hm4 _ _ h).2 ⟨(IntKind.wrap .i64 (s7l4 + 1)), H_170, rfl, rfl, I_172, (hm4 _ _ h).1⟩
       ·replace h := h.2 c_180
        exact hx3 _ _ (hj3 H _ I h)
      refine xcut_i fun j2 hx2 => ?_
      obtain ⟨J_190, m_191, i_192, b_193⟩ := h
      refine xloop_J (J := fun n l w => ∃ (s : (List (List Int)) × Int) (H : Hp) (Fs4l5 : Frag) , n = m_191 s ∧ l = (match s with | (cs4l5, s5l5) => [(vi s5l5)]) ∧ (match s with | (cs4l5, s5l5) => RowsL 68 3 1 cs_int s_31 cs4l5 Fs4l5) ∧ (match s with | (cs4l5, s5l5) => Inv w0 ps0 H0 H [bx g_2 26 (cs_api_Cfg x0), Fs4l5] w) ∧ J_190 s H) ⟨_, ((List.replicate (x0.fPoints : Int).toNat ([] : List Int)), 0), H, F_32, rfl, rfl, (RowsL.made (e := 3) cs_int_l cs_int_o h_34), (I_35.bring 1), i_192⟩ ?_
      rintro n_194 τ_195 w next5 ⟨⟨cs4l5, s5l5⟩, H, Fs4l5, rfl, l_196, hs4l5, I, s_197⟩ hn5
      dsimp only at l_196 I hs4l5
      simp only [List.map_cons, List.map_nil, List.cons.injEq, and_true] at l_196
      have e5 := l_196
      simp only [e5]
      obtain ⟨n5, hm5, h⟩ : ∃ n5 : ((List (List Int)) × Int) → Hp → Prop, (∀ s' H', n5 s' H' → J_190 s' H' ∧ m_191 s' < m_191 (cs4l5, s5l5)) ∧ T_gnomon_gnomonref9_Check_l5 x0 cs4l5 s5l5 H n5 K := ⟨_, fun _ _ h => h, b_193 (cs4l5, s5l5) H (fun s' H' => J_190 s' H' ∧ m_191 s' < m_191 (cs4l5, s5l5)) s_197 (fun _ _ a b => ⟨a, b⟩)⟩
      unfold F19_l5
      unfold T_gnomon_gnomonref9_Check_l5 at h
      refine opK_pu pu_fa_26_5 ?_
      refine opK_ld (ld1 Try.isAgg24 (I.at1 (o := 5) (vs := [(vs x0.fEdges)]) (nb rfl) rfl)) ?_
      refine opK_pu (pu_len_24 _ _ _) ?_
      refine opK_pu (pu_lss _ _ _ _ _ _) ?_
      refine xcond_p (fun c_189 => ?_) (fun c_189 => ?_)
      ·replace h := h.1 c_189
       refine opK_pu pu_fa_26_5 ?_
       refine opK_ld (ld1 Try.isAgg24 (I.at1 (o := 5) (vs := [(vs x0.fEdges)]) (nb rfl) rfl)) ?_
       obtain ⟨h_42, h_43, x_39, h_45, h⟩ := h
       obtain ⟨g_40, o_41, h_44, h_45⟩ := h_45
       refine opK_pu (pu_ix_24 h_44 _ _ _ _ h_42 h_43) ?_
       refine opK_ld (ldA (vs := (cs_api_Edge x_39)) Try.isAgg52 Try.sizeOf52 rfl (I.atH h_45)) ?_
       refine s_alloc I Try.zeroValue52 (cs := [(vi 0), (vi 0), (vi 0), (vi 0), (vi 0), (vi 0), (vi 0), (vi 0), (vi 0), (vi 0)]) rfl fun g_47 w_48 I_49 k_50 => ?_
       refine s_store I_49 Try.sizeOf52 (vs := (cs_api_Edge x_39)) (cs' := (cs_api_Edge x_39)) rfl rfl (nb rfl) rfl rfl fun w_51 I_52 k_53 => ?_
       refine s_dX I_52 fun w_54 I_55 => ?_
       refine qP_pu pu_fa_52_0 ?_
       refine qL_ld (ld1 Try.isAgg3 (I_55.at1 (o := 0) (vs := [(vi x_39.fFrom)]) (nb rfl) rfl)) ?_
       refine qP_pu (pu_lss _ _ _ _ _ _) ?_
       refine qP_pu (Pu.g fun hb => by have hb_0 := hb; first | exact pu_fa_52_0 | (simp only [gval_t hb_0, gv_t hb_0, gv_t hb, gva_ft hb_0]; exact pu_fa_52_0) | (simp only [gval_t hb_0, gv_t hb_0, gv_t hb, gva_ff hb_0, gv_n]; exact pu_fa_52_0)) ?_
       refine qP_pu (Pu.g fun hb => by have hb_0 := hb; first | exact pu_fa_26_3 | (simp only [gval_t hb_0, gv_t hb_0, gv_t hb, gva_ft hb_0]; exact pu_fa_26_3) | (simp only [gval_t hb_0, gv_t hb_0, gv_t hb, gva_ff hb_0, gv_n]; exact pu_fa_26_3)) ?_
       refine qL_g (p := (Value.pointer (some ⟨g_47, 0, none⟩))) rfl (Ld.g fun hb => by have hb_0 := hb; first | exact (ld1 Try.isAgg3 (I_55.at1 (o := 0) (vs := [(vi x_39.fFrom)]) (nb rfl) rfl)) | (simp only [gv_t hb_0]; exact (ld1 Try.isAgg3 (I_55.at1 (o := 0) (vs := [(vi x_39.fFrom)]) (nb rfl) rfl))) | (simp only [gval_t hb_0, gv_t hb_0, gv_t hb, gva_ff hb_0, gv_n]; exact (ld1 Try.isAgg3 (I_55.at1 (o := 0) (vs := [(vi x_39.fFrom)]) (nb rfl) rfl)))) ?_
       refine qL_g (p := (Value.pointer (some ⟨g_2, 3, none⟩))) rfl (Ld.g fun hb => by have hb_0 := hb; first | exact (ld1 Try.isAgg3 ((I_55.bring 1).at1 (o := 3) (vs := [(vi x0.fPoints)]) (nb rfl) rfl)) | (simp only [gv_t hb_0]; exact (ld1 Try.isAgg3 ((I_55.bring 1).at1 (o := 3) (vs := [(vi x0.fPoints)]) (nb rfl) rfl))) | (simp only [gval_t hb_0, gv_t hb_0, gv_t hb, gva_ff hb_0, gv_n]; exact (ld1 Try.isAgg3 ((I_55.bring 1).at1 (o := 3) (vs := [(vi x0.fPoints)]) (nb rfl) rfl)))) ?_
       refine qP_pu (Pu.g fun hb => by have hb_0 := hb; first | exact (pu_geq _ _ _ _ _ _) | (simp only [gv_t hb_0]; exact (pu_geq _ _ _ _ _ _)) | (simp only [gval_t hb_0, gv_t hb_0, gv_t hb, gva_ff hb_0, gv_n]; exact (pu_geq _ _ _ _ _ _))) ?_
       refine qP_pu (pu_or _ _) ?_
       refine qP_pu (Pu.g fun hb => by have hb_0 := hb; first | exact pu_fa_52_1 | (simp only [gval_t hb_0, gv_t hb_0, gv_t hb, gva_ft hb_0]; exact pu_fa_52_1) | (simp only [gval_t hb_0, gv_t hb_0, gv_t hb, gva_ff hb_0, gv_n]; exact pu_fa_52_1)) ?_
       refine qL_g (p := (Value.pointer (some ⟨g_47, 1, none⟩))) rfl (Ld.g fun hb => by have hb_0 := hb; first | exact (ld1 Try.isAgg3 (I_55.at1 (o := 1) (vs := [(vi x_39.fTo)]) (nb rfl) rfl)) | (simp only [gv_t hb_0]; exact (ld1 Try.isAgg3 (I_55.at1 (o := 1) (vs := [(vi x_39.fTo)]) (nb rfl) rfl))) | (simp only [gval_t hb_0, gv_t hb_0, gv_t hb, gva_ff hb_0, gv_n]; exact (ld1 Try.isAgg3 (I_55.at1 (o := 1) (vs := [(vi x_39.fTo)]) (nb rfl) rfl)))) ?_
       refine qP_pu (Pu.g fun hb => by have hb_0 := hb; first | exact (pu_lss _ _ _ _ _ _) | (simp only [gv_t hb_0]; exact (pu_lss _ _ _ _ _ _)) | (simp only [gval_t hb_0, gv_t hb_0, gv_t hb, gva_ff hb_0, gv_n]; exact (pu_lss _ _ _ _ _ _))) ?_
       refine qP_pu (pu_or _ _) ?_
       refine qP_pu (Pu.g fun hb => by have hb_0 := hb; first | exact pu_fa_52_1 | (simp only [gval_t hb_0, gv_t hb_0, gv_t hb, gva_ft hb_0]; exact pu_fa_52_1) | (simp only [gval_t hb_0, gv_t hb_0, gv_t hb, gva_ff hb_0, gv_n]; exact pu_fa_52_1)) ?_
       refine qP_pu (Pu.g fun hb => by have hb_0 := hb; first | exact pu_fa_26_3 | (simp only [gval_t hb_0, gv_t hb_0, gv_t hb, gva_ft hb_0]; exact pu_fa_26_3) | (simp only [gval_t hb_0, gv_t hb_0, gv_t hb, gva_ff hb_0, gv_n]; exact pu_fa_26_3)) ?_
       refine qL_g (p := (Value.pointer (some ⟨g_47, 1, none⟩))) rfl (Ld.g fun hb => by have hb_0 := hb; first | exact (ld1 Try.isAgg3 (I_55.at1 (o := 1) (vs := [(vi x_39.fTo)]) (nb rfl) rfl)) | (simp only [gv_t hb_0]; exact (ld1 Try.isAgg3 (I_55.at1 (o := 1) (vs := [(vi x_39.fTo)]) (nb rfl) rfl))) | (simp only [gval_t hb_0, gv_t hb_0, gv_t hb, gva_ff hb_0, gv_n]; exact (ld1 Try.isAgg3 (I_55.at1 (o := 1) (vs := [(vi x_39.fTo)]) (nb rfl) rfl)))) ?_
       refine qL_g (p := (Value.pointer (some ⟨g_2, 3, none⟩))) rfl (Ld.g fun hb => by have hb_0 := hb; first | exact (ld1 Try.isAgg3 ((I_55.bring 1).at1 (o := 3) (vs := [(vi x0.fPoints)]) (nb rfl) rfl)) | (simp only [gv_t hb_0]; exact (ld1 Try.isAgg3 ((I_55.bring 1).at1 (o := 3) (vs := [(vi x0.fPoints)]) (nb rfl) rfl))) | (simp only [gval_t hb_0, gv_t hb_0, gv_t hb, gva_ff hb_0, gv_n]; exact (ld1 Try.isAgg3 ((I_55.bring 1).at1 (o := 3) (vs := [(vi x0.fPoints)]) (nb rfl) rfl)))) ?_
       refine qP_pu (Pu.g fun hb => by have hb_0 := hb; first | exact (pu_geq _ _ _ _ _ _) | (simp only [gv_t hb_0]; exact (pu_geq _ _ _ _ _ _)) | (simp only [gval_t hb_0, gv_t hb_0, gv_t hb, gva_ff hb_0, gv_n]; exact (pu_geq _ _ _ _ _ _))) ?_
       refine qP_pu (pu_or _ _) ?_
       refine qP_pu (Pu.g fun hb => by have hb_0 := hb; first | exact pu_fa_52_0 | (simp only [gval_t hb_0, gv_t hb_0, gv_t hb, gva_ft hb_0]; exact pu_fa_52_0) | (simp only [gval_t hb_0, gv_t hb_0, gv_t hb, gva_ff hb_0, gv_n]; exact pu_fa_52_0)) ?_
       refine qP_pu (Pu.g fun hb => by have hb_0 := hb; first | exact pu_fa_26_4 | (simp only [gval_t hb_0, gv_t hb_0, gv_t hb, gva_ft hb_0]; exact pu_fa_26_4) | (simp only [gval_t hb_0, gv_t hb_0, gv_t hb, gva_ff hb_0, gv_n]; exact pu_fa_26_4)) ?_
       refine qL_g (p := (Value.pointer (some ⟨g_47, 0, none⟩))) rfl (Ld.g fun hb => by have hb_0 := hb; first | exact (ld1 Try.isAgg3 (I_55.at1 (o := 0) (vs := [(vi x_39.fFrom)]) (nb rfl) rfl)) | (simp only [gv_t hb_0]; exact (ld1 Try.isAgg3 (I_55.at1 (o := 0) (vs := [(vi x_39.fFrom)]) (nb rfl) rfl))) | (simp only [gval_t hb_0, gv_t hb_0, gv_t hb, gva_ff hb_0, gv_n]; exact (ld1 Try.isAgg3 (I_55.at1 (o := 0) (vs := [(vi x_39.fFrom)]) (nb rfl) rfl)))) ?_
       refine qL_g (p := (Value.pointer (some ⟨g_2, 4, none⟩))) rfl (Ld.g fun hb => by have hb_0 := hb; first | exact (ld1 Try.isAgg3 ((I_55.bring 1).at1 (o := 4) (vs := [(vi x0.fExit)]) (nb rfl) rfl)) | (simp only [gv_t hb_0]; exact (ld1 Try.isAgg3 ((I_55.bring 1).at1 (o := 4) (vs := [(vi x0.fExit)]) (nb rfl) rfl))) | (simp only [gval_t hb_0, gv_t hb_0, gv_t hb, gva_ff hb_0, gv_n]; exact (ld1 Try.isAgg3 ((I_55.bring 1).at1 (o := 4) (vs := [(vi x0.fExit)]) (nb rfl) rfl)))) ?_
       refine qP_pu (Pu.g fun hb => by have hb_0 := hb; first | exact (pu_eql _ _ _ _ _ _) | (simp only [gv_t hb_0]; exact (pu_eql _ _ _ _ _ _)) | (simp only [gval_t hb_0, gv_t hb_0, gv_t hb, gva_ff hb_0, gv_n]; exact (pu_eql _ _ _ _ _ _))) ?_
       refine qP_pu (pu_or _ _) ?_
       refine qP_pu (Pu.g fun hb => by have hb_0 := hb; first | exact pu_fa_26_2 | (simp only [gval_t hb_0, gv_t hb_0, gv_t hb, gva_ft hb_0]; exact pu_fa_26_2) | (simp only [gval_t hb_0, gv_t hb_0, gv_t hb, gva_ff hb_0, gv_n]; exact pu_fa_26_2)) ?_
       refine qL_ld (Ld.g fun hb => by have hb_0 := hb; first | exact (ldA Try.isAgg52 Try.sizeOf52 rfl (I_55.at1 (o := 0) (vs := (cs_api_Edge x_39)) (nb rfl) rfl)) | (simp only [gval_t hb_0, gv_t hb_0, gv_t hb, gva_ft hb_0]; exact (ldA Try.isAgg52 Try.sizeOf52 rfl (I_55.at1 (o := 0) (vs := (cs_api_Edge x_39)) (nb rfl) rfl))) | (simp only [gval_t hb_0, gv_t hb_0, gv_t hb, gva_ff hb_0, gv_n]; exact (ldA Try.isAgg52 Try.sizeOf52 rfl (I_55.at1 (o := 0) (vs := (cs_api_Edge x_39)) (nb rfl) rfl)))) ?_
       refine qL_ld (Ld.g fun hb => by have hb_0 := hb; first | exact (ldA Try.isAgg26 Try.sizeOf26 rfl ((I_55.bring 1).at1 (o := 0) (vs := (cs_api_Cfg x0)) (nb rfl) rfl)) | (simp only [gval_t hb_0, gv_t hb_0, gv_t hb, gva_ft hb_0]; exact (ldA Try.isAgg26 Try.sizeOf26 rfl ((I_55.bring 1).at1 (o := 0) (vs := (cs_api_Cfg x0)) (nb rfl) rfl))) | (simp only [gval_t hb_0, gv_t hb_0, gv_t hb, gva_ff hb_0, gv_n]; exact (ldA Try.isAgg26 Try.sizeOf26 rfl ((I_55.bring 1).at1 (o := 0) (vs := (cs_api_Cfg x0)) (nb rfl) rfl)))) ?_
       refine qL_g (p := (Value.pointer (some ⟨g_2, 2, none⟩))) rfl (Ld.g fun hb => by have hb_0 := hb; first | exact (ld1 Try.isAgg23 ((I_55.bring 1).at1 (o := 2) (vs := [(vs x0.fArrays)]) (nb rfl) rfl)) | (simp only [gv_t hb_0]; exact (ld1 Try.isAgg23 ((I_55.bring 1).at1 (o := 2) (vs := [(vs x0.fArrays)]) (nb rfl) rfl))) | (simp only [gval_t hb_0, gv_t hb_0, gv_t hb, gva_ff hb_0, gv_n]; exact (ld1 Try.isAgg23 ((I_55.bring 1).at1 (o := 2) (vs := [(vs x0.fArrays)]) (nb rfl) rfl)))) ?_
       refine qP_pu (Pu.g fun hb => by have hb_0 := hb; first | exact (pu_len_23 _ _ _) | (simp only [gv_t hb_0]; exact (pu_len_23 _ _ _)) | (simp only [gval_t hb_0, gv_t hb_0, gv_t hb, gva_ff hb_0, gv_n]; exact (pu_len_23 _ _ _))) ?_
       refine opK_g2 (D := fun v_60 w_57 => ∃ (r0_64 : Int) (H_56 : Hp), v_60 = (gv (((((decide (x_39.fFrom < 0)) || (decide (x0.fPoints ≤ x_39.fFrom))) || (decide (x_39.fTo < 0))) || (decide (x0.fPoints ≤ x_39.fTo))) || (decide (x_39.fFrom = x0.fExit))) false (vi r0_64)) ∧ (Inv w0 ps0 H0 H_56 [bx g_47 52 (cs_api_Edge x_39), bx g_2 26 (cs_api_Cfg x0), Fs4l5] w_57) ∧ (∀ i, i < w_54.heap.size → ¬ inF [] i → w_57.heap[i]? = w_54.heap[i]?) ∧ Hle H H_56 ∧ (TG ((((((decide (x_39.fFrom < 0)) || (decide (x0.fPoints ≤ x_39.fFrom))) || (decide (x_39.fTo < 0))) || (decide (x0.fPoints ≤ x_39.fTo))) || (decide (x_39.fFrom = x0.fExit))) = false) (C_gnomon_gnomonref9_Right x_39 r0_64 (x0.fArrays.n : Int) H_56) false H_56 (fun (r0_73 : Bool) (H_65 : Hp) =>
 (((((((decide (x_39.fFrom < 0)) || (decide (x0.fPoints ≤ x_39.fFrom))) || (decide (x_39.fTo < 0))) || (decide (x0.fPoints ≤ x_39.fTo))) || (decide (x_39.fFrom = x0.fExit))) || (!r0_73)) = true →
 K 92 H_65) ∧
 (((((((decide (x_39.fFrom < 0)) || (decide (x0.fPoints ≤ x_39.fFrom))) || (decide (x_39.fTo < 0))) || (decide (x0.fPoints ≤ x_39.fTo))) || (decide (x_39.fFrom = x0.fExit))) || (!r0_73)) = false →
 (0 : Int) ≤ x_39.fFrom ∧ ∃ xs_77 : List Int, (cs4l5)[(x_39.fFrom : Int).toNat]? = some xs_77 ∧
 (xs_77.length + ([s5l5] : List Int).length) * 9 ≤ 140737488355328 ∧
 n5 (((cs4l5).set (x_39.fFrom : Int).toNat (xs_77 ++ [s5l5])), (IntKind.wrap .i64 (s5l5 + 1))) H_65)))) (fun b_122 => ?_) (fun b_122 => ?_) ?_
       ·replace h := h.1 b_122
        have hb_0 := b_122
        try simp only [gv_t hb_0]
        refine opK_calls (cap := []) (fun args w => Try.call20 args w) ?_
        refine Cv_ct (Fi := []) (Fr := [bx g_47 52 (cs_api_Edge x_39), bx g_2 26 (cs_api_Cfg x0), Fs4l5]) I_55 (h) (fun v_60 H_56 F_61 w_57 I_58 l_63 k_59 q_62 => ?_) (fun _ _ _ _ _ q => q.elim)
        obtain ⟨r0_64, rfl, rfl, h⟩ := q_62
        exact ⟨r0_64, H_56, by first | rfl | rw [gv_t b_122], I_58, k_59, l_63, h⟩
       ·exact ⟨0, H, by first | rfl | rw [gv_f b_122], I_55, fun _ _ _ => rfl, Hle.refl _, h.2 b_122⟩
       ·clear h
        rintro v_60 w_57 ⟨r0_64, H_56, rfl, I_58, k_59, l_63, h⟩
        refine ⟨(same_g (p := (Value.pointer (some ⟨g_2, 2, none⟩))) rfl (k_59 _ (I_55.bring 1).lt1 (Inv.not_in (Fi := []) (I_55.bring 1)))), (k_59 _ I_55.lt1 (Inv.not_in (Fi := []) I_55)), ?_⟩
        refine opK_g2 (D := fun v_69 w_66 => ∃ (r0_73 : Bool) (H_65 : Hp), v_69 = (gv (((((decide (x_39.fFrom < 0)) || (decide (x0.fPoints ≤ x_39.fFrom))) || (decide (x_39.fTo < 0))) || (decide (x0.fPoints ≤ x_39.fTo))) || (decide (x_39.fFrom = x0.fExit))) false (Value.bool r0_73)) ∧ (Inv w0 ps0 H0 H_65 [bx g_47 52 (cs_api_Edge x_39), bx g_2 26 (cs_api_Cfg x0), Fs4l5] w_66) ∧ (∀ i, i < w_57.heap.size → ¬ inF [] i → w_66.heap[i]? = w_57.heap[i]?) ∧ Hle H_56 H_65 ∧ ((((((((decide (x_39.fFrom < 0)) || (decide (x0.fPoints ≤ x_39.fFrom))) || (decide (x_39.fTo < 0))) || (decide (x0.fPoints ≤ x_39.fTo))) || (decide (x_39.fFrom = x0.fExit))) || (!r0_73)) = true →
 K 92 H_65) ∧
 (((((((decide (x_39.fFrom < 0)) || (decide (x0.fPoints ≤ x_39.fFrom))) || (decide (x_39.fTo < 0))) || (decide (x0.fPoints ≤ x_39.fTo))) || (decide (x_39.fFrom = x0.fExit))) || (!r0_73)) = false →
 (0 : Int) ≤ x_39.fFrom ∧ ∃ xs_77 : List Int, (cs4l5)[(x_39.fFrom : Int).toNat]? = some xs_77 ∧
 (xs_77.length + ([s5l5] : List Int).length) * 9 ≤ 140737488355328 ∧
 n5 (((cs4l5).set (x_39.fFrom : Int).toNat (xs_77 ++ [s5l5])), (IntKind.wrap .i64 (s5l5 + 1))) H_65))) (fun b_121 => ?_) (fun b_121 => ?_) ?_
        ·replace h := h.1 b_121
         have hb_0 := b_121
         try simp only [gv_t hb_0]
         refine opK_calls (cap := []) (fun args w => Try.call45 args w) ?_
         refine Cv_ct (Fi := []) (Fr := [bx g_47 52 (cs_api_Edge x_39), bx g_2 26 (cs_api_Cfg x0), Fs4l5]) I_58 (h) (fun v_69 H_65 F_70 w_66 I_67 l_72 k_68 q_71 => ?_) (fun _ _ _ _ _ q => q.elim)
         obtain ⟨r0_73, rfl, rfl, h⟩ := q_71
         exact ⟨r0_73, H_65, by first | rfl | rw [gv_t b_121], I_67, k_68, l_72, h⟩
        ·exact ⟨false, H_56, by first | rfl | rw [gv_f b_121], I_58, fun _ _ _ => rfl, Hle.refl _, h.2 b_121⟩
        ·clear h
         rintro v_69 w_66 ⟨r0_73, H_65, rfl, I_67, k_68, l_72, h⟩
         refine qP_pu (Pu.g fun hb => by have hb_0 := hb; first | exact (pu_not _) | (simp only [gv_t hb_0]; exact (pu_not _)) | (simp only [gval_t hb_0, gv_t hb_0, gv_t hb, gva_ff hb_0, gv_n]; exact (pu_not _))) ?_
         refine qP_pu (pu_or _ _) ?_
         refine xcond_b (fun c_120 => ?_) (fun c_120 => ?_)
         ·replace h := h.1 c_120
          exact hR 92 H_65 _ I_67.drop.drop.drop h
         ·replace h := h.2 c_120
          refine s_dX I_67 fun w_74 I_75 => ?_
          refine qP_pu pu_fa_52_0 ?_
          refine qP_pu pu_fa_52_0 ?_
          refine qL_ld (ld1 Try.isAgg3 (I_75.at1 (o := 0) (vs := [(vi x_39.fFrom)]) (nb rfl) rfl)) ?_
          refine qL_ld (ld1 Try.isAgg3 (I_75.at1 (o := 0) (vs := [(vi x_39.fFrom)]) (nb rfl) rfl)) ?_
          obtain ⟨h_76, xs_77, h_78, h⟩ := h
          obtain ⟨ss_79, s_80, F_81, F_82, F_83, h_84, h_85, h_86, h_87, h_88, I_89⟩ := RowsL.open_ hs4l5 (I_75.bring 2) h_78
          obtain ⟨g_93, a_95, h_94, h_96⟩ := h_84.addr h_85
          refine qP_pu (pu_ix_55 h_94 _ _ _ _ h_76 (h_84.lt h_76 h_85)) ?_
          refine qL_ld (ld1 (v := (vs s_80)) Try.isAgg68 (h_84.atW I_89 h_94 h_85)) ?_
          refine s_bs (e := 3) (c := cs_int) (xs := [s5l5]) I_89 (bs_68_1 _) rfl rfl cs_int_l cs_int_o (nb rfl) fun s_98 F_99 w_100 h_101 I_102 k_103 => ?_
          refine ⟨(k_103 _ (RowL.lt_blk h_84 I_89 h_94)), (k_103 _ (I_89.bring 3).lt1), (k_103 _ (I_89.bring 3).lt1), ?_⟩
          obtain ⟨h_110, h⟩ := h
          refine app_68 (s := s_80) (xs := xs_77) (I_102.bring 2) h_86 (h_101.srcO ((I_102.bring 2).bring 1)) h_110 fun s_104 F_105 w_106 h_107 I_108 k_109 => ?_
          refine ⟨(k_109 _ ((I_102.bring 2).bring 4).lt1 (Inv.row_ne_b (((I_102.bring 2).bring 4).bring 1))), ?_⟩
          obtain ⟨g_111, a_113, h_112, h_114⟩ := h_84.addr h_85
          refine qP_pu (pu_ix_55 h_112 _ _ _ _ h_76 (h_84.lt h_76 h_85)) ?_
          refine s_rowst (x := s_104) ((I_108.bring 1).drop.bring 1) h_84 h_112 (List.getElem?_eq_some_iff.1 h_85).1 Try.sizeOf68 rfl fun F_115 w_116 h_117 I_118 k_119 => ?_
          refine opK_pu (pu_add _ _ _ _ _ _) ?_
          exact hn5 _ _ _ (hm5 _ _ h).2 ⟨(((cs4l5).set (x_39.fFrom : Int).toNat (xs_77 ++ [s5l5])), (IntKind.wrap .i64 (s5l5 + 1))), H_65, (F_115 ++ (F_105 ++ F_83)), rfl, rfl, (RowsL.close1 h_117 h_107 h_87), (((((I_118.bring 2).bring 2).bring 2).join3.bring 1).drop.bring 1), (hm5 _ _ h).1⟩
      ·replace h := h.2 c_189
       exact hx2 _ _ (hj2 cs4l5 Fs4l5 H _ hs4l5 ((I.bring 1).bring 1) h)
     refine xcut_i fun j1 hx1 => ?_
     obtain ⟨J_199, m_200, i_201, b_202⟩ := h
     refine xloop_J (J := fun n l w => ∃ (s : Int) (H : Hp) , n = m_200 s ∧ l = [(vi s)] ∧ Inv w0 ps0 H0 H [bx g_2 26 (cs_api_Cfg x0)] w ∧ J_199 s H) ⟨_, 0, H_6, rfl, rfl, I_8, i_201⟩ ?_
     rintro n_203 τ_204 w next6 ⟨s3l6, H, rfl, l_205, I, s_206⟩ hn6
     simp only [List.map_cons, List.map_nil, List.cons.injEq, and_true] at l_205
     have e3 := l_205
     simp only [e3]
     obtain ⟨n6, hm6, h⟩ : ∃ n6 : Int → Hp → Prop, (∀ s' H', n6 s' H' → J_199 s' H' ∧ m_200 s' < m_200 s3l6) ∧ T_gnomon_gnomonref9_Check_l6 x0 s3l6 H n6 K := ⟨_, fun _ _ h => h, b_202 s3l6 H (fun s' H' => J_199 s' H' ∧ m_200 s' < m_200 s3l6) s_206 (fun _ _ a b => ⟨a, b⟩)⟩
     unfold F19_l6
     unfold T_gnomon_gnomonref9_Check_l6 at h
     refine opK_pu pu_fa_26_2 ?_
     refine opK_ld (ld1 Try.isAgg23 (I.at1 (o := 2) (vs := [(vs x0.fArrays)]) (nb rfl) rfl)) ?_
     refine opK_pu (pu_len_23 _ _ _) ?_
     refine opK_pu (pu_lss _ _ _ _ _ _) ?_
     refine xcond_p (fun c_198 => ?_) (fun c_198 => ?_)
     ·replace h := h.1 c_198
      refine opK_pu pu_fa_26_2 ?_
      refine opK_ld (ld1 Try.isAgg23 (I.at1 (o := 2) (vs := [(vs x0.fArrays)]) (nb rfl) rfl)) ?_
      obtain ⟨h_18, h_19, x_15, h_21, h⟩ := h
      obtain ⟨g_16, o_17, h_20, h_21⟩ := h_21
      refine opK_pu (pu_ix_23 h_20 _ _ _ _ h_18 h_19) ?_
      refine opK_pu pu_fa_60_1 ?_
      refine opK_ld (ld1 (v := (vi x_15.fSize)) Try.isAgg3 ((I.atH h_21).sub (k := 1) (n := 1) (nb rfl))) ?_
      refine opK_pu (pu_lss _ _ _ _ _ _) ?_
      refine opK_pu (Pu.g fun hb => by have hb_0 := hb; first | exact pu_fa_26_2 | (simp only [gval_t hb_0, gv_t hb_0, gv_t hb, gva_ft hb_0]; exact pu_fa_26_2) | (simp only [gval_t hb_0, gv_t hb_0, gv_t hb, gva_ff hb_0, gv_n]; exact pu_fa_26_2)) ?_
      refine opK_ld (Ld.g fun hb => by have hb_0 := hb; first | exact (ld1 Try.isAgg23 (I.at1 (o := 2) (vs := [(vs x0.fArrays)]) (nb rfl) rfl)) | (simp only [gv_t hb_0]; exact (ld1 Try.isAgg23 (I.at1 (o := 2) (vs := [(vs x0.fArrays)]) (nb rfl) rfl))) | (simp only [gval_t hb_0, gv_t hb_0, gv_t hb, gva_ff hb_0, gv_n]; exact (ld1 Try.isAgg23 (I.at1 (o := 2) (vs := [(vs x0.fArrays)]) (nb rfl) rfl)))) ?_
      try simp only [gval_b]
      refine opK_pu (Pu.g fun hb => by have hb_0 := hb; first | exact (pu_ix_23 h_20 _ _ _ _ h_18 h_19) | (simp only [gv_t hb_0]; exact (pu_ix_23 h_20 _ _ _ _ h_18 h_19)) | (simp only [gval_t hb_0, gv_t hb_0, gv_t hb, gva_ff hb_0, gv_n]; exact (pu_ix_23 h_20 _ _ _ _ h_18 h_19))) ?_
      refine opK_pu (Pu.g fun hb => by have hb_0 := hb; first | exact pu_fa_60_1 | (simp only [gv_t hb_0]; exact pu_fa_60_1) | (simp only [gval_t hb_0, gv_t hb_0, gv_t hb, gva_ff hb_0, gv_n]; exact pu_fa_60_1)) ?_
      refine opK_ld (Ld.g fun hb => by have hb_0 := hb; first | exact (ld1 (v := (vi x_15.fSize)) Try.isAgg3 ((I.atH h_21).sub (k := 1) (n := 1) (nb rfl))) | (simp only [gv_t hb_0]; exact (ld1 (v := (vi x_15.fSize)) Try.isAgg3 ((I.atH h_21).sub (k := 1) (n := 1) (nb rfl)))) | (simp only [gval_t hb_0, gv_t hb_0, gv_t hb, gva_ff hb_0, gv_n]; exact (ld1 (v := (vi x_15.fSize)) Try.isAgg3 ((I.atH h_21).sub (k := 1) (n := 1) (nb rfl))))) ?_
      refine opK_pu (Pu.g fun hb => by have hb_0 := hb; first | exact (pu_gtr _ _ _ _ _ _) | (simp only [gv_t hb_0]; exact (pu_gtr _ _ _ _ _ _)) | (simp only [gval_t hb_0, gv_t hb_0, gv_t hb, gva_ff hb_0, gv_n]; exact (pu_gtr _ _ _ _ _ _))) ?_
      refine opK_pu (pu_or _ _) ?_
      refine xcond_b (fun c_29 => ?_) (fun c_29 => ?_)
      ·replace h := h.1 c_29
       exact hR 92 H _ I.drop h
      ·replace h := h.2 c_29
       refine opK_pu (pu_add _ _ _ _ _ _) ?_
       exact hn6 _ _ _ (hm6 _ _ h).2 ⟨(IntKind.wrap .i64 (s3l6 + 1)), H, rfl, rfl, I, (hm6 _ _ h).1⟩
     ·replace h := h.2 c_198
      exact hx1 _ _ (hj1 H _ I h)
theorem L_gnomon_gnomonref9_Check (x0 : Tapi_Cfg) {H : Hp} {K : Int → Hp → Prop} (h : T_gnomon_gnomonref9_Check x0 H K) : C_gnomon_gnomonref9_Check x0 H K := by
 intro w I
 refine F19_ok ?_
 refine LF_gnomon_gnomonref9_Check x0 I (fun r0 H' w' I' hk => ⟨H', _, I', r0, rfl, rfl, hk⟩) h


/- function 12: gnomon/gnomonhelp.Longs -/
def T_gnomon_gnomonhelp_Longs_j1 (H : Hp) (K : Bool → Hp → Prop) : Prop :=
 K true H
def T_gnomon_gnomonhelp_Longs_l2 (s0l2 : Sl) (s1l2 : Sl) (s5l2 : Int) (H : Hp) (n2 : Int → Hp → Prop) (K : Bool → Hp → Prop) : Prop :=
 (s5l2 < (s0l2.n : Int) →
 (0 : Int) ≤ s5l2 ∧ (s5l2 : Int) < s0l2.n ∧ ∃ x_3 : Int, EltH H s0l2 s5l2 1 [(vi x_3)] ∧ 
 (0 : Int) ≤ s5l2 ∧ (s5l2 : Int) < s1l2.n ∧ ∃ x_10 : Int, EltH H s1l2 s5l2 1 [(vi x_10)] ∧ 
 (¬ (x_3 = x_10) →
 K false H) ∧
 (x_3 = x_10 →
 n2 (IntKind.wrap .i64 (s5l2 + 1)) H)) ∧
 (¬ (s5l2 < (s0l2.n : Int)) →
 T_gnomon_gnomonhelp_Longs_j1 H K)
def T_gnomon_gnomonhelp_Longs (x0 : Sl) (x1 : Sl) (H : Hp) (K : Bool → Hp → Prop) : Prop :=
 (¬ ((x0.n : Int) = (x1.n : Int)) →
 K false H) ∧
 ((x0.n : Int) = (x1.n : Int) →
 TL (0 : Int) H fun (s : Int) H n2 => T_gnomon_gnomonhelp_Longs_l2 x0 x1 s H n2 K)
theorem LF_gnomon_gnomonhelp_Longs (x0 : Sl) (x1 : Sl) {w0 w : World} {ps0 : Nat → Prop} {H0 H : Hp} {K : Bool → Hp → Prop} {R : Value → World → Prop} {E : Pan} (I : Inv w0 ps0 H0 H [] w) (hR : ∀ (r0 : Bool) (H' : Hp) (w' : World) (_ : Inv w0 ps0 H0 H' [] w') (_ : K r0 H'), R (Value.bool r0) w') (h : T_gnomon_gnomonhelp_Longs x0 x1 H K) : F12 (vs x0) (vs x1) w R E := by
 unfold T_gnomon_gnomonhelp_Longs at h
 unfold F12
 refine opK_pu (pu_len_27 _ _ _) ?_
 refine opK_pu (pu_len_27 _ _ _) ?_
 refine opK_pu (pu_neq _ _ _ _ _ _) ?_
 refine xcond_n (fun c_27 => ?_) (fun c_27 => ?_)
 ·replace h := h.1 c_27
  exact hR false H _ I h
 ·replace h := h.2 c_27
  have hj1 : ∀ (H : Hp) (w : World) (_ : Inv w0 ps0 H0 H [] w) (_ : T_gnomon_gnomonhelp_Longs_j1 H K), F12_j1 w R E := by
   intro H w I h
   unfold F12_j1
   intro _
   unfold T_gnomon_gnomonhelp_Longs_j1 at h
   exact hR true H _ I h
  refine xcut_i fun j1 hx1 => ?_
  obtain ⟨J_19, m_20, i_21, b_22⟩ := h
  refine xloop_J (J := fun n l w => ∃ (s : Int) (H : Hp) , n = m_20 s ∧ l = [(vi s)] ∧ Inv w0 ps0 H0 H [] w ∧ J_19 s H) ⟨_, 0, H, rfl, rfl, I, i_21⟩ ?_
  rintro n_23 τ_24 w next2 ⟨s5l2, H, rfl, l_25, I, s_26⟩ hn2
  simp only [List.map_cons, List.map_nil, List.cons.injEq, and_true] at l_25
  have e5 := l_25
  simp only [e5]
  obtain ⟨n2, hm2, h⟩ : ∃ n2 : Int → Hp → Prop, (∀ s' H', n2 s' H' → J_19 s' H' ∧ m_20 s' < m_20 s5l2) ∧ T_gnomon_gnomonhelp_Longs_l2 x0 x1 s5l2 H n2 K := ⟨_, fun _ _ h => h, b_22 s5l2 H (fun s' H' => J_19 s' H' ∧ m_20 s' < m_20 s5l2) s_26 (fun _ _ a b => ⟨a, b⟩)⟩
  unfold F12_l2
  unfold T_gnomon_gnomonhelp_Longs_l2 at h
  refine opK_pu (pu_len_27 _ _ _) ?_
  refine opK_pu (pu_lss _ _ _ _ _ _) ?_
  refine xcond_p (fun c_18 => ?_) (fun c_18 => ?_)
  ·replace h := h.1 c_18
   refine s_dX I fun w_1 I_2 => ?_
   obtain ⟨h_6, h_7, x_3, h_9, h⟩ := h
   obtain ⟨g_4, o_5, h_8, h_9⟩ := h_9
   refine qP_pu (pu_ix_27 h_8 _ _ _ _ h_6 h_7) ?_
   obtain ⟨h_13, h_14, x_10, h_16, h⟩ := h
   obtain ⟨g_11, o_12, h_15, h_16⟩ := h_16
   refine qP_pu (pu_ix_27 h_15 _ _ _ _ h_13 h_14) ?_
   refine qL_ld (ld1 (v := (vi x_3)) Try.isAgg2 (I_2.atH h_9)) ?_
   refine qL_ld (ld1 (v := (vi x_10)) Try.isAgg2 (I_2.atH h_16)) ?_
   refine qP_pu (pu_neq _ _ _ _ _ _) ?_
   refine xcond_n (fun c_17 => ?_) (fun c_17 => ?_)
   ·replace h := h.1 c_17
    exact hR false H _ I_2 h
   ·replace h := h.2 c_17
    refine opK_pu (pu_add _ _ _ _ _ _) ?_
    exact hn2 _ _ _ (hm2 _ _ h).2 ⟨(IntKind.wrap .i64 (s5l2 + 1)), H, rfl, rfl, I_2, (hm2 _ _ h).1⟩
  ·replace h := h.2 c_18
   exact hx1 _ _ (hj1 H _ I h)
theorem L_gnomon_gnomonhelp_Longs (x0 : Sl) (x1 : Sl) {H : Hp} {K : Bool → Hp → Prop} (h : T_gnomon_gnomonhelp_Longs x0 x1 H K) : C_gnomon_gnomonhelp_Longs x0 x1 H K := by
 intro w I
 refine F12_ok ?_
 refine LF_gnomon_gnomonhelp_Longs x0 x1 I (fun r0 H' w' I' hk => ⟨H', _, I', r0, rfl, rfl, hk⟩) h


/- function 66: (*gnomon/step.state).place: its contract alone -/


end Go.Proofs.Ytgapepdglhcglaa
