/-
  Typed formulas of the program's functions, and the theorems that the contracts follow from them; printed by lift.py off the code.
-/
import Derived.Test.YtgapepdglhcglaaV1
namespace Go.Proofs.Ytgapepdglhcglaa
open Go.RowKit
set_option maxRecDepth 100000
set_option maxHeartbeats 2000000

/- function 80: gnomon/num.compares$1 -/
def T_gnomon_num_compares_1 (x0 : Int) (x1 : Int) (H : Hp) (K : Bool → Hp → Prop) : Prop :=
 K (decide (x0 < x1)) H
theorem LF_gnomon_num_compares_1 (x0 : Int) (x1 : Int) {w0 w : World} {ps0 : Nat → Prop} {H0 H : Hp} {K : Bool → Hp → Prop} {R : Value → World → Prop} {E : Pan} (I : Inv w0 ps0 H0 H [] w) (hR : ∀ (r0 : Bool) (H' : Hp) (w' : World) (_ : Inv w0 ps0 H0 H' [] w') (_ : K r0 H'), R (Value.bool r0) w') (h : T_gnomon_num_compares_1 x0 x1 H K) : F80 (vi x0) (vi x1) w R E := by
 unfold T_gnomon_num_compares_1 at h
 unfold F80
 refine opK_pu (pu_lss _ _ _ _ _ _) ?_
 exact hR (decide (x0 < x1)) H _ I h
theorem L_gnomon_num_compares_1 (x0 : Int) (x1 : Int) {H : Hp} {K : Bool → Hp → Prop} (h : T_gnomon_num_compares_1 x0 x1 H K) : C_gnomon_num_compares_1 x0 x1 H K := by
 intro w I
 refine F80_ok ?_
 refine LF_gnomon_num_compares_1 x0 x1 I (fun r0 H' w' I' hk => ⟨H', _, I', r0, rfl, rfl, hk⟩) h


/- function 85: gnomon/num.compares$6 -/
def T_gnomon_num_compares_6 (x0 : Int) (x1 : Int) (H : Hp) (K : Bool → Hp → Prop) : Prop :=
 K (decide (x1 ≤ x0)) H
theorem LF_gnomon_num_compares_6 (x0 : Int) (x1 : Int) {w0 w : World} {ps0 : Nat → Prop} {H0 H : Hp} {K : Bool → Hp → Prop} {R : Value → World → Prop} {E : Pan} (I : Inv w0 ps0 H0 H [] w) (hR : ∀ (r0 : Bool) (H' : Hp) (w' : World) (_ : Inv w0 ps0 H0 H' [] w') (_ : K r0 H'), R (Value.bool r0) w') (h : T_gnomon_num_compares_6 x0 x1 H K) : F85 (vi x0) (vi x1) w R E := by
 unfold T_gnomon_num_compares_6 at h
 unfold F85
 refine opK_pu (pu_geq _ _ _ _ _ _) ?_
 exact hR (decide (x1 ≤ x0)) H _ I h
theorem L_gnomon_num_compares_6 (x0 : Int) (x1 : Int) {H : Hp} {K : Bool → Hp → Prop} (h : T_gnomon_num_compares_6 x0 x1 H K) : C_gnomon_num_compares_6 x0 x1 H K := by
 intro w I
 refine F85_ok ?_
 refine LF_gnomon_num_compares_6 x0 x1 I (fun r0 H' w' I' hk => ⟨H', _, I', r0, rfl, rfl, hk⟩) h


/- function 31: (*gnomon/step.state).copies -/
def T_gnomon_step_state_copies (x0 : Tstep_state) (x0_3 : (List Int)) (x0_4 : (List (List Int))) (x0_6 : (List Tapi_Event)) (x1 : Tapi_Edge) (H : Hp) (K : Int → Tstep_state → (List Int) → (List (List Int)) → (List Tapi_Event) → Hp → Prop) : Prop :=
 C_gnomon_step_state_value (Tstep_state.mk x0.fc x0.ffrom x0.fpoint (Sl.mk none 0 0) (Sl.mk none 0 0) x0.fscript (Sl.mk none 0 0)) x0_3 x0_4 x0_6 x1.fA H (fun (r0_16 : Int) (H_8 : Hp) => 
 (0 : Int) ≤ x1.fDst ∧ ∃ x_17 : Int, (x0_3)[(x1.fDst : Int).toNat]? = some x_17 ∧
 K 0 (Tstep_state.mk x0.fc x0.ffrom x0.fpoint (Sl.mk none 0 0) (Sl.mk none 0 0) x0.fscript (Sl.mk none 0 0)) ((x0_3).set (x1.fDst : Int).toNat r0_16) x0_4 x0_6 H_8)
theorem LF_gnomon_step_state_copies (x0 : Tstep_state) (x0_3 : (List Int)) (x0_4 : (List (List Int))) (x0_6 : (List Tapi_Event)) (x1 : Tapi_Edge) (g0 : Nat) (sx0_3 : Sl) (Fx0_3 : Frag) (sx0_4 : Sl) (Fx0_4 : Frag) (sx0_6 : Sl) (Fx0_6 : Frag) (hx0_3 : RowL 2 1 cs_int64 sx0_3 x0_3 Fx0_3) (hx0_4 : RowsL 27 2 1 cs_int64 sx0_4 x0_4 Fx0_4) (hx0_6 : RowL 74 3 cs_api_Event sx0_6 x0_6 Fx0_6) {w0 w : World} {ps0 : Nat → Prop} {H0 H : Hp} {K : Int → Tstep_state → (List Int) → (List (List Int)) → (List Tapi_Event) → Hp → Prop} {R : Value → World → Prop} {E : Pan} (I : Inv w0 ps0 H0 H [bx g0 58 [(vs x0.fc.fVars), (vi x0.fc.fTemps), (vs x0.fc.fArrays), (vi x0.fc.fPoints), (vi x0.fc.fExit), (vs x0.fc.fEdges), (vs x0.ffrom), (vi x0.fpoint), (vs sx0_3), (vs sx0_4), (vs x0.fscript), (vs sx0_6)], Fx0_3, Fx0_4, Fx0_6] w) (hR : ∀ (r0 : Int) (y0 : Tstep_state) (y0_3 : (List Int)) (y0_4 : (List (List Int))) (y0_6 : (List Tapi_Event)) (sy0_3 : Sl) (Fy0_3 : Frag) (sy0_4 : Sl) (Fy0_4 : Frag) (sy0_6 : Sl) (Fy0_6 : Frag) (H' : Hp) (w' : World) (_ : RowL 2 1 cs_int64 sy0_3 y0_3 Fy0_3) (_ : RowsL 27 2 1 cs_int64 sy0_4 y0_4 Fy0_4) (_ : RowL 74 3 cs_api_Event sy0_6 y0_6 Fy0_6) (_ : Inv w0 ps0 H0 H' [bx g0 58 [(vs y0.fc.fVars), (vi y0.fc.fTemps), (vs y0.fc.fArrays), (vi y0.fc.fPoints), (vi y0.fc.fExit), (vs y0.fc.fEdges), (vs y0.ffrom), (vi y0.fpoint), (vs sy0_3), (vs sy0_4), (vs y0.fscript), (vs sy0_6)], Fy0_3, Fy0_4, Fy0_6] w') (_ : K r0 y0 y0_3 y0_4 y0_6 H'), R (vi r0) w') (h : T_gnomon_step_state_copies x0 x0_3 x0_4 x0_6 x1 H K) : F31 (Value.pointer (some ⟨g0, 0, none⟩)) (Value.agg (cs_api_Edge x1).toArray) w R E := by
 unfold T_gnomon_step_state_copies at h
 unfold F31
 refine s_box I (cs := (cs_api_Edge x1)) rfl fun g_2 w_3 I_4 k_5 => ?_
 refine s_dX I_4 fun w_6 I_7 => ?_
 refine qP_pu (pu_nilp _) ?_
 refine qP_pu pu_fa_58_3 ?_
 refine qP_pu pu_fa_52_3 ?_
 refine qP_pu pu_fa_52_6 ?_
 refine qL_ld (ld1 Try.isAgg27 ((I_7.bring 1).at1 (o := 8) (vs := [(vs sx0_3)]) (nb rfl) rfl)) ?_
 refine qL_ld (ld1 Try.isAgg3 (I_7.at1 (o := 3) (vs := [(vi x1.fDst)]) (nb rfl) rfl)) ?_
 refine qL_ld (ldA Try.isAgg50 Try.sizeOf50 rfl (I_7.at1 (o := 6) (vs := (cs_api_Operand x1.fA)) (nb rfl) rfl)) ?_
 refine opK_calls (cap := []) (fun args w => Try.call44 args w) ?_
 refine Cv_ct (Fi := [bx g0 58 [(vs x0.fc.fVars), (vi x0.fc.fTemps), (vs x0.fc.fArrays), (vi x0.fc.fPoints), (vi x0.fc.fExit), (vs x0.fc.fEdges), (vs x0.ffrom), (vi x0.fpoint), (vs sx0_3), (vs sx0_4), (vs x0.fscript), (vs sx0_6)], Fx0_3, Fx0_4, Fx0_6]) (Fr := [bx g_2 52 (cs_api_Edge x1)]) ((((I_7.bring 4).bring 4).bring 4).bring 4) (h g0 sx0_3 Fx0_3 sx0_4 Fx0_4 sx0_6 Fx0_6 hx0_3 hx0_4 hx0_6) (fun v_12 H_8 F_13 w_9 I_10 l_15 k_11 q_14 => ?_) (fun _ _ _ _ _ q => q.elim)
 obtain ⟨r0_16, rfl, rfl, h⟩ := q_14
 refine ⟨(k_11 _ I_7.lt1 (Inv.not_in (Fi := [bx g0 58 [(vs x0.fc.fVars), (vi x0.fc.fTemps), (vs x0.fc.fArrays), (vi x0.fc.fPoints), (vi x0.fc.fExit), (vs x0.fc.fEdges), (vs x0.ffrom), (vi x0.fpoint), (vs sx0_3), (vs sx0_4), (vs x0.fscript), (vs sx0_6)], Fx0_3, Fx0_4, Fx0_6]) ((((I_7.bring 4).bring 4).bring 4).bring 4))), ((I_10.bring 0).hp1.trans (I_7.bring 1).hp1.symm), ?_⟩
 obtain ⟨h_19, x_17, h_20, h⟩ := h
 obtain ⟨g_18, a_22, h_21, h_23⟩ := hx0_3.addr h_20
 refine qP_pu (pu_ix_27 h_21 _ _ _ _ h_19 (hx0_3.lt h_19 h_20)) ?_
 refine s_rowst (x := r0_16) (I_10.bring 1) hx0_3 h_21 (List.getElem?_eq_some_iff.1 h_20).1 Try.sizeOf2 rfl fun F_24 w_25 h_26 I_27 k_28 => ?_
 exact hR 0 (Tstep_state.mk x0.fc x0.ffrom x0.fpoint (Sl.mk none 0 0) (Sl.mk none 0 0) x0.fscript (Sl.mk none 0 0)) ((x0_3).set (x1.fDst : Int).toNat r0_16) x0_4 x0_6 sx0_3 F_24 sx0_4 Fx0_4 sx0_6 Fx0_6 H_8 _ h_26 hx0_4 hx0_6 (((((I_27.bring 4).drop.bring 3).bring 3).bring 2).bring 3) h
theorem L_gnomon_step_state_copies (x0 : Tstep_state) (x0_3 : (List Int)) (x0_4 : (List (List Int))) (x0_6 : (List Tapi_Event)) (x1 : Tapi_Edge) {H : Hp} {K : Int → Tstep_state → (List Int) → (List (List Int)) → (List Tapi_Event) → Hp → Prop} (h : T_gnomon_step_state_copies x0 x0_3 x0_4 x0_6 x1 H K) : C_gnomon_step_state_copies x0 x0_3 x0_4 x0_6 x1 H K := by
 intro g0 sx0_3 Fx0_3 sx0_4 Fx0_4 sx0_6 Fx0_6 hx0_3 hx0_4 hx0_6 w I
 refine F31_ok ?_
 refine LF_gnomon_step_state_copies x0 x0_3 x0_4 x0_6 x1 g0 sx0_3 Fx0_3 sx0_4 Fx0_4 sx0_6 Fx0_6 hx0_3 hx0_4 hx0_6 I (fun r0 y0 y0_3 y0_4 y0_6 sy0_3 Fy0_3 sy0_4 Fy0_4 sy0_6 Fy0_6 H' w' khy0_3 khy0_4 khy0_6 I' hk => ⟨H', _, I', r0, y0, y0_3, y0_4, y0_6, sy0_3, Fy0_3, sy0_4, Fy0_4, sy0_6, Fy0_6, rfl, rfl, khy0_3, khy0_4, khy0_6, hk⟩) h


/- function 60: gnomon/num.Neg -/
def T_gnomon_num_Neg (x0 : Int) (H : Hp) (K : Int → Int → Hp → Prop) : Prop :=
 C_gnomon_num_Sub 0 x0 H (fun (r0_9 : Int) (r1_9 : Int) (H_1 : Hp) => 
 K r0_9 r1_9 H_1)
theorem LF_gnomon_num_Neg (x0 : Int) {w0 w : World} {ps0 : Nat → Prop} {H0 H : Hp} {K : Int → Int → Hp → Prop} {R : Value → World → Prop} {E : Pan} (I : Inv w0 ps0 H0 H [] w) (hR : ∀ (r0 : Int) (r1 : Int) (H' : Hp) (w' : World) (_ : Inv w0 ps0 H0 H' [] w') (_ : K r0 r1 H'), R (Value.tuple #[(vi r0), (vi r1)]) w') (h : T_gnomon_num_Neg x0 H K) : F60 (vi x0) w R E := by
 unfold T_gnomon_num_Neg at h
 unfold F60
 refine opK_calls (cap := []) (fun args w => Try.call62 args w) ?_
 refine Cv_ct (Fi := []) (Fr := []) I (h) (fun v_5 H_1 F_6 w_2 I_3 l_8 k_4 q_7 => ?_) (fun _ _ _ _ _ q => q.elim)
 obtain ⟨r0_9, r1_9, rfl, rfl, h⟩ := q_7
 refine opK_pu (pu_extract _ _ _ rfl) ?_
 refine opK_pu (pu_extract _ _ _ rfl) ?_
 exact hR r0_9 r1_9 H_1 _ I_3 h
theorem L_gnomon_num_Neg (x0 : Int) {H : Hp} {K : Int → Int → Hp → Prop} (h : T_gnomon_num_Neg x0 H K) : C_gnomon_num_Neg x0 H K := by
 intro w I
 refine F60_ok ?_
 refine LF_gnomon_num_Neg x0 I (fun r0 r1 H' w' I' hk => ⟨H', _, I', r0, r1, rfl, rfl, hk⟩) h


/- function 33: (*gnomon/step.state).adds -/
def T_gnomon_step_state_adds (x0 : Tstep_state) (x0_3 : (List Int)) (x0_4 : (List (List Int))) (x0_6 : (List Tapi_Event)) (x1 : Tapi_Edge) (H : Hp) (K : Int → Tstep_state → (List Int) → (List (List Int)) → (List Tapi_Event) → Hp → Prop) : Prop :=
 C_gnomon_step_state_gives_of_gnomon_num_Add (Tstep_state.mk x0.fc x0.ffrom x0.fpoint (Sl.mk none 0 0) (Sl.mk none 0 0) x0.fscript (Sl.mk none 0 0)) x0_3 x0_4 x0_6 x1 H (fun (r0_14 : Int) (y0_14 : Tstep_state) (y0_3_14 : (List Int)) (y0_4_14 : (List (List Int))) (y0_6_14 : (List Tapi_Event)) (H_6 : Hp) => 
 K r0_14 (Tstep_state.mk ((y0_14).fc) ((y0_14).ffrom) ((y0_14).fpoint) (Sl.mk none 0 0) (Sl.mk none 0 0) ((y0_14).fscript) (Sl.mk none 0 0)) y0_3_14 y0_4_14 y0_6_14 H_6)
theorem LF_gnomon_step_state_adds (x0 : Tstep_state) (x0_3 : (List Int)) (x0_4 : (List (List Int))) (x0_6 : (List Tapi_Event)) (x1 : Tapi_Edge) (g0 : Nat) (sx0_3 : Sl) (Fx0_3 : Frag) (sx0_4 : Sl) (Fx0_4 : Frag) (sx0_6 : Sl) (Fx0_6 : Frag) (hx0_3 : RowL 2 1 cs_int64 sx0_3 x0_3 Fx0_3) (hx0_4 : RowsL 27 2 1 cs_int64 sx0_4 x0_4 Fx0_4) (hx0_6 : RowL 74 3 cs_api_Event sx0_6 x0_6 Fx0_6) {w0 w : World} {ps0 : Nat → Prop} {H0 H : Hp} {K : Int → Tstep_state → (List Int) → (List (List Int)) → (List Tapi_Event) → Hp → Prop} {R : Value → World → Prop} {E : Pan} (I : Inv w0 ps0 H0 H [bx g0 58 [(vs x0.fc.fVars), (vi x0.fc.fTemps), (vs x0.fc.fArrays), (vi x0.fc.fPoints), (vi x0.fc.fExit), (vs x0.fc.fEdges), (vs x0.ffrom), (vi x0.fpoint), (vs sx0_3), (vs sx0_4), (vs x0.fscript), (vs sx0_6)], Fx0_3, Fx0_4, Fx0_6] w) (hR : ∀ (r0 : Int) (y0 : Tstep_state) (y0_3 : (List Int)) (y0_4 : (List (List Int))) (y0_6 : (List Tapi_Event)) (sy0_3 : Sl) (Fy0_3 : Frag) (sy0_4 : Sl) (Fy0_4 : Frag) (sy0_6 : Sl) (Fy0_6 : Frag) (H' : Hp) (w' : World) (_ : RowL 2 1 cs_int64 sy0_3 y0_3 Fy0_3) (_ : RowsL 27 2 1 cs_int64 sy0_4 y0_4 Fy0_4) (_ : RowL 74 3 cs_api_Event sy0_6 y0_6 Fy0_6) (_ : Inv w0 ps0 H0 H' [bx g0 58 [(vs y0.fc.fVars), (vi y0.fc.fTemps), (vs y0.fc.fArrays), (vi y0.fc.fPoints), (vi y0.fc.fExit), (vs y0.fc.fEdges), (vs y0.ffrom), (vi y0.fpoint), (vs sy0_3), (vs sy0_4), (vs y0.fscript), (vs sy0_6)], Fy0_3, Fy0_4, Fy0_6] w') (_ : K r0 y0 y0_3 y0_4 y0_6 H'), R (vi r0) w') (h : T_gnomon_step_state_adds x0 x0_3 x0_4 x0_6 x1 H K) : F33 (Value.pointer (some ⟨g0, 0, none⟩)) (Value.agg (cs_api_Edge x1).toArray) w R E := by
 unfold T_gnomon_step_state_adds at h
 unfold F33
 refine s_box I (cs := (cs_api_Edge x1)) rfl fun g_2 w_3 I_4 k_5 => ?_
 refine opK_ld (ldA Try.isAgg52 Try.sizeOf52 rfl (I_4.at1 (o := 0) (vs := (cs_api_Edge x1)) (nb rfl) rfl)) ?_
 refine opK_calls (cap := []) (fun args w => Try.call58 args w) ?_
 refine Cv_ct (Fi := [bx g0 58 [(vs x0.fc.fVars), (vi x0.fc.fTemps), (vs x0.fc.fArrays), (vi x0.fc.fPoints), (vi x0.fc.fExit), (vs x0.fc.fEdges), (vs x0.ffrom), (vi x0.fpoint), (vs sx0_3), (vs sx0_4), (vs x0.fscript), (vs sx0_6)], Fx0_3, Fx0_4, Fx0_6]) (Fr := [bx g_2 52 (cs_api_Edge x1)]) ((((I_4.bring 4).bring 4).bring 4).bring 4) (h g0 sx0_3 Fx0_3 sx0_4 Fx0_4 sx0_6 Fx0_6 hx0_3 hx0_4 hx0_6) (fun v_10 H_6 F_11 w_7 I_8 l_13 k_9 q_12 => ?_) (fun _ _ _ _ _ q => q.elim)
 obtain ⟨r0_14, y0_14, y0_3_14, y0_4_14, y0_6_14, sy0_3_14, Fy0_3_14, sy0_4_14, Fy0_4_14, sy0_6_14, Fy0_6_14, rfl, rfl, hy0_3_14, hy0_4_14, hy0_6_14, h⟩ := q_12
 exact hR r0_14 (Tstep_state.mk ((y0_14).fc) ((y0_14).ffrom) ((y0_14).fpoint) (Sl.mk none 0 0) (Sl.mk none 0 0) ((y0_14).fscript) (Sl.mk none 0 0)) y0_3_14 y0_4_14 y0_6_14 sy0_3_14 Fy0_3_14 sy0_4_14 Fy0_4_14 sy0_6_14 Fy0_6_14 H_6 _ hy0_3_14 hy0_4_14 hy0_6_14 (((((I_8.bring 4).drop.bring 3).bring 3).bring 3).bring 3) h
theorem L_gnomon_step_state_adds (x0 : Tstep_state) (x0_3 : (List Int)) (x0_4 : (List (List Int))) (x0_6 : (List Tapi_Event)) (x1 : Tapi_Edge) {H : Hp} {K : Int → Tstep_state → (List Int) → (List (List Int)) → (List Tapi_Event) → Hp → Prop} (h : T_gnomon_step_state_adds x0 x0_3 x0_4 x0_6 x1 H K) : C_gnomon_step_state_adds x0 x0_3 x0_4 x0_6 x1 H K := by
 intro g0 sx0_3 Fx0_3 sx0_4 Fx0_4 sx0_6 Fx0_6 hx0_3 hx0_4 hx0_6 w I
 refine F33_ok ?_
 refine LF_gnomon_step_state_adds x0 x0_3 x0_4 x0_6 x1 g0 sx0_3 Fx0_3 sx0_4 Fx0_4 sx0_6 Fx0_6 hx0_3 hx0_4 hx0_6 I (fun r0 y0 y0_3 y0_4 y0_6 sy0_3 Fy0_3 sy0_4 Fy0_4 sy0_6 Fy0_6 H' w' khy0_3 khy0_4 khy0_6 I' hk => ⟨H', _, I', r0, y0, y0_3, y0_4, y0_6, sy0_3, Fy0_3, sy0_4, Fy0_4, sy0_6, Fy0_6, rfl, rfl, khy0_3, khy0_4, khy0_6, hk⟩) h


/- function 63: gnomon/num.Mul -/
def T_gnomon_num_Mul_j1 (s0j1 : Int) (s1j1 : Int) (s6j1 : Int) (s7j1 : Int) (s8j1 : Int) (H : Hp) (K : Int → Int → Hp → Prop) : Prop :=
 (((!decide (s6j1 = 0)) || (decide (s8j1 < s7j1))) = true →
 K 0 1 H) ∧
 (((!decide (s6j1 = 0)) || (decide (s8j1 < s7j1))) = false →
 K (IntKind.wrap .i64 (s0j1 * s1j1)) 0 H)
def T_gnomon_num_Mul (x0 : Int) (x1 : Int) (H : Hp) (K : Int → Int → Hp → Prop) : Prop :=
 C_gnomon_num_size x0 H (fun (r0_9 : Int) (H_1 : Hp) => 
 C_gnomon_num_size x1 H_1 (fun (r0_18 : Int) (H_10 : Hp) => 
 C_math_bits_Mul64 r0_9 r0_18 H_10 (fun (r0_27 : Int) (r1_27 : Int) (H_19 : Hp) => 
 (((decide (x0 < 0)) != (decide (x1 < 0))) = true →
 T_gnomon_num_Mul_j1 x0 x1 r0_27 r1_27 (IntKind.wrap .u64 (9223372036854775807 + 1)) H_19 K) ∧
 (((decide (x0 < 0)) != (decide (x1 < 0))) = false →
 T_gnomon_num_Mul_j1 x0 x1 r0_27 r1_27 9223372036854775807 H_19 K))))
theorem LF_gnomon_num_Mul (x0 : Int) (x1 : Int) {w0 w : World} {ps0 : Nat → Prop} {H0 H : Hp} {K : Int → Int → Hp → Prop} {R : Value → World → Prop} {E : Pan} (I : Inv w0 ps0 H0 H [] w) (hR : ∀ (r0 : Int) (r1 : Int) (H' : Hp) (w' : World) (_ : Inv w0 ps0 H0 H' [] w') (_ : K r0 r1 H'), R (Value.tuple #[(vi r0), (vi r1)]) w') (h : T_gnomon_num_Mul x0 x1 H K) : F63 (vi x0) (vi x1) w R E := by
 unfold T_gnomon_num_Mul at h
 unfold F63
 refine opK_calls (cap := []) (fun args w => Try.call77 args w) ?_
 refine Cv_ct (Fi := []) (Fr := []) I (h) (fun v_5 H_1 F_6 w_2 I_3 l_8 k_4 q_7 => ?_) (fun _ _ _ _ _ q => q.elim)
 obtain ⟨r0_9, rfl, rfl, h⟩ := q_7
 refine opK_calls (cap := []) (fun args w => Try.call77 args w) ?_
 refine Cv_ct (Fi := []) (Fr := []) I_3 (h) (fun v_14 H_10 F_15 w_11 I_12 l_17 k_13 q_16 => ?_) (fun _ _ _ _ _ q => q.elim)
 obtain ⟨r0_18, rfl, rfl, h⟩ := q_16
 refine opK_calls (cap := []) (fun args w => Try.call76 args w) ?_
 refine Cv_ct (Fi := []) (Fr := []) I_12 (h) (fun v_23 H_19 F_24 w_20 I_21 l_26 k_22 q_25 => ?_) (fun _ _ _ _ _ q => q.elim)
 obtain ⟨r0_27, r1_27, rfl, rfl, h⟩ := q_25
 refine opK_pu (pu_extract _ _ _ rfl) ?_
 refine opK_pu (pu_extract _ _ _ rfl) ?_
 have hj1 : ∀ (s8j1 : Int) (H : Hp) (w : World) (_ : Inv w0 ps0 H0 H [] w) (_ : T_gnomon_num_Mul_j1 x0 x1 r0_27 r1_27 s8j1 H K), F63_j1 (vi x0) (vi x1) (Value.int .u64 r0_27) (Value.int .u64 r1_27) (Value.int .u64 s8j1) w R E := by
  intro s8j1 H w I h
  unfold F63_j1
  intro _
  unfold T_gnomon_num_Mul_j1 at h
  refine opK_pu (pu_neq _ _ _ _ _ _) ?_
  try simp only [gval_b]
  try simp only [gval_b, gv_gv, gvl_tt, gvl_tf, gvl_ft, gvl_ff, gvg_tt, gvg_tf, gvg_ft, gvg_ff]
  refine opK_pu (Pu.g fun hb => by have hb_0 := hb; first | exact (pu_gtr _ _ _ _ _ _) | (simp only [gv_t hb_0]; exact (pu_gtr _ _ _ _ _ _)) | (simp only [gval_t hb_0, gv_t hb_0, gv_t hb, gva_ff hb_0, gv_n]; exact (pu_gtr _ _ _ _ _ _))) ?_
  refine opK_pu (pu_or _ _) ?_
  refine xcond_b (fun c_28 => ?_) (fun c_28 => ?_)
  ·replace h := h.1 c_28
   exact hR 0 1 H _ I h
  ·replace h := h.2 c_28
   refine opK_pu (pu_mul _ _ _ _ _ _) ?_
   exact hR (IntKind.wrap .i64 (x0 * x1)) 0 H _ I h
 refine xcut_i fun j1 hx1 => ?_
 refine opK_pu (pu_lss _ _ _ _ _ _) ?_
 refine opK_pu (pu_lss _ _ _ _ _ _) ?_
 refine opK_pu (pu_neb_4 _ _ _ _) ?_
 refine xcond_b (fun c_29 => ?_) (fun c_29 => ?_)
 ·replace h := h.1 c_29
  refine opK_pu (pu_add _ _ _ _ _ _) ?_
  exact hx1 _ _ (hj1 (IntKind.wrap .u64 (9223372036854775807 + 1)) H_19 _ I_21 h)
 ·replace h := h.2 c_29
  exact hx1 _ _ (hj1 9223372036854775807 H_19 _ I_21 h)
theorem L_gnomon_num_Mul (x0 : Int) (x1 : Int) {H : Hp} {K : Int → Int → Hp → Prop} (h : T_gnomon_num_Mul x0 x1 H K) : C_gnomon_num_Mul x0 x1 H K := by
 intro w I
 refine F63_ok ?_
 refine LF_gnomon_num_Mul x0 x1 I (fun r0 r1 H' w' I' hk => ⟨H', _, I', r0, r1, rfl, rfl, hk⟩) h


/- function 65: gnomon/num.Rem -/
def T_gnomon_num_Rem (x0 : Int) (x1 : Int) (H : Hp) (K : Int → Int → Hp → Prop) : Prop :=
 C_gnomon_num_divides x0 x1 H (fun (r0_9 : Int) (H_1 : Hp) => 
 (¬ (r0_9 = 0) →
 K 0 r0_9 H_1) ∧
 (r0_9 = 0 →
 x1 ≠ 0 ∧
 K (Int.tmod x0 x1) 0 H_1))
theorem LF_gnomon_num_Rem (x0 : Int) (x1 : Int) {w0 w : World} {ps0 : Nat → Prop} {H0 H : Hp} {K : Int → Int → Hp → Prop} {R : Value → World → Prop} {E : Pan} (I : Inv w0 ps0 H0 H [] w) (hR : ∀ (r0 : Int) (r1 : Int) (H' : Hp) (w' : World) (_ : Inv w0 ps0 H0 H' [] w') (_ : K r0 r1 H'), R (Value.tuple #[(vi r0), (vi r1)]) w') (h : T_gnomon_num_Rem x0 x1 H K) : F65 (vi x0) (vi x1) w R E := by
 unfold T_gnomon_num_Rem at h
 unfold F65
 refine opK_calls (cap := []) (fun args w => Try.call78 args w) ?_
 refine Cv_ct (Fi := []) (Fr := []) I (h) (fun v_5 H_1 F_6 w_2 I_3 l_8 k_4 q_7 => ?_) (fun _ _ _ _ _ q => q.elim)
 obtain ⟨r0_9, rfl, rfl, h⟩ := q_7
 refine opK_pu (pu_neq _ _ _ _ _ _) ?_
 refine xcond_n (fun c_11 => ?_) (fun c_11 => ?_)
 ·replace h := h.1 c_11
  exact hR 0 r0_9 H_1 _ I_3 h
 ·replace h := h.2 c_11
  obtain ⟨h_10, h⟩ := h
  refine opK_pu (pu_rem _ _ _ _ _ _ h_10) ?_
  exact hR (Int.tmod x0 x1) 0 H_1 _ I_3 h
theorem L_gnomon_num_Rem (x0 : Int) (x1 : Int) {H : Hp} {K : Int → Int → Hp → Prop} (h : T_gnomon_num_Rem x0 x1 H K) : C_gnomon_num_Rem x0 x1 H K := by
 intro w I
 refine F65_ok ?_
 refine LF_gnomon_num_Rem x0 x1 I (fun r0 r1 H' w' I' hk => ⟨H', _, I', r0, r1, rfl, rfl, hk⟩) h


/- function 58: (*gnomon/step.state).gives -/
def T_gnomon_step_state_gives_of_gnomon_num_Rem_j1 (s8j1 : Int) (cp0j1_0 : Tapi_Cfg) (cp0j1_1 : Sl) (cp0j1_2 : Int) (ccp0j1_3 : (List Int)) (ccp0j1_4 : (List (List Int))) (cp0j1_5 : Sl) (ccp0j1_6 : (List Tapi_Event)) (_cr_1j1 : Tapi_Edge) (H : Hp) (K : Int → Tstep_state → (List Int) → (List (List Int)) → (List Tapi_Event) → Hp → Prop) : Prop :=
 K s8j1 (Tstep_state.mk cp0j1_0 cp0j1_1 cp0j1_2 (Sl.mk none 0 0) (Sl.mk none 0 0) cp0j1_5 (Sl.mk none 0 0)) ccp0j1_3 ccp0j1_4 ccp0j1_6 H
def T_gnomon_step_state_gives_of_gnomon_num_Rem (x0 : Tstep_state) (x0_3 : (List Int)) (x0_4 : (List (List Int))) (x0_6 : (List Tapi_Event)) (x1 : Tapi_Edge) (H : Hp) (K : Int → Tstep_state → (List Int) → (List (List Int)) → (List Tapi_Event) → Hp → Prop) : Prop :=
 C_gnomon_step_state_value (Tstep_state.mk x0.fc x0.ffrom x0.fpoint (Sl.mk none 0 0) (Sl.mk none 0 0) x0.fscript (Sl.mk none 0 0)) x0_3 x0_4 x0_6 x1.fA H (fun (r0_16 : Int) (H_8 : Hp) => 
 C_gnomon_step_state_value (Tstep_state.mk x0.fc x0.ffrom x0.fpoint (Sl.mk none 0 0) (Sl.mk none 0 0) x0.fscript (Sl.mk none 0 0)) x0_3 x0_4 x0_6 x1.fB H_8 (fun (r0_25 : Int) (H_17 : Hp) => 
 C_gnomon_num_Rem r0_16 r0_25 H_17 (fun (r0_34 : Int) (r1_34 : Int) (H_26 : Hp) => 
 (r1_34 = 0 →
 (0 : Int) ≤ x1.fDst ∧ ∃ x_37 : Int, (x0_3)[(x1.fDst : Int).toNat]? = some x_37 ∧
 T_gnomon_step_state_gives_of_gnomon_num_Rem_j1 r1_34 x0.fc x0.ffrom x0.fpoint ((x0_3).set (x1.fDst : Int).toNat r0_34) x0_4 x0.fscript x0_6 x1 H_26 K) ∧
 (¬ (r1_34 = 0) →
 T_gnomon_step_state_gives_of_gnomon_num_Rem_j1 r1_34 x0.fc x0.ffrom x0.fpoint x0_3 x0_4 x0.fscript x0_6 x1 H_26 K))))
theorem LF_gnomon_step_state_gives_of_gnomon_num_Rem (x0 : Tstep_state) (x0_3 : (List Int)) (x0_4 : (List (List Int))) (x0_6 : (List Tapi_Event)) (x1 : Tapi_Edge) (g0 : Nat) (sx0_3 : Sl) (Fx0_3 : Frag) (sx0_4 : Sl) (Fx0_4 : Frag) (sx0_6 : Sl) (Fx0_6 : Frag) (hx0_3 : RowL 2 1 cs_int64 sx0_3 x0_3 Fx0_3) (hx0_4 : RowsL 27 2 1 cs_int64 sx0_4 x0_4 Fx0_4) (hx0_6 : RowL 74 3 cs_api_Event sx0_6 x0_6 Fx0_6) {w0 w : World} {ps0 : Nat → Prop} {H0 H : Hp} {K : Int → Tstep_state → (List Int) → (List (List Int)) → (List Tapi_Event) → Hp → Prop} {R : Value → World → Prop} {E : Pan} (I : Inv w0 ps0 H0 H [bx g0 58 [(vs x0.fc.fVars), (vi x0.fc.fTemps), (vs x0.fc.fArrays), (vi x0.fc.fPoints), (vi x0.fc.fExit), (vs x0.fc.fEdges), (vs x0.ffrom), (vi x0.fpoint), (vs sx0_3), (vs sx0_4), (vs x0.fscript), (vs sx0_6)], Fx0_3, Fx0_4, Fx0_6] w) (hR : ∀ (r0 : Int) (y0 : Tstep_state) (y0_3 : (List Int)) (y0_4 : (List (List Int))) (y0_6 : (List Tapi_Event)) (sy0_3 : Sl) (Fy0_3 : Frag) (sy0_4 : Sl) (Fy0_4 : Frag) (sy0_6 : Sl) (Fy0_6 : Frag) (H' : Hp) (w' : World) (_ : RowL 2 1 cs_int64 sy0_3 y0_3 Fy0_3) (_ : RowsL 27 2 1 cs_int64 sy0_4 y0_4 Fy0_4) (_ : RowL 74 3 cs_api_Event sy0_6 y0_6 Fy0_6) (_ : Inv w0 ps0 H0 H' [bx g0 58 [(vs y0.fc.fVars), (vi y0.fc.fTemps), (vs y0.fc.fArrays), (vi y0.fc.fPoints), (vi y0.fc.fExit), (vs y0.fc.fEdges), (vs y0.ffrom), (vi y0.fpoint), (vs sy0_3), (vs sy0_4), (vs y0.fscript), (vs sy0_6)], Fy0_3, Fy0_4, Fy0_6] w') (_ : K r0 y0 y0_3 y0_4 y0_6 H'), R (vi r0) w') (h : T_gnomon_step_state_gives_of_gnomon_num_Rem x0 x0_3 x0_4 x0_6 x1 H K) : F58 (Value.pointer (some ⟨g0, 0, none⟩)) (Value.agg (cs_api_Edge x1).toArray) (Value.func (.func 65) #[] #[]) w R E := by
 unfold T_gnomon_step_state_gives_of_gnomon_num_Rem at h
 unfold F58
 refine s_box I (cs := (cs_api_Edge x1)) rfl fun g_2 w_3 I_4 k_5 => ?_
 refine s_dX I_4 fun w_6 I_7 => ?_
 refine qP_pu pu_fa_52_6 ?_
 refine qP_pu pu_fa_52_7 ?_
 refine qL_ld (ldA Try.isAgg50 Try.sizeOf50 rfl (I_7.at1 (o := 6) (vs := (cs_api_Operand x1.fA)) (nb rfl) rfl)) ?_
 refine qL_ld (ldA Try.isAgg50 Try.sizeOf50 rfl (I_7.at1 (o := 8) (vs := (cs_api_Operand x1.fB)) (nb rfl) rfl)) ?_
 refine opK_calls (cap := []) (fun args w => Try.call44 args w) ?_
 refine Cv_ct (Fi := [bx g0 58 [(vs x0.fc.fVars), (vi x0.fc.fTemps), (vs x0.fc.fArrays), (vi x0.fc.fPoints), (vi x0.fc.fExit), (vs x0.fc.fEdges), (vs x0.ffrom), (vi x0.fpoint), (vs sx0_3), (vs sx0_4), (vs x0.fscript), (vs sx0_6)], Fx0_3, Fx0_4, Fx0_6]) (Fr := [bx g_2 52 (cs_api_Edge x1)]) ((((I_7.bring 4).bring 4).bring 4).bring 4) (h g0 sx0_3 Fx0_3 sx0_4 Fx0_4 sx0_6 Fx0_6 hx0_3 hx0_4 hx0_6) (fun v_12 H_8 F_13 w_9 I_10 l_15 k_11 q_14 => ?_) (fun _ _ _ _ _ q => q.elim)
 obtain ⟨r0_16, rfl, rfl, h⟩ := q_14
 refine ⟨(k_11 _ I_7.lt1 (Inv.not_in (Fi := [bx g0 58 [(vs x0.fc.fVars), (vi x0.fc.fTemps), (vs x0.fc.fArrays), (vi x0.fc.fPoints), (vi x0.fc.fExit), (vs x0.fc.fEdges), (vs x0.ffrom), (vi x0.fpoint), (vs sx0_3), (vs sx0_4), (vs x0.fscript), (vs sx0_6)], Fx0_3, Fx0_4, Fx0_6]) ((((I_7.bring 4).bring 4).bring 4).bring 4))), ?_⟩
 refine opK_calls (cap := []) (fun args w => Try.call44 args w) ?_
 refine Cv_ct (Fi := [bx g0 58 [(vs x0.fc.fVars), (vi x0.fc.fTemps), (vs x0.fc.fArrays), (vi x0.fc.fPoints), (vi x0.fc.fExit), (vs x0.fc.fEdges), (vs x0.ffrom), (vi x0.fpoint), (vs sx0_3), (vs sx0_4), (vs x0.fscript), (vs sx0_6)], Fx0_3, Fx0_4, Fx0_6]) (Fr := [bx g_2 52 (cs_api_Edge x1)]) ((((I_10.bring 3).bring 3).bring 3).bring 3) (h g0 sx0_3 Fx0_3 sx0_4 Fx0_4 sx0_6 Fx0_6 hx0_3 hx0_4 hx0_6) (fun v_21 H_17 F_22 w_18 I_19 l_24 k_20 q_23 => ?_) (fun _ _ _ _ _ q => q.elim)
 obtain ⟨r0_25, rfl, rfl, h⟩ := q_23
 refine opK_calls (cap := []) (fun args w => Try.call65 args w) ?_
 refine Cv_ct (Fi := []) (Fr := [bx g0 58 [(vs x0.fc.fVars), (vi x0.fc.fTemps), (vs x0.fc.fArrays), (vi x0.fc.fPoints), (vi x0.fc.fExit), (vs x0.fc.fEdges), (vs x0.ffrom), (vi x0.fpoint), (vs sx0_3), (vs sx0_4), (vs x0.fscript), (vs sx0_6)], Fx0_3, Fx0_4, Fx0_6, bx g_2 52 (cs_api_Edge x1)]) I_19 (h) (fun v_30 H_26 F_31 w_27 I_28 l_33 k_29 q_32 => ?_) (fun _ _ _ _ _ q => q.elim)
 obtain ⟨r0_34, r1_34, rfl, rfl, h⟩ := q_32
 refine qP_pu (pu_extract _ _ _ rfl) ?_
 refine qP_pu (pu_extract _ _ _ rfl) ?_
 have hj1 : ∀ (cp0j1_0 : Tapi_Cfg) (cp0j1_1 : Sl) (cp0j1_2 : Int) (ccp0j1_3 : (List Int)) (cp0j1_5 : Sl) (Fcp0j1_3 : Frag) (H : Hp) (w : World) (_ : RowL 2 1 cs_int64 sx0_3 ccp0j1_3 Fcp0j1_3) (_ : Inv w0 ps0 H0 H [bx g0 58 [(vs cp0j1_0.fVars), (vi cp0j1_0.fTemps), (vs cp0j1_0.fArrays), (vi cp0j1_0.fPoints), (vi cp0j1_0.fExit), (vs cp0j1_0.fEdges), (vs cp0j1_1), (vi cp0j1_2), (vs sx0_3), (vs sx0_4), (vs cp0j1_5), (vs sx0_6)], bx g_2 52 (cs_api_Edge x1), Fx0_4, Fx0_6, Fcp0j1_3] w) (_ : T_gnomon_step_state_gives_of_gnomon_num_Rem_j1 r1_34 cp0j1_0 cp0j1_1 cp0j1_2 ccp0j1_3 x0_4 cp0j1_5 x0_6 x1 H K), F58_j1 (vi r1_34) w R E := by
  intro cp0j1_0 cp0j1_1 cp0j1_2 ccp0j1_3 cp0j1_5 Fcp0j1_3 H w hcp0j1_3 I h
  unfold F58_j1
  intro _
  unfold T_gnomon_step_state_gives_of_gnomon_num_Rem_j1 at h
  exact hR r1_34 (Tstep_state.mk cp0j1_0 cp0j1_1 cp0j1_2 (Sl.mk none 0 0) (Sl.mk none 0 0) cp0j1_5 (Sl.mk none 0 0)) ccp0j1_3 x0_4 x0_6 sx0_3 Fcp0j1_3 sx0_4 Fx0_4 sx0_6 Fx0_6 H _ hcp0j1_3 hx0_4 hx0_6 (((((I.bring 1).drop.bring 2).bring 2).bring 3).bring 3) h
 refine xcut_i fun j1 hx1 => ?_
 refine opK_pu (pu_eql _ _ _ _ _ _) ?_
 refine xcond_p (fun c_49 => ?_) (fun c_49 => ?_)
 ·replace h := h.1 c_49
  refine s_dX I_28 fun w_35 I_36 => ?_
  refine qP_pu (pu_nilp _) ?_
  refine qP_pu pu_fa_58_3 ?_
  refine qP_pu pu_fa_52_3 ?_
  refine qL_ld (ld1 Try.isAgg27 (I_36.at1 (o := 8) (vs := [(vs sx0_3)]) (nb rfl) rfl)) ?_
  refine qL_ld (ld1 Try.isAgg3 ((I_36.bring 4).at1 (o := 3) (vs := [(vi x1.fDst)]) (nb rfl) rfl)) ?_
  obtain ⟨h_39, x_37, h_40, h⟩ := h
  obtain ⟨g_38, a_42, h_41, h_43⟩ := hx0_3.addr h_40
  refine qP_pu (pu_ix_27 h_41 _ _ _ _ h_39 (hx0_3.lt h_39 h_40)) ?_
  refine s_rowst (x := r0_34) (I_36.bring 1) hx0_3 h_41 (List.getElem?_eq_some_iff.1 h_40).1 Try.sizeOf2 rfl fun F_44 w_45 h_46 I_47 k_48 => ?_
  exact hx1 _ _ (hj1 x0.fc x0.ffrom x0.fpoint ((x0_3).set (x1.fDst : Int).toNat r0_34) x0.fscript F_44 H_26 _ h_46 ((((I_47.bring 3).bring 3).bring 4).bring 4) h)
 ·replace h := h.2 c_49
  exact hx1 _ _ (hj1 x0.fc x0.ffrom x0.fpoint x0_3 x0.fscript Fx0_3 H_26 _ hx0_3 (((((I_28.bring 1).bring 3).bring 3).bring 4).bring 4) h)
theorem L_gnomon_step_state_gives_of_gnomon_num_Rem (x0 : Tstep_state) (x0_3 : (List Int)) (x0_4 : (List (List Int))) (x0_6 : (List Tapi_Event)) (x1 : Tapi_Edge) {H : Hp} {K : Int → Tstep_state → (List Int) → (List (List Int)) → (List Tapi_Event) → Hp → Prop} (h : T_gnomon_step_state_gives_of_gnomon_num_Rem x0 x0_3 x0_4 x0_6 x1 H K) : C_gnomon_step_state_gives_of_gnomon_num_Rem x0 x0_3 x0_4 x0_6 x1 H K := by
 intro g0 sx0_3 Fx0_3 sx0_4 Fx0_4 sx0_6 Fx0_6 hx0_3 hx0_4 hx0_6 w I
 refine F58_ok ?_
 refine LF_gnomon_step_state_gives_of_gnomon_num_Rem x0 x0_3 x0_4 x0_6 x1 g0 sx0_3 Fx0_3 sx0_4 Fx0_4 sx0_6 Fx0_6 hx0_3 hx0_4 hx0_6 I (fun r0 y0 y0_3 y0_4 y0_6 sy0_3 Fy0_3 sy0_4 Fy0_4 sy0_6 Fy0_6 H' w' khy0_3 khy0_4 khy0_6 I' hk => ⟨H', _, I', r0, y0, y0_3, y0_4, y0_6, sy0_3, Fy0_3, sy0_4, Fy0_4, sy0_6, Fy0_6, rfl, rfl, khy0_3, khy0_4, khy0_6, hk⟩) h


/- function 29: gnomon/cfg.goes -/
def T_gnomon_cfg_goes_j1 (cr_29j1 : Tapi_Edge) (cr_24j1 : Tapi_Edge) (H : Hp) (K : Bool → Hp → Prop) : Prop :=
 TG (((((decide (cr_24j1.fKind = 12)) && (decide (cr_29j1.fKind = 12))) && (decide (cr_24j1.fA.fVar = cr_29j1.fA.fVar ∧ cr_24j1.fA.fNum = cr_29j1.fA.fNum))) && (decide (cr_24j1.fB.fVar = cr_29j1.fB.fVar ∧ cr_24j1.fB.fNum = cr_29j1.fB.fNum))) = true) (C_gnomon_num_Not cr_24j1.fOp H) 0 H (fun (r0_50 : Int) (H_42 : Hp) =>
 K (((((decide (cr_24j1.fKind = 12)) && (decide (cr_29j1.fKind = 12))) && (decide (cr_24j1.fA.fVar = cr_29j1.fA.fVar ∧ cr_24j1.fA.fNum = cr_29j1.fA.fNum))) && (decide (cr_24j1.fB.fVar = cr_29j1.fB.fVar ∧ cr_24j1.fB.fNum = cr_29j1.fB.fNum))) && (decide (cr_29j1.fOp = r0_50))) H_42)
def T_gnomon_cfg_goes (x0 : Sl) (H : Hp) (K : Bool → Hp → Prop) : Prop :=
 ((x0.n : Int) = 0 →
 K true H) ∧
 (¬ ((x0.n : Int) = 0) →
 ((x0.n : Int) = 1 →
 (0 : Int) ≤ 0 ∧ (0 : Int) < x0.n ∧ ∃ x_1 : Tapi_Edge, EltH H x0 0 10 (cs_api_Edge x_1) ∧ 
 K (!decide (x_1.fKind = 12)) H) ∧
 (¬ ((x0.n : Int) = 1) →
 ((x0.n : Int) = 2 →
 (0 : Int) ≤ 0 ∧ (0 : Int) < x0.n ∧ ∃ x_10 : Tapi_Edge, EltH H x0 0 10 (cs_api_Edge x_10) ∧ 
 (0 : Int) ≤ 1 ∧ (1 : Int) < x0.n ∧ ∃ x_17 : Tapi_Edge, EltH H x0 1 10 (cs_api_Edge x_17) ∧ 
 T_gnomon_cfg_goes_j1 x_17 x_10 H K) ∧
 (¬ ((x0.n : Int) = 2) →
 K false H)))
theorem LF_gnomon_cfg_goes (x0 : Sl) {w0 w : World} {ps0 : Nat → Prop} {H0 H : Hp} {K : Bool → Hp → Prop} {R : Value → World → Prop} {E : Pan} (I : Inv w0 ps0 H0 H [] w) (hR : ∀ (r0 : Bool) (H' : Hp) (w' : World) (_ : Inv w0 ps0 H0 H' [] w') (_ : K r0 H'), R (Value.bool r0) w') (h : T_gnomon_cfg_goes x0 H K) : F29 (vs x0) w R E := by
 unfold T_gnomon_cfg_goes at h
 unfold F29
 refine opK_pu (pu_len_24 _ _ _) ?_
 refine opK_pu (pu_eql _ _ _ _ _ _) ?_
 refine xcond_p (fun c_70 => ?_) (fun c_70 => ?_)
 ·replace h := h.1 c_70
  exact hR true H _ I h
 ·replace h := h.2 c_70
  refine opK_pu (pu_eql _ _ _ _ _ _) ?_
  refine xcond_p (fun c_69 => ?_) (fun c_69 => ?_)
  ·replace h := h.1 c_69
   obtain ⟨h_4, h_5, x_1, h_7, h⟩ := h
   obtain ⟨g_2, o_3, h_6, h_7⟩ := h_7
   refine opK_pu (pu_ix_24 h_6 _ _ _ _ h_4 h_5) ?_
   refine opK_pu pu_fa_52_2 ?_
   refine opK_ld (ld1 (v := (vi x_1.fKind)) Try.isAgg3 ((I.atH h_7).sub (k := 2) (n := 1) (nb rfl))) ?_
   refine opK_pu (pu_neq _ _ _ _ _ _) ?_
   exact hR (!decide (x_1.fKind = 12)) H _ I h
  ·replace h := h.2 c_69
   refine opK_pu (pu_eql _ _ _ _ _ _) ?_
   refine xcond_p (fun c_68 => ?_) (fun c_68 => ?_)
   ·replace h := h.1 c_68
    have hj1 : ∀ (cr_29j1 : Tapi_Edge) (cr_24j1 : Tapi_Edge) (gbr_29j1 : Nat) (gbr_24j1 : Nat) (H : Hp) (w : World) (_ : Inv w0 ps0 H0 H [bx gbr_29j1 52 (cs_api_Edge cr_29j1), bx gbr_24j1 52 (cs_api_Edge cr_24j1)] w) (_ : T_gnomon_cfg_goes_j1 cr_29j1 cr_24j1 H K), F29_j1 (Value.pointer (some ⟨gbr_24j1, 0, none⟩)) (Value.pointer (some ⟨gbr_29j1, 0, none⟩)) w R E := by
     intro cr_29j1 cr_24j1 gbr_29j1 gbr_24j1 H w I h
     unfold F29_j1
     intro _
     unfold T_gnomon_cfg_goes_j1 at h
     refine s_dX I fun w_40 I_41 => ?_
     refine qP_pu pu_fa_52_2 ?_
     refine qL_ld (ld1 Try.isAgg3 ((I_41.bring 1).at1 (o := 2) (vs := [(vi cr_24j1.fKind)]) (nb rfl) rfl)) ?_
     refine qP_pu (pu_eql _ _ _ _ _ _) ?_
     refine qP_pu (Pu.g fun hb => by have hb_0 := hb; first | exact pu_fa_52_2 | (simp only [gval_t hb_0, gv_t hb_0, gv_t hb, gva_tt hb_0]; exact pu_fa_52_2) | (simp only [gval_t hb_0, gv_t hb_0, gv_t hb, gva_tf hb_0, gv_n]; exact pu_fa_52_2)) ?_
     refine qL_g (p := (Value.pointer (some ⟨gbr_29j1, 2, none⟩))) rfl (Ld.g fun hb => by have hb_0 := hb; first | exact (ld1 Try.isAgg3 (I_41.at1 (o := 2) (vs := [(vi cr_29j1.fKind)]) (nb rfl) rfl)) | (simp only [gv_t hb_0]; exact (ld1 Try.isAgg3 (I_41.at1 (o := 2) (vs := [(vi cr_29j1.fKind)]) (nb rfl) rfl))) | (simp only [gval_t hb_0, gv_t hb_0, gv_t hb, gva_tf hb_0, gv_n]; exact (ld1 Try.isAgg3 (I_41.at1 (o := 2) (vs := [(vi cr_29j1.fKind)]) (nb rfl) rfl)))) ?_
     refine qP_pu (Pu.g fun hb => by have hb_0 := hb; first | exact (pu_eql _ _ _ _ _ _) | (simp only [gv_t hb_0]; exact (pu_eql _ _ _ _ _ _)) | (simp only [gval_t hb_0, gv_t hb_0, gv_t hb, gva_tf hb_0, gv_n]; exact (pu_eql _ _ _ _ _ _))) ?_
     refine qP_pu (pu_and _ _) ?_
     refine qP_pu (Pu.g fun hb => by have hb_0 := hb; first | exact pu_fa_52_6 | (simp only [gval_t hb_0, gv_t hb_0, gv_t hb, gva_tt hb_0]; exact pu_fa_52_6) | (simp only [gval_t hb_0, gv_t hb_0, gv_t hb, gva_tf hb_0, gv_n]; exact pu_fa_52_6)) ?_
     refine qP_pu (Pu.g fun hb => by have hb_0 := hb; first | exact pu_fa_52_6 | (simp only [gval_t hb_0, gv_t hb_0, gv_t hb, gva_tt hb_0]; exact pu_fa_52_6) | (simp only [gval_t hb_0, gv_t hb_0, gv_t hb, gva_tf hb_0, gv_n]; exact pu_fa_52_6)) ?_
     refine qL_g (p := (Value.pointer (some ⟨gbr_24j1, 6, none⟩))) rfl (Ld.g fun hb => by have hb_0 := hb; first | exact (ldA Try.isAgg50 Try.sizeOf50 rfl ((I_41.bring 1).at1 (o := 6) (vs := (cs_api_Operand cr_24j1.fA)) (nb rfl) rfl)) | (simp only [gv_t hb_0]; exact (ldA Try.isAgg50 Try.sizeOf50 rfl ((I_41.bring 1).at1 (o := 6) (vs := (cs_api_Operand cr_24j1.fA)) (nb rfl) rfl))) | (simp only [gval_t hb_0, gv_t hb_0, gv_t hb, gva_tf hb_0, gv_n]; exact (ldA Try.isAgg50 Try.sizeOf50 rfl ((I_41.bring 1).at1 (o := 6) (vs := (cs_api_Operand cr_24j1.fA)) (nb rfl) rfl)))) ?_
     refine qL_g (p := (Value.pointer (some ⟨gbr_29j1, 6, none⟩))) rfl (Ld.g fun hb => by have hb_0 := hb; first | exact (ldA Try.isAgg50 Try.sizeOf50 rfl (I_41.at1 (o := 6) (vs := (cs_api_Operand cr_29j1.fA)) (nb rfl) rfl)) | (simp only [gv_t hb_0]; exact (ldA Try.isAgg50 Try.sizeOf50 rfl (I_41.at1 (o := 6) (vs := (cs_api_Operand cr_29j1.fA)) (nb rfl) rfl))) | (simp only [gval_t hb_0, gv_t hb_0, gv_t hb, gva_tf hb_0, gv_n]; exact (ldA Try.isAgg50 Try.sizeOf50 rfl (I_41.at1 (o := 6) (vs := (cs_api_Operand cr_29j1.fA)) (nb rfl) rfl)))) ?_
     refine qP_pu (Pu.g fun hb => by have hb_0 := hb; first | exact (pu_eq_50 _ _ _ _ _ _) | (simp only [gv_t hb_0]; exact (pu_eq_50 _ _ _ _ _ _)) | (simp only [gval_t hb_0, gv_t hb_0, gv_t hb, gva_tf hb_0, gv_n]; exact (pu_eq_50 _ _ _ _ _ _))) ?_
     refine qP_pu (pu_and _ _) ?_
     refine qP_pu (Pu.g fun hb => by have hb_0 := hb; first | exact pu_fa_52_7 | (simp only [gval_t hb_0, gv_t hb_0, gv_t hb, gva_tt hb_0]; exact pu_fa_52_7) | (simp only [gval_t hb_0, gv_t hb_0, gv_t hb, gva_tf hb_0, gv_n]; exact pu_fa_52_7)) ?_
     refine qP_pu (Pu.g fun hb => by have hb_0 := hb; first | exact pu_fa_52_7 | (simp only [gval_t hb_0, gv_t hb_0, gv_t hb, gva_tt hb_0]; exact pu_fa_52_7) | (simp only [gval_t hb_0, gv_t hb_0, gv_t hb, gva_tf hb_0, gv_n]; exact pu_fa_52_7)) ?_
     refine qL_g (p := (Value.pointer (some ⟨gbr_24j1, 8, none⟩))) rfl (Ld.g fun hb => by have hb_0 := hb; first | exact (ldA Try.isAgg50 Try.sizeOf50 rfl ((I_41.bring 1).at1 (o := 8) (vs := (cs_api_Operand cr_24j1.fB)) (nb rfl) rfl)) | (simp only [gv_t hb_0]; exact (ldA Try.isAgg50 Try.sizeOf50 rfl ((I_41.bring 1).at1 (o := 8) (vs := (cs_api_Operand cr_24j1.fB)) (nb rfl) rfl))) | (simp only [gval_t hb_0, gv_t hb_0, gv_t hb, gva_tf hb_0, gv_n]; exact (ldA Try.isAgg50 Try.sizeOf50 rfl ((I_41.bring 1).at1 (o := 8) (vs := (cs_api_Operand cr_24j1.fB)) (nb rfl) rfl)))) ?_
     refine qL_g (p := (Value.pointer (some ⟨gbr_29j1, 8, none⟩))) rfl (Ld.g fun hb => by have hb_0 := hb; first | exact (ldA Try.isAgg50 Try.sizeOf50 rfl (I_41.at1 (o := 8) (vs := (cs_api_Operand cr_29j1.fB)) (nb rfl) rfl)) | (simp only [gv_t hb_0]; exact (ldA Try.isAgg50 Try.sizeOf50 rfl (I_41.at1 (o := 8) (vs := (cs_api_Operand cr_29j1.fB)) (nb rfl) rfl))) | (simp only [gval_t hb_0, gv_t hb_0, gv_t hb, gva_tf hb_0, gv_n]; exact (ldA Try.isAgg50 Try.sizeOf50 rfl (I_41.at1 (o := 8) (vs := (cs_api_Operand cr_29j1.fB)) (nb rfl) rfl)))) ?_
     refine qP_pu (Pu.g fun hb => by have hb_0 := hb; first | exact (pu_eq_50 _ _ _ _ _ _) | (simp only [gv_t hb_0]; exact (pu_eq_50 _ _ _ _ _ _)) | (simp only [gval_t hb_0, gv_t hb_0, gv_t hb, gva_tf hb_0, gv_n]; exact (pu_eq_50 _ _ _ _ _ _))) ?_
     refine qP_pu (pu_and _ _) ?_
     refine qP_pu (Pu.g fun hb => by have hb_0 := hb; first | exact pu_fa_52_5 | (simp only [gval_t hb_0, gv_t hb_0, gv_t hb, gva_tt hb_0]; exact pu_fa_52_5) | (simp only [gval_t hb_0, gv_t hb_0, gv_t hb, gva_tf hb_0, gv_n]; exact pu_fa_52_5)) ?_
     refine qP_pu (Pu.g fun hb => by have hb_0 := hb; first | exact pu_fa_52_5 | (simp only [gval_t hb_0, gv_t hb_0, gv_t hb, gva_tt hb_0]; exact pu_fa_52_5) | (simp only [gval_t hb_0, gv_t hb_0, gv_t hb, gva_tf hb_0, gv_n]; exact pu_fa_52_5)) ?_
     refine qL_g (p := (Value.pointer (some ⟨gbr_29j1, 5, none⟩))) rfl (Ld.g fun hb => by have hb_0 := hb; first | exact (ld1 Try.isAgg3 (I_41.at1 (o := 5) (vs := [(vi cr_29j1.fOp)]) (nb rfl) rfl)) | (simp only [gv_t hb_0]; exact (ld1 Try.isAgg3 (I_41.at1 (o := 5) (vs := [(vi cr_29j1.fOp)]) (nb rfl) rfl))) | (simp only [gval_t hb_0, gv_t hb_0, gv_t hb, gva_tf hb_0, gv_n]; exact (ld1 Try.isAgg3 (I_41.at1 (o := 5) (vs := [(vi cr_29j1.fOp)]) (nb rfl) rfl)))) ?_
     refine qL_g (p := (Value.pointer (some ⟨gbr_24j1, 5, none⟩))) rfl (Ld.g fun hb => by have hb_0 := hb; first | exact (ld1 Try.isAgg3 ((I_41.bring 1).at1 (o := 5) (vs := [(vi cr_24j1.fOp)]) (nb rfl) rfl)) | (simp only [gv_t hb_0]; exact (ld1 Try.isAgg3 ((I_41.bring 1).at1 (o := 5) (vs := [(vi cr_24j1.fOp)]) (nb rfl) rfl))) | (simp only [gval_t hb_0, gv_t hb_0, gv_t hb, gva_tf hb_0, gv_n]; exact (ld1 Try.isAgg3 ((I_41.bring 1).at1 (o := 5) (vs := [(vi cr_24j1.fOp)]) (nb rfl) rfl)))) ?_
     refine opK_g2 (D := fun v_46 w_43 => ∃ (r0_50 : Int) (H_42 : Hp), v_46 = (gv ((((decide (cr_24j1.fKind = 12)) && (decide (cr_29j1.fKind = 12))) && (decide (cr_24j1.fA.fVar = cr_29j1.fA.fVar ∧ cr_24j1.fA.fNum = cr_29j1.fA.fNum))) && (decide (cr_24j1.fB.fVar = cr_29j1.fB.fVar ∧ cr_24j1.fB.fNum = cr_29j1.fB.fNum))) true (vi r0_50)) ∧ (Inv w0 ps0 H0 H_42 [bx gbr_29j1 52 (cs_api_Edge cr_29j1), bx gbr_24j1 52 (cs_api_Edge cr_24j1)] w_43) ∧ (∀ i, i < w_40.heap.size → ¬ inF [] i → w_43.heap[i]? = w_40.heap[i]?) ∧ Hle H H_42 ∧ (K (((((decide (cr_24j1.fKind = 12)) && (decide (cr_29j1.fKind = 12))) && (decide (cr_24j1.fA.fVar = cr_29j1.fA.fVar ∧ cr_24j1.fA.fNum = cr_29j1.fA.fNum))) && (decide (cr_24j1.fB.fVar = cr_29j1.fB.fVar ∧ cr_24j1.fB.fNum = cr_29j1.fB.fNum))) && (decide (cr_29j1.fOp = r0_50))) H_42)) (fun b_51 => ?_) (fun b_51 => ?_) ?_
     ·replace h := h.1 b_51
      have hb_0 := b_51
      try simp only [gv_t hb_0]
      refine opK_calls (cap := []) (fun args w => Try.call57 args w) ?_
      refine Cv_ct (Fi := []) (Fr := [bx gbr_29j1 52 (cs_api_Edge cr_29j1), bx gbr_24j1 52 (cs_api_Edge cr_24j1)]) I_41 (h) (fun v_46 H_42 F_47 w_43 I_44 l_49 k_45 q_48 => ?_) (fun _ _ _ _ _ q => q.elim)
      obtain ⟨r0_50, rfl, rfl, h⟩ := q_48
      exact ⟨r0_50, H_42, by first | rfl | rw [gv_t b_51], I_44, k_45, l_49, h⟩
     ·exact ⟨0, H, by first | rfl | rw [gv_f b_51], I_41, fun _ _ _ => rfl, Hle.refl _, h.2 b_51⟩
     ·clear h
      rintro v_46 w_43 ⟨r0_50, H_42, rfl, I_44, k_45, l_49, h⟩
      refine ⟨(same_g (p := (Value.pointer (some ⟨gbr_29j1, 5, none⟩))) rfl (k_45 _ I_41.lt1 (Inv.not_in (Fi := []) I_41))), ?_⟩
      refine qP_pu (Pu.g fun hb => by have hb_0 := hb; first | exact (pu_eql _ _ _ _ _ _) | (simp only [gv_t hb_0]; exact (pu_eql _ _ _ _ _ _)) | (simp only [gval_t hb_0, gv_t hb_0, gv_t hb, gva_tf hb_0, gv_n]; exact (pu_eql _ _ _ _ _ _))) ?_
      refine qP_pu (pu_and _ _) ?_
      exact hR (((((decide (cr_24j1.fKind = 12)) && (decide (cr_29j1.fKind = 12))) && (decide (cr_24j1.fA.fVar = cr_29j1.fA.fVar ∧ cr_24j1.fA.fNum = cr_29j1.fA.fNum))) && (decide (cr_24j1.fB.fVar = cr_29j1.fB.fVar ∧ cr_24j1.fB.fNum = cr_29j1.fB.fNum))) && (decide (cr_29j1.fOp = r0_50))) H_42 _ I_44.drop.drop h
    refine xcut_i fun j1 hx1 => ?_
    refine s_dX I fun w_8 I_9 => ?_
    obtain ⟨h_13, h_14, x_10, h_16, h⟩ := h
    obtain ⟨g_11, o_12, h_15, h_16⟩ := h_16
    refine qP_pu (pu_ix_24 h_15 _ _ _ _ h_13 h_14) ?_
    obtain ⟨h_20, h_21, x_17, h_23, h⟩ := h
    obtain ⟨g_18, o_19, h_22, h_23⟩ := h_23
    refine qP_pu (pu_ix_24 h_22 _ _ _ _ h_20 h_21) ?_
    refine qL_ld (ldA (vs := (cs_api_Edge x_10)) Try.isAgg52 Try.sizeOf52 rfl (I_9.atH h_16)) ?_
    refine qL_ld (ldA (vs := (cs_api_Edge x_17)) Try.isAgg52 Try.sizeOf52 rfl (I_9.atH h_23)) ?_
    refine ⟨?_, ?_⟩
    ·refine s_alloc I_9 Try.zeroValue52 (cs := [(vi 0), (vi 0), (vi 0), (vi 0), (vi 0), (vi 0), (vi 0), (vi 0), (vi 0), (vi 0)]) rfl fun g_25 w_26 I_27 k_28 => ?_
     refine ⟨(k_28 _ (I_9.atH_lt h_23)), (k_28 _ (I_9.atH_lt h_16)), ?_⟩
     refine s_alloc I_27 Try.zeroValue52 (cs := [(vi 0), (vi 0), (vi 0), (vi 0), (vi 0), (vi 0), (vi 0), (vi 0), (vi 0), (vi 0)]) rfl fun g_30 w_31 I_32 k_33 => ?_
     refine ⟨(k_33 _ (I_27.atH_lt h_23)), (k_33 _ (I_27.atH_lt h_16)), ?_⟩
     refine s_store (I_32.bring 1) Try.sizeOf52 (vs := (cs_api_Edge x_10)) (cs' := (cs_api_Edge x_10)) rfl rfl (nb rfl) rfl rfl fun w_34 I_35 k_36 => ?_
     refine ⟨(k_36 _ (Inv.ne_H (I_32.bring 1) h_23)), ?_⟩
     refine s_store (I_35.bring 1) Try.sizeOf52 (vs := (cs_api_Edge x_17)) (cs' := (cs_api_Edge x_17)) rfl rfl (nb rfl) rfl rfl fun w_37 I_38 k_39 => ?_
     exact hx1 _ _ (hj1 x_17 x_10 g_30 g_25 H _ ((I_38.bring 1).bring 1) h)
    ·refine s_alloc I_9 Try.zeroValue52 (cs := [(vi 0), (vi 0), (vi 0), (vi 0), (vi 0), (vi 0), (vi 0), (vi 0), (vi 0), (vi 0)]) rfl fun g_53 w_54 I_55 k_56 => ?_
     refine ⟨(k_56 _ (I_9.atH_lt h_23)), (k_56 _ (I_9.atH_lt h_16)), ?_⟩
     refine s_alloc I_55 Try.zeroValue52 (cs := [(vi 0), (vi 0), (vi 0), (vi 0), (vi 0), (vi 0), (vi 0), (vi 0), (vi 0), (vi 0)]) rfl fun g_58 w_59 I_60 k_61 => ?_
     refine ⟨(k_61 _ (I_55.atH_lt h_23)), (k_61 _ (I_55.atH_lt h_16)), ?_⟩
     refine s_store I_60 Try.sizeOf52 (vs := (cs_api_Edge x_10)) (cs' := (cs_api_Edge x_10)) rfl rfl (nb rfl) rfl rfl fun w_62 I_63 k_64 => ?_
     refine ⟨(k_64 _ (Inv.ne_H I_60 h_23)), ?_⟩
     refine s_store (I_63.bring 1) Try.sizeOf52 (vs := (cs_api_Edge x_17)) (cs' := (cs_api_Edge x_17)) rfl rfl (nb rfl) rfl rfl fun w_65 I_66 k_67 => ?_
     exact hx1 _ _ (hj1 x_17 x_10 g_53 g_58 H _ ((I_66.bring 1).bring 1) h)
   ·replace h := h.2 c_68
    exact hR false H _ I h
theorem L_gnomon_cfg_goes (x0 : Sl) {H : Hp} {K : Bool → Hp → Prop} (h : T_gnomon_cfg_goes x0 H K) : C_gnomon_cfg_goes x0 H K := by
 intro w I
 refine F29_ok ?_
 refine LF_gnomon_cfg_goes x0 I (fun r0 H' w' I' hk => ⟨H', _, I', r0, rfl, rfl, hk⟩) h


/- function 51: gnomon/cfg.wantsOf -/
def T_gnomon_cfg_wantsOf_j1 (cr_6j1 : Tcfg_wants) (_cr_1j1 : Tcfg_wants) (H : Hp) (K : Tcfg_wants → Hp → Prop) : Prop :=
 K cr_6j1 H
def T_gnomon_cfg_wantsOf_j3 (s5j3 : Int) (s11j3 : Bool) (cr_6j3 : Tcfg_wants) (cr_1j3 : Tcfg_wants) (H : Hp) (K : Tcfg_wants → Hp → Prop) : Prop :=
 (s11j3 = true →
 T_gnomon_cfg_wantsOf_j1 (Tcfg_wants.mk true cr_6j3.farr cr_6j3.fop cr_6j3.fa true) cr_1j3 H K) ∧
 (s11j3 = false →
 (s5j3 = 9 →
 K (Tcfg_wants.mk true false false false false) H) ∧
 (¬ (s5j3 = 9) →
 (s5j3 = 10 →
 T_gnomon_cfg_wantsOf_j1 (Tcfg_wants.mk true true cr_6j3.fop cr_6j3.fa cr_6j3.fb) cr_1j3 H K) ∧
 (¬ (s5j3 = 10) →
 (s5j3 = 11 →
 T_gnomon_cfg_wantsOf_j1 (Tcfg_wants.mk cr_6j3.fdst true cr_6j3.fop cr_6j3.fa true) cr_1j3 H K) ∧
 (¬ (s5j3 = 11) →
 (s5j3 = 12 →
 T_gnomon_cfg_wantsOf_j1 (Tcfg_wants.mk cr_6j3.fdst cr_6j3.farr true cr_6j3.fa true) cr_1j3 H K) ∧
 (¬ (s5j3 = 12) →
 K (Tcfg_wants.mk false false false false false) H)))))
def T_gnomon_cfg_wantsOf_j2 (s5j2 : Int) (s7j2 : Bool) (cr_6j2 : Tcfg_wants) (cr_1j2 : Tcfg_wants) (H : Hp) (K : Tcfg_wants → Hp → Prop) : Prop :=
 (s7j2 = true →
 T_gnomon_cfg_wantsOf_j1 (Tcfg_wants.mk true cr_6j2.farr cr_6j2.fop cr_6j2.fa cr_6j2.fb) cr_1j2 H K) ∧
 (s7j2 = false →
 (s5j2 = 4 →
 T_gnomon_cfg_wantsOf_j3 s5j2 (decide (s5j2 = 4)) cr_6j2 cr_1j2 H K) ∧
 (¬ (s5j2 = 4) →
 (s5j2 = 5 →
 T_gnomon_cfg_wantsOf_j3 s5j2 (decide (s5j2 = 5)) cr_6j2 cr_1j2 H K) ∧
 (¬ (s5j2 = 5) →
 (s5j2 = 6 →
 T_gnomon_cfg_wantsOf_j3 s5j2 (decide (s5j2 = 6)) cr_6j2 cr_1j2 H K) ∧
 (¬ (s5j2 = 6) →
 (s5j2 = 7 →
 T_gnomon_cfg_wantsOf_j3 s5j2 (decide (s5j2 = 7)) cr_6j2 cr_1j2 H K) ∧
 (¬ (s5j2 = 7) →
 T_gnomon_cfg_wantsOf_j3 s5j2 (decide (s5j2 = 8)) cr_6j2 cr_1j2 H K)))))
def T_gnomon_cfg_wantsOf (x0 : Int) (H : Hp) (K : Tcfg_wants → Hp → Prop) : Prop :=
 (x0 = 2 →
 T_gnomon_cfg_wantsOf_j2 x0 (decide (x0 = 2)) (Tcfg_wants.mk false false false true false) (Tcfg_wants.mk false false false false false) H K) ∧
 (¬ (x0 = 2) →
 T_gnomon_cfg_wantsOf_j2 x0 (decide (x0 = 3)) (Tcfg_wants.mk false false false true false) (Tcfg_wants.mk false false false false false) H K)
theorem LF_gnomon_cfg_wantsOf (x0 : Int) {w0 w : World} {ps0 : Nat → Prop} {H0 H : Hp} {K : Tcfg_wants → Hp → Prop} {R : Value → World → Prop} {E : Pan} (I : Inv w0 ps0 H0 H [] w) (hR : ∀ (r0 : Tcfg_wants) (H' : Hp) (w' : World) (_ : Inv w0 ps0 H0 H' [] w') (_ : K r0 H'), R (Value.agg (cs_cfg_wants r0).toArray) w') (h : T_gnomon_cfg_wantsOf x0 H K) : F51 (vi x0) w R E := by
 unfold T_gnomon_cfg_wantsOf at h
 unfold F51
 refine s_alloc I Try.zeroValue95 (cs := [(Value.bool false), (Value.bool false), (Value.bool false), (Value.bool false), (Value.bool false)]) rfl fun g_2 w_3 I_4 k_5 => ?_
 refine opK_pu (pu_bld_95_3 _) ?_
 refine s_alloc I_4 Try.zeroValue95 (cs := [(Value.bool false), (Value.bool false), (Value.bool false), (Value.bool false), (Value.bool false)]) rfl fun g_7 w_8 I_9 k_10 => ?_
 refine s_store I_9 Try.sizeOf95 (vs := [(Value.bool false), (Value.bool false), (Value.bool false), (Value.bool true), (Value.bool false)]) (cs' := [(Value.bool false), (Value.bool false), (Value.bool false), (Value.bool true), (Value.bool false)]) rfl rfl (nb rfl) rfl rfl fun w_11 I_12 k_13 => ?_
 have hj1 : ∀ (cr_6j1 : Tcfg_wants) (H : Hp) (w : World) (_ : Inv w0 ps0 H0 H [bx g_7 95 (cs_cfg_wants cr_6j1), bx g_2 95 [(Value.bool (Tcfg_wants.mk false false false false false).fdst), (Value.bool (Tcfg_wants.mk false false false false false).farr), (Value.bool (Tcfg_wants.mk false false false false false).fop), (Value.bool (Tcfg_wants.mk false false false false false).fa), (Value.bool (Tcfg_wants.mk false false false false false).fb)]] w) (_ : T_gnomon_cfg_wantsOf_j1 cr_6j1 (Tcfg_wants.mk false false false false false) H K), F51_j1 (Value.pointer (some ⟨g_2, 0, none⟩)) (Value.pointer (some ⟨g_7, 0, none⟩)) w R E := by
  intro cr_6j1 H w I h
  unfold F51_j1
  intro _
  unfold T_gnomon_cfg_wantsOf_j1 at h
  refine opK_ld (ldA Try.isAgg95 Try.sizeOf95 rfl (I.at1 (o := 0) (vs := (cs_cfg_wants cr_6j1)) (nb rfl) rfl)) ?_
  refine s_store (I.bring 1) Try.sizeOf95 (vs := (cs_cfg_wants cr_6j1)) (cs' := (cs_cfg_wants cr_6j1)) rfl rfl (nb rfl) rfl rfl fun w_17 I_18 k_19 => ?_
  refine xcell_A Try.isAgg95 Try.sizeOf95 rfl (I_18.at1 (o := 0) (vs := (cs_cfg_wants cr_6j1)) (nb rfl) rfl) ?_
  exact hR cr_6j1 H _ I_18.drop.drop h
 refine xcut_i fun j1 hx1 => ?_
 have hj2 : ∀ (s7j2 : Bool) (H : Hp) (w : World) (_ : Inv w0 ps0 H0 H [bx g_7 95 [(Value.bool (Tcfg_wants.mk false false false true false).fdst), (Value.bool (Tcfg_wants.mk false false false true false).farr), (Value.bool (Tcfg_wants.mk false false false true false).fop), (Value.bool (Tcfg_wants.mk false false false true false).fa), (Value.bool (Tcfg_wants.mk false false false true false).fb)], bx g_2 95 [(Value.bool (Tcfg_wants.mk false false false false false).fdst), (Value.bool (Tcfg_wants.mk false false false false false).farr), (Value.bool (Tcfg_wants.mk false false false false false).fop), (Value.bool (Tcfg_wants.mk false false false false false).fa), (Value.bool (Tcfg_wants.mk false false false false false).fb)]] w) (_ : T_gnomon_cfg_wantsOf_j2 x0 s7j2 (Tcfg_wants.mk false false false true false) (Tcfg_wants.mk false false false false false) H K), F51_j2 (Value.pointer (some ⟨g_2, 0, none⟩)) (Value.pointer (some ⟨g_7, 0, none⟩)) (vi x0) (Value.bool s7j2) w j1 R E := by
  intro s7j2 H w I h
  unfold F51_j2
  intro _
  unfold T_gnomon_cfg_wantsOf_j2 at h
  refine xcond_b (fun c_59 => ?_) (fun c_59 => ?_)
  ·replace h := h.1 c_59
   refine opK_pu pu_fa_95_0 ?_
   refine s_store I Try.sizeOf4 (vs := [(Value.bool true)]) (cs' := [(Value.bool true), (Value.bool (Tcfg_wants.mk false false false true false).farr), (Value.bool (Tcfg_wants.mk false false false true false).fop), (Value.bool (Tcfg_wants.mk false false false true false).fa), (Value.bool (Tcfg_wants.mk false false false true false).fb)]) rfl rfl (nb rfl) rfl rfl fun w_14 I_15 k_16 => ?_
   exact hx1 _ _ (hj1 (Tcfg_wants.mk true (Tcfg_wants.mk false false false true false).farr (Tcfg_wants.mk false false false true false).fop (Tcfg_wants.mk false false false true false).fa (Tcfg_wants.mk false false false true false).fb) H _ ((I_15.bring 1).bring 1) h)
  ·replace h := h.2 c_59
   have hj3 : ∀ (s11j3 : Bool) (H : Hp) (w : World) (_ : Inv w0 ps0 H0 H [bx g_7 95 [(Value.bool (Tcfg_wants.mk false false false true false).fdst), (Value.bool (Tcfg_wants.mk false false false true false).farr), (Value.bool (Tcfg_wants.mk false false false true false).fop), (Value.bool (Tcfg_wants.mk false false false true false).fa), (Value.bool (Tcfg_wants.mk false false false true false).fb)], bx g_2 95 [(Value.bool (Tcfg_wants.mk false false false false false).fdst), (Value.bool (Tcfg_wants.mk false false false false false).farr), (Value.bool (Tcfg_wants.mk false false false false false).fop), (Value.bool (Tcfg_wants.mk false false false false false).fa), (Value.bool (Tcfg_wants.mk false false false false false).fb)]] w) (_ : T_gnomon_cfg_wantsOf_j3 x0 s11j3 (Tcfg_wants.mk false false false true false) (Tcfg_wants.mk false false false false false) H K), F51_j3 (Value.pointer (some ⟨g_2, 0, none⟩)) (Value.pointer (some ⟨g_7, 0, none⟩)) (vi x0) (Value.bool s11j3) w j1 R E := by
    intro s11j3 H w I h
    unfold F51_j3
    intro _
    unfold T_gnomon_cfg_wantsOf_j3 at h
    refine xcond_b (fun c_54 => ?_) (fun c_54 => ?_)
    ·replace h := h.1 c_54
     refine opK_pu pu_fa_95_0 ?_
     refine s_store I Try.sizeOf4 (vs := [(Value.bool true)]) (cs' := [(Value.bool true), (Value.bool (Tcfg_wants.mk false false false true false).farr), (Value.bool (Tcfg_wants.mk false false false true false).fop), (Value.bool (Tcfg_wants.mk false false false true false).fa), (Value.bool (Tcfg_wants.mk false false false true false).fb)]) rfl rfl (nb rfl) rfl rfl fun w_20 I_21 k_22 => ?_
     refine opK_pu pu_fa_95_4 ?_
     refine s_store I_21 Try.sizeOf4 (vs := [(Value.bool true)]) (cs' := [(Value.bool true), (Value.bool (Tcfg_wants.mk false false false true false).farr), (Value.bool (Tcfg_wants.mk false false false true false).fop), (Value.bool (Tcfg_wants.mk false false false true false).fa), (Value.bool true)]) rfl rfl (nb rfl) rfl rfl fun w_23 I_24 k_25 => ?_
     exact hx1 _ _ (hj1 (Tcfg_wants.mk true (Tcfg_wants.mk false false false true false).farr (Tcfg_wants.mk false false false true false).fop (Tcfg_wants.mk false false false true false).fa true) H _ ((I_24.bring 1).bring 1) h)
    ·replace h := h.2 c_54
     refine opK_pu (pu_eql _ _ _ _ _ _) ?_
     refine xcond_p (fun c_53 => ?_) (fun c_53 => ?_)
     ·replace h := h.1 c_53
      refine opK_pu (pu_bld_95_0 _) ?_
      refine s_store (I.bring 1) Try.sizeOf95 (vs := [(Value.bool true), (Value.bool false), (Value.bool false), (Value.bool false), (Value.bool false)]) (cs' := [(Value.bool true), (Value.bool false), (Value.bool false), (Value.bool false), (Value.bool false)]) rfl rfl (nb rfl) rfl rfl fun w_26 I_27 k_28 => ?_
      refine xcell_A Try.isAgg95 Try.sizeOf95 rfl (I_27.at1 (o := 0) (vs := [(Value.bool true), (Value.bool false), (Value.bool false), (Value.bool false), (Value.bool false)]) (nb rfl) rfl) ?_
      exact hR (Tcfg_wants.mk true false false false false) H _ I_27.drop.drop h
     ·replace h := h.2 c_53
      refine opK_pu (pu_eql _ _ _ _ _ _) ?_
      refine xcond_p (fun c_52 => ?_) (fun c_52 => ?_)
      ·replace h := h.1 c_52
       refine opK_pu pu_fa_95_0 ?_
       refine s_store I Try.sizeOf4 (vs := [(Value.bool true)]) (cs' := [(Value.bool true), (Value.bool (Tcfg_wants.mk false false false true false).farr), (Value.bool (Tcfg_wants.mk false false false true false).fop), (Value.bool (Tcfg_wants.mk false false false true false).fa), (Value.bool (Tcfg_wants.mk false false false true false).fb)]) rfl rfl (nb rfl) rfl rfl fun w_29 I_30 k_31 => ?_
       refine opK_pu pu_fa_95_1 ?_
       refine s_store I_30 Try.sizeOf4 (vs := [(Value.bool true)]) (cs' := [(Value.bool true), (Value.bool true), (Value.bool (Tcfg_wants.mk false false false true false).fop), (Value.bool (Tcfg_wants.mk false false false true false).fa), (Value.bool (Tcfg_wants.mk false false false true false).fb)]) rfl rfl (nb rfl) rfl rfl fun w_32 I_33 k_34 => ?_
       exact hx1 _ _ (hj1 (Tcfg_wants.mk true true (Tcfg_wants.mk false false false true false).fop (Tcfg_wants.mk false false false true false).fa (Tcfg_wants.mk false false false true false).fb) H _ ((I_33.bring 1).bring 1) h)
      ·replace h := h.2 c_52
       refine opK_pu (pu_eql _ _ _ _ _ _) ?_
       refine xcond_p (fun c_51 => ?_) (fun c_51 => ?_)
       ·replace h := h.1 c_51
        refine opK_pu pu_fa_95_1 ?_
        refine s_store I Try.sizeOf4 (vs := [(Value.bool true)]) (cs' := [(Value.bool (Tcfg_wants.mk false false false true false).fdst), (Value.bool true), (Value.bool (Tcfg_wants.mk false false false true false).fop), (Value.bool (Tcfg_wants.mk false false false true false).fa), (Value.bool (Tcfg_wants.mk false false false true false).fb)]) rfl rfl (nb rfl) rfl rfl fun w_35 I_36 k_37 => ?_
        refine opK_pu pu_fa_95_4 ?_
        refine s_store I_36 Try.sizeOf4 (vs := [(Value.bool true)]) (cs' := [(Value.bool (Tcfg_wants.mk false false false true false).fdst), (Value.bool true), (Value.bool (Tcfg_wants.mk false false false true false).fop), (Value.bool (Tcfg_wants.mk false false false true false).fa), (Value.bool true)]) rfl rfl (nb rfl) rfl rfl fun w_38 I_39 k_40 => ?_
        exact hx1 _ _ (hj1 (Tcfg_wants.mk (Tcfg_wants.mk false false false true false).fdst true (Tcfg_wants.mk false false false true false).fop (Tcfg_wants.mk false false false true false).fa true) H _ ((I_39.bring 1).bring 1) h)
       ·replace h := h.2 c_51
        refine opK_pu (pu_eql _ _ _ _ _ _) ?_
        refine xcond_p (fun c_50 => ?_) (fun c_50 => ?_)
        ·replace h := h.1 c_50
         refine opK_pu pu_fa_95_2 ?_
         refine s_store I Try.sizeOf4 (vs := [(Value.bool true)]) (cs' := [(Value.bool (Tcfg_wants.mk false false false true false).fdst), (Value.bool (Tcfg_wants.mk false false false true false).farr), (Value.bool true), (Value.bool (Tcfg_wants.mk false false false true false).fa), (Value.bool (Tcfg_wants.mk false false false true false).fb)]) rfl rfl (nb rfl) rfl rfl fun w_41 I_42 k_43 => ?_
         refine opK_pu pu_fa_95_4 ?_
         refine s_store I_42 Try.sizeOf4 (vs := [(Value.bool true)]) (cs' := [(Value.bool (Tcfg_wants.mk false false false true false).fdst), (Value.bool (Tcfg_wants.mk false false false true false).farr), (Value.bool true), (Value.bool (Tcfg_wants.mk false false false true false).fa), (Value.bool true)]) rfl rfl (nb rfl) rfl rfl fun w_44 I_45 k_46 => ?_
         exact hx1 _ _ (hj1 (Tcfg_wants.mk (Tcfg_wants.mk false false false true false).fdst (Tcfg_wants.mk false false false true false).farr true (Tcfg_wants.mk false false false true false).fa true) H _ ((I_45.bring 1).bring 1) h)
        ·replace h := h.2 c_50
         refine opK_pu (pu_bld_95 ) ?_
         refine s_store (I.bring 1) Try.sizeOf95 (vs := [(Value.bool false), (Value.bool false), (Value.bool false), (Value.bool false), (Value.bool false)]) (cs' := [(Value.bool false), (Value.bool false), (Value.bool false), (Value.bool false), (Value.bool false)]) rfl rfl (nb rfl) rfl rfl fun w_47 I_48 k_49 => ?_
         refine xcell_A Try.isAgg95 Try.sizeOf95 rfl (I_48.at1 (o := 0) (vs := [(Value.bool false), (Value.bool false), (Value.bool false), (Value.bool false), (Value.bool false)]) (nb rfl) rfl) ?_
         exact hR (Tcfg_wants.mk false false false false false) H _ I_48.drop.drop h
   refine xcut_i fun j3 hx3 => ?_
   refine opK_pu (pu_eql _ _ _ _ _ _) ?_
   refine xcond_p (fun c_58 => ?_) (fun c_58 => ?_)
   ·replace h := h.1 c_58
    exact hx3 _ _ (hj3 (decide (x0 = 4)) H _ ((I.bring 1).bring 1) h)
   ·replace h := h.2 c_58
    refine opK_pu (pu_eql _ _ _ _ _ _) ?_
    refine xcond_p (fun c_57 => ?_) (fun c_57 => ?_)
    ·replace h := h.1 c_57
     exact hx3 _ _ (hj3 (decide (x0 = 5)) H _ ((I.bring 1).bring 1) h)
    ·replace h := h.2 c_57
     refine opK_pu (pu_eql _ _ _ _ _ _) ?_
     refine xcond_p (fun c_56 => ?_) (fun c_56 => ?_)
     ·replace h := h.1 c_56
      exact hx3 _ _ (hj3 (decide (x0 = 6)) H _ ((I.bring 1).bring 1) h)
     ·replace h := h.2 c_56
      refine opK_pu (pu_eql _ _ _ _ _ _) ?_
      refine xcond_p (fun c_55 => ?_) (fun c_55 => ?_)
      ·replace h := h.1 c_55
       exact hx3 _ _ (hj3 (decide (x0 = 7)) H _ ((I.bring 1).bring 1) h)
      ·replace h := h.2 c_55
       refine opK_pu (pu_eql _ _ _ _ _ _) ?_
       exact hx3 _ _ (hj3 (decide (x0 = 8)) H _ ((I.bring 1).bring 1) h)
 refine xcut_i fun j2 hx2 => ?_
 refine opK_pu (pu_eql _ _ _ _ _ _) ?_
 refine xcond_p (fun c_60 => ?_) (fun c_60 => ?_)
 ·replace h := h.1 c_60
  exact hx2 _ _ (hj2 (decide (x0 = 2)) H _ ((I_12.bring 1).bring 1) h)
 ·replace h := h.2 c_60
  refine opK_pu (pu_eql _ _ _ _ _ _) ?_
  exact hx2 _ _ (hj2 (decide (x0 = 3)) H _ ((I_12.bring 1).bring 1) h)
theorem L_gnomon_cfg_wantsOf (x0 : Int) {H : Hp} {K : Tcfg_wants → Hp → Prop} (h : T_gnomon_cfg_wantsOf x0 H K) : C_gnomon_cfg_wantsOf x0 H K := by
 intro w I
 refine F51_ok ?_
 refine LF_gnomon_cfg_wantsOf x0 I (fun r0 H' w' I' hk => ⟨H', _, I', r0, rfl, rfl, hk⟩) h


/- function 55: (gnomon/cfg.graph).operand -/
def T_gnomon_cfg_graph_operand (x0 : Tcfg_graph) (x1 : Tapi_Operand) (H : Hp) (K : Bool → Hp → Prop) : Prop :=
 TG ((decide (x1.fVar = (-1))) = false) (C_gnomon_cfg_graph_variable x0 x1.fVar H) false H (fun (r0_19 : Bool) (H_11 : Hp) =>
 K ((decide (x1.fVar = (-1))) || (r0_19 && (decide (x1.fNum = 0)))) H_11)
theorem LF_gnomon_cfg_graph_operand (x0 : Tcfg_graph) (x1 : Tapi_Operand) {w0 w : World} {ps0 : Nat → Prop} {H0 H : Hp} {K : Bool → Hp → Prop} {R : Value → World → Prop} {E : Pan} (I : Inv w0 ps0 H0 H [] w) (hR : ∀ (r0 : Bool) (H' : Hp) (w' : World) (_ : Inv w0 ps0 H0 H' [] w') (_ : K r0 H'), R (Value.bool r0) w') (h : T_gnomon_cfg_graph_operand x0 x1 H K) : F55 (Value.agg (cs_api_Cfg x0.fCfg).toArray) (Value.agg (cs_api_Operand x1).toArray) w R E := by
 unfold T_gnomon_cfg_graph_operand at h
 unfold F55
 refine s_box I (cs := (cs_api_Cfg x0.fCfg)) rfl fun g_2 w_3 I_4 k_5 => ?_
 refine s_box I_4 (cs := (cs_api_Operand x1)) rfl fun g_7 w_8 I_9 k_10 => ?_
 refine opK_pu pu_fa_50_0 ?_
 refine opK_ld (ld1 Try.isAgg3 (I_9.at1 (o := 0) (vs := [(vi x1.fVar)]) (nb rfl) rfl)) ?_
 refine opK_pu (pu_eql _ _ _ _ _ _) ?_
 refine opK_ld (Ld.g fun hb => by have hb_0 := hb; first | exact (ldA Try.isAgg81 Try.sizeOf81 rfl ((I_9.bring 1).at1 (o := 0) (vs := (cs_api_Cfg x0.fCfg)) (nb rfl) rfl)) | (simp only [gval_t hb_0, gv_t hb_0, gv_t hb, gva_ft hb_0]; exact (ldA Try.isAgg81 Try.sizeOf81 rfl ((I_9.bring 1).at1 (o := 0) (vs := (cs_api_Cfg x0.fCfg)) (nb rfl) rfl))) | (simp only [gval_t hb_0, gv_t hb_0, gv_t hb, gva_ff hb_0, gv_n]; exact (ldA Try.isAgg81 Try.sizeOf81 rfl ((I_9.bring 1).at1 (o := 0) (vs := (cs_api_Cfg x0.fCfg)) (nb rfl) rfl)))) ?_
 refine opK_pu (Pu.g fun hb => by have hb_0 := hb; first | exact pu_fa_50_0 | (simp only [gval_t hb_0, gv_t hb_0, gv_t hb, gva_ft hb_0]; exact pu_fa_50_0) | (simp only [gval_t hb_0, gv_t hb_0, gv_t hb, gva_ff hb_0, gv_n]; exact pu_fa_50_0)) ?_
 refine opK_ld (Ld.g fun hb => by have hb_0 := hb; first | exact (ld1 Try.isAgg3 (I_9.at1 (o := 0) (vs := [(vi x1.fVar)]) (nb rfl) rfl)) | (simp only [gv_t hb_0]; exact (ld1 Try.isAgg3 (I_9.at1 (o := 0) (vs := [(vi x1.fVar)]) (nb rfl) rfl))) | (simp only [gval_t hb_0, gv_t hb_0, gv_t hb, gva_ff hb_0, gv_n]; exact (ld1 Try.isAgg3 (I_9.at1 (o := 0) (vs := [(vi x1.fVar)]) (nb rfl) rfl)))) ?_
 refine opK_g2 (D := fun v_15 w_12 => ∃ (r0_19 : Bool) (H_11 : Hp), v_15 = (gv (decide (x1.fVar = (-1))) false (Value.bool r0_19)) ∧ (Inv w0 ps0 H0 H_11 [bx g_7 50 (cs_api_Operand x1), bx g_2 81 (cs_api_Cfg x0.fCfg)] w_12) ∧ (∀ i, i < w_8.heap.size → ¬ inF [] i → w_12.heap[i]? = w_8.heap[i]?) ∧ Hle H H_11 ∧ (K ((decide (x1.fVar = (-1))) || (r0_19 && (decide (x1.fNum = 0)))) H_11)) (fun b_20 => ?_) (fun b_20 => ?_) ?_
 ·replace h := h.1 b_20
  have hb_0 := b_20
  try simp only [gv_t hb_0]
  refine opK_calls (cap := []) (fun args w => Try.call53 args w) ?_
  refine Cv_ct (Fi := []) (Fr := [bx g_7 50 (cs_api_Operand x1), bx g_2 81 (cs_api_Cfg x0.fCfg)]) I_9 (h) (fun v_15 H_11 F_16 w_12 I_13 l_18 k_14 q_17 => ?_) (fun _ _ _ _ _ q => q.elim)
  obtain ⟨r0_19, rfl, rfl, h⟩ := q_17
  exact ⟨r0_19, H_11, by first | rfl | rw [gv_t b_20], I_13, k_14, l_18, h⟩
 ·exact ⟨false, H, by first | rfl | rw [gv_f b_20], I_9, fun _ _ _ => rfl, Hle.refl _, h.2 b_20⟩
 ·clear h
  rintro v_15 w_12 ⟨r0_19, H_11, rfl, I_13, k_14, l_18, h⟩
  try simp only [gval_b, gv_gv]
  refine opK_pu (Pu.e (gsgg_ft _ _ _) (Pu.g fun hb => by obtain ⟨hb_0, hb_1⟩ := gg_ft hb; first | exact pu_fa_50_1 | (simp only [gval_t hb_0, gv_t hb_0, gval_t hb_1, gv_t hb_1, gv_t hb, gv_n]; exact pu_fa_50_1))) ?_
  refine opK_ld (Ld.e (gsgg_ft _ _ _) (Ld.g fun hb => by obtain ⟨hb_0, hb_1⟩ := gg_ft hb; first | exact (ld1 Try.isAgg2 (I_13.at1 (o := 1) (vs := [(vi x1.fNum)]) (nb rfl) rfl)) | (simp only [gv_t hb]; exact (ld1 Try.isAgg2 (I_13.at1 (o := 1) (vs := [(vi x1.fNum)]) (nb rfl) rfl))))) ?_
  refine opK_pu (Pu.e (gsgg_ft _ _ _) (Pu.g fun hb => by obtain ⟨hb_0, hb_1⟩ := gg_ft hb; first | exact (pu_eql _ _ _ _ _ _) | (simp only [gv_t hb]; exact (pu_eql _ _ _ _ _ _)))) ?_
  refine opK_pu (Pu.g fun hb => by have hb_0 := hb; first | exact (pu_and _ _) | (simp only [gv_t hb_0, gva_ft hb_0]; exact (pu_and _ _)) | (simp only [gval_t hb_0, gv_t hb_0, gv_t hb, gva_ff hb_0, gv_n]; exact (pu_and _ _))) ?_
  refine opK_pu (pu_or _ _) ?_
  exact hR ((decide (x1.fVar = (-1))) || (r0_19 && (decide (x1.fNum = 0)))) H_11 _ I_13.drop.drop h
theorem L_gnomon_cfg_graph_operand (x0 : Tcfg_graph) (x1 : Tapi_Operand) {H : Hp} {K : Bool → Hp → Prop} (h : T_gnomon_cfg_graph_operand x0 x1 H K) : C_gnomon_cfg_graph_operand x0 x1 H K := by
 intro w I
 refine F55_ok ?_
 refine LF_gnomon_cfg_graph_operand x0 x1 I (fun r0 H' w' I' hk => ⟨H', _, I', r0, rfl, rfl, hk⟩) h


/- function 73: gnomon/gnomonref7.Mul -/
def T_gnomon_gnomonref7_Mul (x0 : Int) (x1 : Int) (H : Hp) (K : Int → Int → Hp → Prop) : Prop :=
 (((decide (x0 = 0)) || (decide (x1 = 0))) = true →
 K 0 0 H) ∧
 (((decide (x0 = 0)) || (decide (x1 = 0))) = false →
 (x0 = (-1) →
 C_gnomon_gnomonref7_Neg x1 H (fun (r0_9 : Int) (r1_9 : Int) (H_1 : Hp) => 
 K r0_9 r1_9 H_1)) ∧
 (¬ (x0 = (-1)) →
 (x1 = (-1) →
 C_gnomon_gnomonref7_Neg x0 H (fun (r0_18 : Int) (r1_18 : Int) (H_10 : Hp) => 
 K r0_18 r1_18 H_10)) ∧
 (¬ (x1 = (-1)) →
 x1 ≠ 0 ∧
 (¬ ((IntKind.wrap .i64 (Int.tdiv (IntKind.wrap .i64 (x0 * x1)) x1)) = x0) →
 K 0 1 H) ∧
 ((IntKind.wrap .i64 (Int.tdiv (IntKind.wrap .i64 (x0 * x1)) x1)) = x0 →
 K (IntKind.wrap .i64 (x0 * x1)) 0 H))))
theorem LF_gnomon_gnomonref7_Mul (x0 : Int) (x1 : Int) {w0 w : World} {ps0 : Nat → Prop} {H0 H : Hp} {K : Int → Int → Hp → Prop} {R : Value → World → Prop} {E : Pan} (I : Inv w0 ps0 H0 H [] w) (hR : ∀ (r0 : Int) (r1 : Int) (H' : Hp) (w' : World) (_ : Inv w0 ps0 H0 H' [] w') (_ : K r0 r1 H'), R (Value.tuple #[(vi r0), (vi r1)]) w') (h : T_gnomon_gnomonref7_Mul x0 x1 H K) : F73 (vi x0) (vi x1) w R E := by
 unfold T_gnomon_gnomonref7_Mul at h
 unfold F73
 refine opK_pu (pu_eql _ _ _ _ _ _) ?_
 try simp only [gval_b]
 refine opK_pu (Pu.g fun hb => by have hb_0 := hb; first | exact (pu_eql _ _ _ _ _ _) | (simp only [gv_t hb_0]; exact (pu_eql _ _ _ _ _ _)) | (simp only [gval_t hb_0, gv_t hb_0, gv_t hb, gva_ff hb_0, gv_n]; exact (pu_eql _ _ _ _ _ _))) ?_
 refine opK_pu (pu_or _ _) ?_
 refine xcond_b (fun c_23 => ?_) (fun c_23 => ?_)
 ·replace h := h.1 c_23
  exact hR 0 0 H _ I h
 ·replace h := h.2 c_23
  refine opK_pu (pu_eql _ _ _ _ _ _) ?_
  refine xcond_p (fun c_22 => ?_) (fun c_22 => ?_)
  ·replace h := h.1 c_22
   refine opK_calls (cap := []) (fun args w => Try.call70 args w) ?_
   refine Cv_ct (Fi := []) (Fr := []) I (h) (fun v_5 H_1 F_6 w_2 I_3 l_8 k_4 q_7 => ?_) (fun _ _ _ _ _ q => q.elim)
   obtain ⟨r0_9, r1_9, rfl, rfl, h⟩ := q_7
   refine opK_pu (pu_extract _ _ _ rfl) ?_
   refine opK_pu (pu_extract _ _ _ rfl) ?_
   exact hR r0_9 r1_9 H_1 _ I_3 h
  ·replace h := h.2 c_22
   refine opK_pu (pu_eql _ _ _ _ _ _) ?_
   refine xcond_p (fun c_21 => ?_) (fun c_21 => ?_)
   ·replace h := h.1 c_21
    refine opK_calls (cap := []) (fun args w => Try.call70 args w) ?_
    refine Cv_ct (Fi := []) (Fr := []) I (h) (fun v_14 H_10 F_15 w_11 I_12 l_17 k_13 q_16 => ?_) (fun _ _ _ _ _ q => q.elim)
    obtain ⟨r0_18, r1_18, rfl, rfl, h⟩ := q_16
    refine opK_pu (pu_extract _ _ _ rfl) ?_
    refine opK_pu (pu_extract _ _ _ rfl) ?_
    exact hR r0_18 r1_18 H_10 _ I_12 h
   ·replace h := h.2 c_21
    refine opK_pu (pu_mul _ _ _ _ _ _) ?_
    obtain ⟨h_19, h⟩ := h
    refine opK_pu (pu_quo _ _ _ _ _ _ h_19) ?_
    refine opK_pu (pu_neq _ _ _ _ _ _) ?_
    refine xcond_n (fun c_20 => ?_) (fun c_20 => ?_)
    ·replace h := h.1 c_20
     exact hR 0 1 H _ I h
    ·replace h := h.2 c_20
     exact hR (IntKind.wrap .i64 (x0 * x1)) 0 H _ I h
theorem L_gnomon_gnomonref7_Mul (x0 : Int) (x1 : Int) {H : Hp} {K : Int → Int → Hp → Prop} (h : T_gnomon_gnomonref7_Mul x0 x1 H K) : C_gnomon_gnomonref7_Mul x0 x1 H K := by
 intro w I
 refine F73_ok ?_
 refine LF_gnomon_gnomonref7_Mul x0 x1 I (fun r0 r1 H' w' I' hk => ⟨H', _, I', r0, r1, rfl, rfl, hk⟩) h


/- function 75: gnomon/gnomonref7.Rem -/
def T_gnomon_gnomonref7_Rem (x0 : Int) (x1 : Int) (H : Hp) (K : Int → Int → Hp → Prop) : Prop :=
 C_gnomon_gnomonref7_divides x0 x1 H (fun (r0_9 : Int) (H_1 : Hp) => 
 (¬ (r0_9 = 0) →
 K 0 r0_9 H_1) ∧
 (r0_9 = 0 →
 x1 ≠ 0 ∧
 K (IntKind.wrap .i64 (x0 - (IntKind.wrap .i64 ((IntKind.wrap .i64 (Int.tdiv x0 x1)) * x1)))) 0 H_1))
theorem LF_gnomon_gnomonref7_Rem (x0 : Int) (x1 : Int) {w0 w : World} {ps0 : Nat → Prop} {H0 H : Hp} {K : Int → Int → Hp → Prop} {R : Value → World → Prop} {E : Pan} (I : Inv w0 ps0 H0 H [] w) (hR : ∀ (r0 : Int) (r1 : Int) (H' : Hp) (w' : World) (_ : Inv w0 ps0 H0 H' [] w') (_ : K r0 r1 H'), R (Value.tuple #[(vi r0), (vi r1)]) w') (h : T_gnomon_gnomonref7_Rem x0 x1 H K) : F75 (vi x0) (vi x1) w R E := by
 unfold T_gnomon_gnomonref7_Rem at h
 unfold F75
 refine opK_calls (cap := []) (fun args w => Try.call87 args w) ?_
 refine Cv_ct (Fi := []) (Fr := []) I (h) (fun v_5 H_1 F_6 w_2 I_3 l_8 k_4 q_7 => ?_) (fun _ _ _ _ _ q => q.elim)
 obtain ⟨r0_9, rfl, rfl, h⟩ := q_7
 refine opK_pu (pu_neq _ _ _ _ _ _) ?_
 refine xcond_n (fun c_11 => ?_) (fun c_11 => ?_)
 ·replace h := h.1 c_11
  exact hR 0 r0_9 H_1 _ I_3 h
 ·replace h := h.2 c_11
  obtain ⟨h_10, h⟩ := h
  refine opK_pu (pu_quo _ _ _ _ _ _ h_10) ?_
  refine opK_pu (pu_mul _ _ _ _ _ _) ?_
  refine opK_pu (pu_sub _ _ _ _ _ _) ?_
  exact hR (IntKind.wrap .i64 (x0 - (IntKind.wrap .i64 ((IntKind.wrap .i64 (Int.tdiv x0 x1)) * x1)))) 0 H_1 _ I_3 h
theorem L_gnomon_gnomonref7_Rem (x0 : Int) (x1 : Int) {H : Hp} {K : Int → Int → Hp → Prop} (h : T_gnomon_gnomonref7_Rem x0 x1 H K) : C_gnomon_gnomonref7_Rem x0 x1 H K := by
 intro w I
 refine F75_ok ?_
 refine LF_gnomon_gnomonref7_Rem x0 x1 I (fun r0 r1 H' w' I' hk => ⟨H', _, I', r0, r1, rfl, rfl, hk⟩) h


/- function 50: (*gnomon/gnomonref10.state).place -/
def T_gnomon_gnomonref10_state_place (_x0 : Tgnomonref10_state) (_x0_0 : (List Int)) (x0_1 : (List (List Int))) (x1 : Int) (x2 : Int) (H : Hp) (K : Bool → Hp → Prop) : Prop :=
 (0 : Int) ≤ x1 ∧ ∃ xs_2 : List Int, (x0_1)[(x1 : Int).toNat]? = some xs_2 ∧
 K ((decide (0 ≤ x2)) && (decide (x2 < (xs_2.length : Int)))) H
theorem LF_gnomon_gnomonref10_state_place (x0 : Tgnomonref10_state) (x0_0 : (List Int)) (x0_1 : (List (List Int))) (x1 : Int) (x2 : Int) (g0 : Nat) (sx0_0 : Sl) (Fx0_0 : Frag) (sx0_1 : Sl) (Fx0_1 : Frag) (_hx0_0 : RowL 2 1 cs_int64 sx0_0 x0_0 Fx0_0) (hx0_1 : RowsL 27 2 1 cs_int64 sx0_1 x0_1 Fx0_1) {w0 w : World} {ps0 : Nat → Prop} {H0 H : Hp} {K : Bool → Hp → Prop} {R : Value → World → Prop} {E : Pan} (I : Inv w0 ps0 H0 H [bx g0 71 [(vs sx0_0), (vs sx0_1)], Fx0_0, Fx0_1] w) (hR : ∀ (r0 : Bool) (H' : Hp) (w' : World) (_ : Inv w0 ps0 H0 H' [bx g0 71 [(vs sx0_0), (vs sx0_1)], Fx0_0, Fx0_1] w') (_ : K r0 H'), R (Value.bool r0) w') (h : T_gnomon_gnomonref10_state_place x0 x0_0 x0_1 x1 x2 H K) : F50 (Value.pointer (some ⟨g0, 0, none⟩)) (vi x1) (vi x2) w R E := by
 unfold T_gnomon_gnomonref10_state_place at h
 unfold F50
 refine opK_pu (pu_geq _ _ _ _ _ _) ?_
 try simp only [gval_b]
 try simp only [gval_b, gv_gv, gvl_tt, gvl_tf, gvl_ft, gvl_ff, gvg_tt, gvg_tf, gvg_ft, gvg_ff]
 refine opK_pu (Pu.g fun hb => by have hb_0 := hb; first | exact (pu_nilp _) | (simp only [gv_t hb_0]; exact (pu_nilp _)) | (simp only [gval_t hb_0, gv_t hb_0, gv_t hb, gva_tf hb_0, gv_n]; exact (pu_nilp _))) ?_
 refine opK_pu (Pu.g fun hb => by have hb_0 := hb; first | exact pu_fa_71_1 | (simp only [gv_t hb_0]; exact pu_fa_71_1) | (simp only [gval_t hb_0, gv_t hb_0, gv_t hb, gva_tf hb_0, gv_n]; exact pu_fa_71_1)) ?_
 refine opK_ld (Ld.g fun hb => by have hb_0 := hb; first | exact (ld1 Try.isAgg32 (I.at1 (o := 1) (vs := [(vs sx0_1)]) (nb rfl) rfl)) | (simp only [gv_t hb_0]; exact (ld1 Try.isAgg32 (I.at1 (o := 1) (vs := [(vs sx0_1)]) (nb rfl) rfl))) | (simp only [gval_t hb_0, gv_t hb_0, gv_t hb, gva_tf hb_0, gv_n]; exact (ld1 Try.isAgg32 (I.at1 (o := 1) (vs := [(vs sx0_1)]) (nb rfl) rfl)))) ?_
 try simp only [gval_b, gv_gv, gvl_tt, gvl_tf, gvl_ft, gvl_ff, gvg_tt, gvg_tf, gvg_ft, gvg_ff]
 obtain ⟨h_1, xs_2, h_3, h⟩ := h
 obtain ⟨ss_4, s_5, F_6, F_7, F_8, h_9, h_10, h_11, h_12, h_13, I_14⟩ := RowsL.open_ hx0_1 (I.bring 2) h_3
 obtain ⟨g_18, a_20, h_19, h_21⟩ := h_9.addr h_10
 refine opK_pu (Pu.g fun hb => by have hb_0 := hb; first | exact (pu_ix_32 h_19 _ _ _ _ h_1 (h_9.lt h_1 h_10)) | (simp only [gv_t hb_0]; exact (pu_ix_32 h_19 _ _ _ _ h_1 (h_9.lt h_1 h_10))) | (simp only [gval_t hb_0, gv_t hb_0, gv_t hb, gva_tf hb_0, gv_n]; exact (pu_ix_32 h_19 _ _ _ _ h_1 (h_9.lt h_1 h_10)))) ?_
 refine opK_ld (Ld.g fun hb => by have hb_0 := hb; first | exact (ld1 (v := (vs s_5)) Try.isAgg27 (h_9.atW I_14 h_19 h_10)) | (simp only [gv_t hb_0]; exact (ld1 (v := (vs s_5)) Try.isAgg27 (h_9.atW I_14 h_19 h_10))) | (simp only [gval_t hb_0, gv_t hb_0, gv_t hb, gva_tf hb_0, gv_n]; exact (ld1 (v := (vs s_5)) Try.isAgg27 (h_9.atW I_14 h_19 h_10)))) ?_
 refine opK_pu (Pu.g fun hb => by have hb_0 := hb; first | exact (pu_len_row Try.underlying27 h_11) | (simp only [gv_t hb_0]; exact (pu_len_row Try.underlying27 h_11)) | (simp only [gval_t hb_0, gv_t hb_0, gv_t hb, gva_tf hb_0, gv_n]; exact (pu_len_row Try.underlying27 h_11))) ?_
 refine opK_pu (Pu.g fun hb => by have hb_0 := hb; first | exact (pu_lss _ _ _ _ _ _) | (simp only [gv_t hb_0]; exact (pu_lss _ _ _ _ _ _)) | (simp only [gval_t hb_0, gv_t hb_0, gv_t hb, gva_tf hb_0, gv_n]; exact (pu_lss _ _ _ _ _ _))) ?_
 refine opK_pu (pu_and _ _) ?_
 exact hR ((decide (0 ≤ x2)) && (decide (x2 < (xs_2.length : Int)))) H _ ((((((I_14.bring 2).bring 2).bring 2).join3.permF h_13).bring 2).bring 2) h
theorem L_gnomon_gnomonref10_state_place (x0 : Tgnomonref10_state) (x0_0 : (List Int)) (x0_1 : (List (List Int))) (x1 : Int) (x2 : Int) {H : Hp} {K : Bool → Hp → Prop} (h : T_gnomon_gnomonref10_state_place x0 x0_0 x0_1 x1 x2 H K) : C_gnomon_gnomonref10_state_place x0 x0_0 x0_1 x1 x2 H K := by
 intro g0 sx0_0 Fx0_0 sx0_1 Fx0_1 hx0_0 hx0_1 w I
 refine F50_ok ?_
 refine LF_gnomon_gnomonref10_state_place x0 x0_0 x0_1 x1 x2 g0 sx0_0 Fx0_0 sx0_1 Fx0_1 hx0_0 hx0_1 I (fun r0 H' w' I' hk => ⟨H', _, I', r0, rfl, rfl, hk⟩) h


/- function 47: gnomon/gnomonref7.Cmp -/
def T_gnomon_gnomonref7_Cmp (x0 : Int) (x1 : Int) (x2 : Int) (H : Hp) (K : Bool → Hp → Prop) : Prop :=
 (x0 = 1 →
 K (decide (x1 < x2)) H) ∧
 (¬ (x0 = 1) →
 (x0 = 2 →
 K (decide (x1 ≤ x2)) H) ∧
 (¬ (x0 = 2) →
 (x0 = 3 →
 K (decide (x1 = x2)) H) ∧
 (¬ (x0 = 3) →
 (x0 = 4 →
 K (!decide (x1 = x2)) H) ∧
 (¬ (x0 = 4) →
 (x0 = 5 →
 K (decide (x2 < x1)) H) ∧
 (¬ (x0 = 5) →
 (x0 = 6 →
 K (decide (x2 ≤ x1)) H) ∧
 (¬ (x0 = 6) →
 K false H))))))
theorem LF_gnomon_gnomonref7_Cmp (x0 : Int) (x1 : Int) (x2 : Int) {w0 w : World} {ps0 : Nat → Prop} {H0 H : Hp} {K : Bool → Hp → Prop} {R : Value → World → Prop} {E : Pan} (I : Inv w0 ps0 H0 H [] w) (hR : ∀ (r0 : Bool) (H' : Hp) (w' : World) (_ : Inv w0 ps0 H0 H' [] w') (_ : K r0 H'), R (Value.bool r0) w') (h : T_gnomon_gnomonref7_Cmp x0 x1 x2 H K) : F47 (vi x0) (vi x1) (vi x2) w R E := by
 unfold T_gnomon_gnomonref7_Cmp at h
 unfold F47
 refine opK_pu (pu_eql _ _ _ _ _ _) ?_
 refine xcond_p (fun c_6 => ?_) (fun c_6 => ?_)
 ·replace h := h.1 c_6
  refine opK_pu (pu_lss _ _ _ _ _ _) ?_
  exact hR (decide (x1 < x2)) H _ I h
 ·replace h := h.2 c_6
  refine opK_pu (pu_eql _ _ _ _ _ _) ?_
  refine xcond_p (fun c_5 => ?_) (fun c_5 => ?_)
  ·replace h := h.1 c_5
   refine opK_pu (pu_leq _ _ _ _ _ _) ?_
   exact hR (decide (x1 ≤ x2)) H _ I h
  ·replace h := h.2 c_5
   refine opK_pu (pu_eql _ _ _ _ _ _) ?_
   refine xcond_p (fun c_4 => ?_) (fun c_4 => ?_)
   ·replace h := h.1 c_4
    refine opK_pu (pu_eql _ _ _ _ _ _) ?_
    exact hR (decide (x1 = x2)) H _ I h
   ·replace h := h.2 c_4
    refine opK_pu (pu_eql _ _ _ _ _ _) ?_
    refine xcond_p (fun c_3 => ?_) (fun c_3 => ?_)
    ·replace h := h.1 c_3
     refine opK_pu (pu_neq _ _ _ _ _ _) ?_
     exact hR (!decide (x1 = x2)) H _ I h
    ·replace h := h.2 c_3
     refine opK_pu (pu_eql _ _ _ _ _ _) ?_
     refine xcond_p (fun c_2 => ?_) (fun c_2 => ?_)
     ·replace h := h.1 c_2
      refine opK_pu (pu_gtr _ _ _ _ _ _) ?_
      exact hR (decide (x2 < x1)) H _ I h
     ·replace h := h.2 c_2
      refine opK_pu (pu_eql _ _ _ _ _ _) ?_
      refine xcond_p (fun c_1 => ?_) (fun c_1 => ?_)
      ·replace h := h.1 c_1
       refine opK_pu (pu_geq _ _ _ _ _ _) ?_
       exact hR (decide (x2 ≤ x1)) H _ I h
      ·replace h := h.2 c_1
       exact hR false H _ I h
theorem L_gnomon_gnomonref7_Cmp (x0 : Int) (x1 : Int) (x2 : Int) {H : Hp} {K : Bool → Hp → Prop} (h : T_gnomon_gnomonref7_Cmp x0 x1 x2 H K) : C_gnomon_gnomonref7_Cmp x0 x1 x2 H K := by
 intro w I
 refine F47_ok ?_
 refine LF_gnomon_gnomonref7_Cmp x0 x1 x2 I (fun r0 H' w' I' hk => ⟨H', _, I', r0, rfl, rfl, hk⟩) h


/- function 45: gnomon/gnomonref9.Right -/
def T_gnomon_gnomonref9_Right_j1 (s1j1 : Int) (s2j1 : Int) (s7j1 : Bool) (s8j1 : Bool) (s9j1 : Bool) (cr_1j1 : Tapi_Edge) (H : Hp) (K : Bool → Hp → Prop) : Prop :=
 (((s7j1 && ((decide (cr_1j1.fDst < 0)) || (decide (s1j1 ≤ cr_1j1.fDst)))) || ((!s7j1) && (!decide (cr_1j1.fDst = (-1))))) = true →
 K false H) ∧
 (((s7j1 && ((decide (cr_1j1.fDst < 0)) || (decide (s1j1 ≤ cr_1j1.fDst)))) || ((!s7j1) && (!decide (cr_1j1.fDst = (-1))))) = false →
 (((((decide (cr_1j1.fKind = 10)) || (decide (cr_1j1.fKind = 11))) && ((decide (cr_1j1.fArr < 0)) || (decide (s2j1 ≤ cr_1j1.fArr)))) || ((!((decide (cr_1j1.fKind = 10)) || (decide (cr_1j1.fKind = 11)))) && (!decide (cr_1j1.fArr = (-1))))) = true →
 K false H) ∧
 (((((decide (cr_1j1.fKind = 10)) || (decide (cr_1j1.fKind = 11))) && ((decide (cr_1j1.fArr < 0)) || (decide (s2j1 ≤ cr_1j1.fArr)))) || ((!((decide (cr_1j1.fKind = 10)) || (decide (cr_1j1.fKind = 11)))) && (!decide (cr_1j1.fArr = (-1))))) = false →
 ((((decide (cr_1j1.fKind = 12)) && ((decide (cr_1j1.fOp < 1)) || (decide (6 < cr_1j1.fOp)))) || ((!decide (cr_1j1.fKind = 12)) && (!decide (cr_1j1.fOp = 0)))) = true →
 K false H) ∧
 ((((decide (cr_1j1.fKind = 12)) && ((decide (cr_1j1.fOp < 1)) || (decide (6 < cr_1j1.fOp)))) || ((!decide (cr_1j1.fKind = 12)) && (!decide (cr_1j1.fOp = 0)))) = false →
 C_gnomon_gnomonref9_operand cr_1j1.fA s8j1 s1j1 H (fun (r0_14 : Bool) (H_6 : Hp) => 
 TG (r0_14 = true) (C_gnomon_gnomonref9_operand cr_1j1.fB s9j1 s1j1 H_6) false H_6 (fun (r0_23 : Bool) (H_15 : Hp) =>
 K (r0_14 && r0_23) H_15)))))
def T_gnomon_gnomonref9_Right_j5 (s1j5 : Int) (s2j5 : Int) (s7j5 : Bool) (s30j5 : Bool) (cr_1j5 : Tapi_Edge) (H : Hp) (K : Bool → Hp → Prop) : Prop :=
 (s30j5 = true →
 T_gnomon_gnomonref9_Right_j1 s1j5 s2j5 s7j5 true true cr_1j5 H K) ∧
 (s30j5 = false →
 K false H)
def T_gnomon_gnomonref9_Right_j4 (s1j4 : Int) (s2j4 : Int) (s7j4 : Bool) (s8j4 : Bool) (s9j4 : Bool) (s12j4 : Int) (s20j4 : Bool) (cr_1j4 : Tapi_Edge) (H : Hp) (K : Bool → Hp → Prop) : Prop :=
 (s20j4 = true →
 T_gnomon_gnomonref9_Right_j1 s1j4 s2j4 true true true cr_1j4 H K) ∧
 (s20j4 = false →
 (s12j4 = 9 →
 T_gnomon_gnomonref9_Right_j1 s1j4 s2j4 true s8j4 s9j4 cr_1j4 H K) ∧
 (¬ (s12j4 = 9) →
 (s12j4 = 10 →
 T_gnomon_gnomonref9_Right_j1 s1j4 s2j4 true true s9j4 cr_1j4 H K) ∧
 (¬ (s12j4 = 10) →
 (s12j4 = 11 →
 T_gnomon_gnomonref9_Right_j5 s1j4 s2j4 s7j4 (decide (s12j4 = 11)) cr_1j4 H K) ∧
 (¬ (s12j4 = 11) →
 T_gnomon_gnomonref9_Right_j5 s1j4 s2j4 s7j4 (decide (s12j4 = 12)) cr_1j4 H K))))
def T_gnomon_gnomonref9_Right_j3 (s1j3 : Int) (s2j3 : Int) (s7j3 : Bool) (s8j3 : Bool) (s9j3 : Bool) (s12j3 : Int) (s17j3 : Bool) (cr_1j3 : Tapi_Edge) (H : Hp) (K : Bool → Hp → Prop) : Prop :=
 (s17j3 = true →
 T_gnomon_gnomonref9_Right_j1 s1j3 s2j3 true true s9j3 cr_1j3 H K) ∧
 (s17j3 = false →
 (s12j3 = 4 →
 T_gnomon_gnomonref9_Right_j4 s1j3 s2j3 s7j3 s8j3 s9j3 s12j3 (decide (s12j3 = 4)) cr_1j3 H K) ∧
 (¬ (s12j3 = 4) →
 (s12j3 = 5 →
 T_gnomon_gnomonref9_Right_j4 s1j3 s2j3 s7j3 s8j3 s9j3 s12j3 (decide (s12j3 = 5)) cr_1j3 H K) ∧
 (¬ (s12j3 = 5) →
 (s12j3 = 6 →
 T_gnomon_gnomonref9_Right_j4 s1j3 s2j3 s7j3 s8j3 s9j3 s12j3 (decide (s12j3 = 6)) cr_1j3 H K) ∧
 (¬ (s12j3 = 6) →
 (s12j3 = 7 →
 T_gnomon_gnomonref9_Right_j4 s1j3 s2j3 s7j3 s8j3 s9j3 s12j3 (decide (s12j3 = 7)) cr_1j3 H K) ∧
 (¬ (s12j3 = 7) →
 T_gnomon_gnomonref9_Right_j4 s1j3 s2j3 s7j3 s8j3 s9j3 s12j3 (decide (s12j3 = 8)) cr_1j3 H K)))))
def T_gnomon_gnomonref9_Right_j2 (s1j2 : Int) (s2j2 : Int) (s7j2 : Bool) (s8j2 : Bool) (s9j2 : Bool) (s12j2 : Int) (s13j2 : Bool) (cr_1j2 : Tapi_Edge) (H : Hp) (K : Bool → Hp → Prop) : Prop :=
 (s13j2 = true →
 T_gnomon_gnomonref9_Right_j1 s1j2 s2j2 s7j2 s8j2 s9j2 cr_1j2 H K) ∧
 (s13j2 = false →
 (s12j2 = 2 →
 T_gnomon_gnomonref9_Right_j3 s1j2 s2j2 s7j2 s8j2 s9j2 s12j2 (decide (s12j2 = 2)) cr_1j2 H K) ∧
 (¬ (s12j2 = 2) →
 T_gnomon_gnomonref9_Right_j3 s1j2 s2j2 s7j2 s8j2 s9j2 s12j2 (decide (s12j2 = 3)) cr_1j2 H K))
def T_gnomon_gnomonref9_Right (x0 : Tapi_Edge) (x1 : Int) (x2 : Int) (H : Hp) (K : Bool → Hp → Prop) : Prop :=
 (x0.fKind = 1 →
 T_gnomon_gnomonref9_Right_j2 x1 x2 false false false x0.fKind (decide (x0.fKind = 1)) x0 H K) ∧
 (¬ (x0.fKind = 1) →
 (x0.fKind = 13 →
 T_gnomon_gnomonref9_Right_j2 x1 x2 false false false x0.fKind (decide (x0.fKind = 13)) x0 H K) ∧
 (¬ (x0.fKind = 13) →
 T_gnomon_gnomonref9_Right_j2 x1 x2 false false false x0.fKind (decide (x0.fKind = 14)) x0 H K))
theorem LF_gnomon_gnomonref9_Right (x0 : Tapi_Edge) (x1 : Int) (x2 : Int) {w0 w : World} {ps0 : Nat → Prop} {H0 H : Hp} {K : Bool → Hp → Prop} {R : Value → World → Prop} {E : Pan} (I : Inv w0 ps0 H0 H [] w) (hR : ∀ (r0 : Bool) (H' : Hp) (w' : World) (_ : Inv w0 ps0 H0 H' [] w') (_ : K r0 H'), R (Value.bool r0) w') (h : T_gnomon_gnomonref9_Right x0 x1 x2 H K) : F45 (Value.agg (cs_api_Edge x0).toArray) (vi x1) (vi x2) w R E := by
 unfold T_gnomon_gnomonref9_Right at h
 unfold F45
 refine s_box I (cs := (cs_api_Edge x0)) rfl fun g_2 w_3 I_4 k_5 => ?_
 have hj1 : ∀ (s7j1 : Bool) (s8j1 : Bool) (s9j1 : Bool) (H : Hp) (w : World) (_ : Inv w0 ps0 H0 H [bx g_2 52 (cs_api_Edge x0)] w) (_ : T_gnomon_gnomonref9_Right_j1 x1 x2 s7j1 s8j1 s9j1 x0 H K), F45_j1 (vi x1) (vi x2) (Value.pointer (some ⟨g_2, 0, none⟩)) (Value.bool s7j1) (Value.bool s8j1) (Value.bool s9j1) w R E := by
  intro s7j1 s8j1 s9j1 H w I h
  unfold F45_j1
  intro _
  unfold T_gnomon_gnomonref9_Right_j1 at h
  refine opK_pu (Pu.g fun hb => by have hb_0 := hb; first | exact pu_fa_52_3 | (simp only [gval_t hb_0, gv_t hb_0, gv_t hb, gva_tt hb_0]; exact pu_fa_52_3) | (simp only [gval_t hb_0, gv_t hb_0, gv_t hb, gva_tf hb_0, gv_n]; exact pu_fa_52_3)) ?_
  refine opK_ld (Ld.g fun hb => by have hb_0 := hb; first | exact (ld1 Try.isAgg3 (I.at1 (o := 3) (vs := [(vi x0.fDst)]) (nb rfl) rfl)) | (simp only [gv_t hb_0]; exact (ld1 Try.isAgg3 (I.at1 (o := 3) (vs := [(vi x0.fDst)]) (nb rfl) rfl))) | (simp only [gval_t hb_0, gv_t hb_0, gv_t hb, gva_tf hb_0, gv_n]; exact (ld1 Try.isAgg3 (I.at1 (o := 3) (vs := [(vi x0.fDst)]) (nb rfl) rfl)))) ?_
  refine opK_pu (Pu.g fun hb => by have hb_0 := hb; first | exact (pu_lss _ _ _ _ _ _) | (simp only [gv_t hb_0]; exact (pu_lss _ _ _ _ _ _)) | (simp only [gval_t hb_0, gv_t hb_0, gv_t hb, gva_tf hb_0, gv_n]; exact (pu_lss _ _ _ _ _ _))) ?_
  try simp only [gval_b, gv_gv, gvl_tf]
  refine opK_pu (Pu.e (gsgg_tf _ _ _) (Pu.g fun hb => by obtain ⟨hb_0, hb_1⟩ := gg_tf hb; first | exact pu_fa_52_3 | (simp only [gval_t hb_0, gv_t hb_0, gval_t hb_1, gv_t hb_1, gv_t hb, gv_n]; exact pu_fa_52_3))) ?_
  refine opK_ld (Ld.e (gsgg_tf _ _ _) (Ld.g fun hb => by obtain ⟨hb_0, hb_1⟩ := gg_tf hb; first | exact (ld1 Try.isAgg3 (I.at1 (o := 3) (vs := [(vi x0.fDst)]) (nb rfl) rfl)) | (simp only [gv_t hb]; exact (ld1 Try.isAgg3 (I.at1 (o := 3) (vs := [(vi x0.fDst)]) (nb rfl) rfl))))) ?_
  try simp only [gval_b, gv_gv, gvl_tt, gvl_tf, gvl_ft, gvl_ff, gvg_tt, gvg_tf, gvg_ft, gvg_ff]
  refine opK_pu (Pu.e (gsgg_tf _ _ _) (Pu.g fun hb => by obtain ⟨hb_0, hb_1⟩ := gg_tf hb; first | exact (pu_geq _ _ _ _ _ _) | (simp only [gv_t hb]; exact (pu_geq _ _ _ _ _ _)))) ?_
  refine opK_pu (Pu.g fun hb => by have hb_0 := hb; first | exact (pu_or _ _) | (simp only [gv_t hb_0, gva_tt hb_0]; exact (pu_or _ _)) | (simp only [gv_t hb_0, gva_tf hb_0]; exact (pu_or _ _))) ?_
  refine opK_pu (pu_and _ _) ?_
  try simp only [gval_b]
  refine opK_pu (Pu.g fun hb => by have hb_0 := hb; first | exact (pu_not _) | (simp only [gv_t hb_0]; exact (pu_not _)) | (simp only [gval_t hb_0, gv_t hb_0, gv_t hb, gva_ff hb_0, gv_n]; exact (pu_not _))) ?_
  try simp only [gv_gv]
  refine opK_pu (Pu.e (gsgg_ft _ _ _) (Pu.g fun hb => by obtain ⟨hb_0, hb_1⟩ := gg_ft hb; first | exact pu_fa_52_3 | (simp only [gval_t hb_0, gv_t hb_0, gval_t hb_1, gv_t hb_1, gv_t hb, gv_n]; exact pu_fa_52_3))) ?_
  refine opK_ld (Ld.e (gsgg_ft _ _ _) (Ld.g fun hb => by obtain ⟨hb_0, hb_1⟩ := gg_ft hb; first | exact (ld1 Try.isAgg3 (I.at1 (o := 3) (vs := [(vi x0.fDst)]) (nb rfl) rfl)) | (simp only [gv_t hb]; exact (ld1 Try.isAgg3 (I.at1 (o := 3) (vs := [(vi x0.fDst)]) (nb rfl) rfl))))) ?_
  refine opK_pu (Pu.e (gsgg_ft _ _ _) (Pu.g fun hb => by obtain ⟨hb_0, hb_1⟩ := gg_ft hb; first | exact (pu_neq _ _ _ _ _ _) | (simp only [gv_t hb]; exact (pu_neq _ _ _ _ _ _)))) ?_
  refine opK_pu (Pu.g fun hb => by have hb_0 := hb; first | exact (pu_and _ _) | (simp only [gv_t hb_0, gva_ft hb_0]; exact (pu_and _ _)) | (simp only [gval_t hb_0, gv_t hb_0, gv_t hb, gva_ff hb_0, gv_n]; exact (pu_and _ _))) ?_
  refine opK_pu (pu_or _ _) ?_
  refine xcond_b (fun c_27 => ?_) (fun c_27 => ?_)
  ·replace h := h.1 c_27
   exact hR false H _ I.drop h
  ·replace h := h.2 c_27
   refine opK_pu pu_fa_52_2 ?_
   refine opK_ld (ld1 Try.isAgg3 (I.at1 (o := 2) (vs := [(vi x0.fKind)]) (nb rfl) rfl)) ?_
   refine opK_pu (pu_eql _ _ _ _ _ _) ?_
   refine opK_pu (Pu.g fun hb => by have hb_0 := hb; first | exact pu_fa_52_2 | (simp only [gval_t hb_0, gv_t hb_0, gv_t hb, gva_ft hb_0]; exact pu_fa_52_2) | (simp only [gval_t hb_0, gv_t hb_0, gv_t hb, gva_ff hb_0, gv_n]; exact pu_fa_52_2)) ?_
   refine opK_ld (Ld.g fun hb => by have hb_0 := hb; first | exact (ld1 Try.isAgg3 (I.at1 (o := 2) (vs := [(vi x0.fKind)]) (nb rfl) rfl)) | (simp only [gv_t hb_0]; exact (ld1 Try.isAgg3 (I.at1 (o := 2) (vs := [(vi x0.fKind)]) (nb rfl) rfl))) | (simp only [gval_t hb_0, gv_t hb_0, gv_t hb, gva_ff hb_0, gv_n]; exact (ld1 Try.isAgg3 (I.at1 (o := 2) (vs := [(vi x0.fKind)]) (nb rfl) rfl)))) ?_
   refine opK_pu (Pu.g fun hb => by have hb_0 := hb; first | exact (pu_eql _ _ _ _ _ _) | (simp only [gv_t hb_0]; exact (pu_eql _ _ _ _ _ _)) | (simp only [gval_t hb_0, gv_t hb_0, gv_t hb, gva_ff hb_0, gv_n]; exact (pu_eql _ _ _ _ _ _))) ?_
   refine opK_pu (pu_or _ _) ?_
   refine opK_pu (Pu.g fun hb => by have hb_0 := hb; first | exact pu_fa_52_4 | (simp only [gval_t hb_0, gv_t hb_0, gv_t hb, gva_tt hb_0]; exact pu_fa_52_4) | (simp only [gval_t hb_0, gv_t hb_0, gv_t hb, gva_tf hb_0, gv_n]; exact pu_fa_52_4)) ?_
   refine opK_ld (Ld.g fun hb => by have hb_0 := hb; first | exact (ld1 Try.isAgg3 (I.at1 (o := 4) (vs := [(vi x0.fArr)]) (nb rfl) rfl)) | (simp only [gv_t hb_0]; exact (ld1 Try.isAgg3 (I.at1 (o := 4) (vs := [(vi x0.fArr)]) (nb rfl) rfl))) | (simp only [gval_t hb_0, gv_t hb_0, gv_t hb, gva_tf hb_0, gv_n]; exact (ld1 Try.isAgg3 (I.at1 (o := 4) (vs := [(vi x0.fArr)]) (nb rfl) rfl)))) ?_
   refine opK_pu (Pu.g fun hb => by have hb_0 := hb; first | exact (pu_lss _ _ _ _ _ _) | (simp only [gv_t hb_0]; exact (pu_lss _ _ _ _ _ _)) | (simp only [gval_t hb_0, gv_t hb_0, gv_t hb, gva_tf hb_0, gv_n]; exact (pu_lss _ _ _ _ _ _))) ?_
   try simp only [gval_b, gv_gv, gvl_tf]
   refine opK_pu (Pu.e (gsgg_tf _ _ _) (Pu.g fun hb => by obtain ⟨hb_0, hb_1⟩ := gg_tf hb; first | exact pu_fa_52_4 | (simp only [gval_t hb_0, gv_t hb_0, gval_t hb_1, gv_t hb_1, gv_t hb, gv_n]; exact pu_fa_52_4))) ?_
   refine opK_ld (Ld.e (gsgg_tf _ _ _) (Ld.g fun hb => by obtain ⟨hb_0, hb_1⟩ := gg_tf hb; first | exact (ld1 Try.isAgg3 (I.at1 (o := 4) (vs := [(vi x0.fArr)]) (nb rfl) rfl)) | (simp only [gv_t hb]; exact (ld1 Try.isAgg3 (I.at1 (o := 4) (vs := [(vi x0.fArr)]) (nb rfl) rfl))))) ?_
   try simp only [gval_b, gv_gv, gvl_tt, gvl_tf, gvl_ft, gvl_ff, gvg_tt, gvg_tf, gvg_ft, gvg_ff]
   refine opK_pu (Pu.e (gsgg_tf _ _ _) (Pu.g fun hb => by obtain ⟨hb_0, hb_1⟩ := gg_tf hb; first | exact (pu_geq _ _ _ _ _ _) | (simp only [gv_t hb]; exact (pu_geq _ _ _ _ _ _)))) ?_
   refine opK_pu (Pu.g fun hb => by have hb_0 := hb; first | exact (pu_or _ _) | (simp only [gv_t hb_0, gva_tt hb_0]; exact (pu_or _ _)) | (simp only [gv_t hb_0, gva_tf hb_0]; exact (pu_or _ _))) ?_
   refine opK_pu (pu_and _ _) ?_
   try simp only [gval_b]
   refine opK_pu (Pu.g fun hb => by have hb_0 := hb; first | exact (pu_not _) | (simp only [gv_t hb_0]; exact (pu_not _)) | (simp only [gval_t hb_0, gv_t hb_0, gv_t hb, gva_ff hb_0, gv_n]; exact (pu_not _))) ?_
   try simp only [gv_gv]
   refine opK_pu (Pu.e (gsgg_ft _ _ _) (Pu.g fun hb => by obtain ⟨hb_0, hb_1⟩ := gg_ft hb; first | exact pu_fa_52_4 | (simp only [gval_t hb_0, gv_t hb_0, gval_t hb_1, gv_t hb_1, gv_t hb, gv_n]; exact pu_fa_52_4))) ?_
   refine opK_ld (Ld.e (gsgg_ft _ _ _) (Ld.g fun hb => by obtain ⟨hb_0, hb_1⟩ := gg_ft hb; first | exact (ld1 Try.isAgg3 (I.at1 (o := 4) (vs := [(vi x0.fArr)]) (nb rfl) rfl)) | (simp only [gv_t hb]; exact (ld1 Try.isAgg3 (I.at1 (o := 4) (vs := [(vi x0.fArr)]) (nb rfl) rfl))))) ?_
   refine opK_pu (Pu.e (gsgg_ft _ _ _) (Pu.g fun hb => by obtain ⟨hb_0, hb_1⟩ := gg_ft hb; first | exact (pu_neq _ _ _ _ _ _) | (simp only [gv_t hb]; exact (pu_neq _ _ _ _ _ _)))) ?_
   refine opK_pu (Pu.g fun hb => by have hb_0 := hb; first | exact (pu_and _ _) | (simp only [gv_t hb_0, gva_ft hb_0]; exact (pu_and _ _)) | (simp only [gval_t hb_0, gv_t hb_0, gv_t hb, gva_ff hb_0, gv_n]; exact (pu_and _ _))) ?_
   refine opK_pu (pu_or _ _) ?_
   refine xcond_b (fun c_26 => ?_) (fun c_26 => ?_)
   ·replace h := h.1 c_26
    exact hR false H _ I.drop h
   ·replace h := h.2 c_26
    refine opK_pu pu_fa_52_2 ?_
    refine opK_ld (ld1 Try.isAgg3 (I.at1 (o := 2) (vs := [(vi x0.fKind)]) (nb rfl) rfl)) ?_
    refine opK_pu (pu_eql _ _ _ _ _ _) ?_
    refine opK_pu (Pu.g fun hb => by have hb_0 := hb; first | exact pu_fa_52_5 | (simp only [gval_t hb_0, gv_t hb_0, gv_t hb, gva_tt hb_0]; exact pu_fa_52_5) | (simp only [gval_t hb_0, gv_t hb_0, gv_t hb, gva_tf hb_0, gv_n]; exact pu_fa_52_5)) ?_
    refine opK_ld (Ld.g fun hb => by have hb_0 := hb; first | exact (ld1 Try.isAgg3 (I.at1 (o := 5) (vs := [(vi x0.fOp)]) (nb rfl) rfl)) | (simp only [gv_t hb_0]; exact (ld1 Try.isAgg3 (I.at1 (o := 5) (vs := [(vi x0.fOp)]) (nb rfl) rfl))) | (simp only [gval_t hb_0, gv_t hb_0, gv_t hb, gva_tf hb_0, gv_n]; exact (ld1 Try.isAgg3 (I.at1 (o := 5) (vs := [(vi x0.fOp)]) (nb rfl) rfl)))) ?_
    refine opK_pu (Pu.g fun hb => by have hb_0 := hb; first | exact (pu_lss _ _ _ _ _ _) | (simp only [gv_t hb_0]; exact (pu_lss _ _ _ _ _ _)) | (simp only [gval_t hb_0, gv_t hb_0, gv_t hb, gva_tf hb_0, gv_n]; exact (pu_lss _ _ _ _ _ _))) ?_
    try simp only [gval_b, gv_gv]
    refine opK_pu (Pu.e (gsgg_tf _ _ _) (Pu.g fun hb => by obtain ⟨hb_0, hb_1⟩ := gg_tf hb; first | exact pu_fa_52_5 | (simp only [gval_t hb_0, gv_t hb_0, gval_t hb_1, gv_t hb_1, gv_t hb, gv_n]; exact pu_fa_52_5))) ?_
    refine opK_ld (Ld.e (gsgg_tf _ _ _) (Ld.g fun hb => by obtain ⟨hb_0, hb_1⟩ := gg_tf hb; first | exact (ld1 Try.isAgg3 (I.at1 (o := 5) (vs := [(vi x0.fOp)]) (nb rfl) rfl)) | (simp only [gv_t hb]; exact (ld1 Try.isAgg3 (I.at1 (o := 5) (vs := [(vi x0.fOp)]) (nb rfl) rfl))))) ?_
    refine opK_pu (Pu.e (gsgg_tf _ _ _) (Pu.g fun hb => by obtain ⟨hb_0, hb_1⟩ := gg_tf hb; first | exact (pu_gtr _ _ _ _ _ _) | (simp only [gv_t hb]; exact (pu_gtr _ _ _ _ _ _)))) ?_
    refine opK_pu (Pu.g fun hb => by have hb_0 := hb; first | exact (pu_or _ _) | (simp only [gv_t hb_0, gva_tt hb_0]; exact (pu_or _ _)) | (simp only [gv_t hb_0, gva_tf hb_0]; exact (pu_or _ _))) ?_
    refine opK_pu (pu_and _ _) ?_
    refine opK_pu (Pu.g fun hb => by have hb_0 := hb; first | exact pu_fa_52_2 | (simp only [gval_t hb_0, gv_t hb_0, gv_t hb, gva_ft hb_0]; exact pu_fa_52_2) | (simp only [gval_t hb_0, gv_t hb_0, gv_t hb, gva_ff hb_0, gv_n]; exact pu_fa_52_2)) ?_
    refine opK_ld (Ld.g fun hb => by have hb_0 := hb; first | exact (ld1 Try.isAgg3 (I.at1 (o := 2) (vs := [(vi x0.fKind)]) (nb rfl) rfl)) | (simp only [gv_t hb_0]; exact (ld1 Try.isAgg3 (I.at1 (o := 2) (vs := [(vi x0.fKind)]) (nb rfl) rfl))) | (simp only [gval_t hb_0, gv_t hb_0, gv_t hb, gva_ff hb_0, gv_n]; exact (ld1 Try.isAgg3 (I.at1 (o := 2) (vs := [(vi x0.fKind)]) (nb rfl) rfl)))) ?_
    refine opK_pu (Pu.g fun hb => by have hb_0 := hb; first | exact (pu_neq _ _ _ _ _ _) | (simp only [gv_t hb_0]; exact (pu_neq _ _ _ _ _ _)) | (simp only [gval_t hb_0, gv_t hb_0, gv_t hb, gva_ff hb_0, gv_n]; exact (pu_neq _ _ _ _ _ _))) ?_
    try simp only [gval_b, gv_gv]
    refine opK_pu (Pu.e (gsgg_ft _ _ _) (Pu.g fun hb => by obtain ⟨hb_0, hb_1⟩ := gg_ft hb; first | exact pu_fa_52_5 | (simp only [gval_t hb_0, gv_t hb_0, gval_t hb_1, gv_t hb_1, gv_t hb, gv_n]; exact pu_fa_52_5))) ?_
    refine opK_ld (Ld.e (gsgg_ft _ _ _) (Ld.g fun hb => by obtain ⟨hb_0, hb_1⟩ := gg_ft hb; first | exact (ld1 Try.isAgg3 (I.at1 (o := 5) (vs := [(vi x0.fOp)]) (nb rfl) rfl)) | (simp only [gv_t hb]; exact (ld1 Try.isAgg3 (I.at1 (o := 5) (vs := [(vi x0.fOp)]) (nb rfl) rfl))))) ?_
    refine opK_pu (Pu.e (gsgg_ft _ _ _) (Pu.g fun hb => by obtain ⟨hb_0, hb_1⟩ := gg_ft hb; first | exact (pu_neq _ _ _ _ _ _) | (simp only [gv_t hb]; exact (pu_neq _ _ _ _ _ _)))) ?_
    refine opK_pu (Pu.g fun hb => by have hb_0 := hb; first | exact (pu_and _ _) | (simp only [gv_t hb_0, gva_ft hb_0]; exact (pu_and _ _)) | (simp only [gval_t hb_0, gv_t hb_0, gv_t hb, gva_ff hb_0, gv_n]; exact (pu_and _ _))) ?_
    refine opK_pu (pu_or _ _) ?_
    refine xcond_b (fun c_25 => ?_) (fun c_25 => ?_)
    ·replace h := h.1 c_25
     exact hR false H _ I.drop h
    ·replace h := h.2 c_25
     refine opK_pu pu_fa_52_6 ?_
     refine opK_ld (ldA Try.isAgg50 Try.sizeOf50 rfl (I.at1 (o := 6) (vs := (cs_api_Operand x0.fA)) (nb rfl) rfl)) ?_
     refine opK_calls (cap := []) (fun args w => Try.call68 args w) ?_
     refine Cv_ct (Fi := []) (Fr := [bx g_2 52 (cs_api_Edge x0)]) I (h) (fun v_10 H_6 F_11 w_7 I_8 l_13 k_9 q_12 => ?_) (fun _ _ _ _ _ q => q.elim)
     obtain ⟨r0_14, rfl, rfl, h⟩ := q_12
     refine opK_pu (Pu.g fun hb => by have hb_0 := hb; first | exact pu_fa_52_7 | (simp only [gval_t hb_0, gv_t hb_0, gv_t hb, gva_tt hb_0]; exact pu_fa_52_7) | (simp only [gval_t hb_0, gv_t hb_0, gv_t hb, gva_tf hb_0, gv_n]; exact pu_fa_52_7)) ?_
     refine opK_ld (Ld.g fun hb => by have hb_0 := hb; first | exact (ldA Try.isAgg50 Try.sizeOf50 rfl (I_8.at1 (o := 8) (vs := (cs_api_Operand x0.fB)) (nb rfl) rfl)) | (simp only [gv_t hb_0]; exact (ldA Try.isAgg50 Try.sizeOf50 rfl (I_8.at1 (o := 8) (vs := (cs_api_Operand x0.fB)) (nb rfl) rfl))) | (simp only [gval_t hb_0, gv_t hb_0, gv_t hb, gva_tf hb_0, gv_n]; exact (ldA Try.isAgg50 Try.sizeOf50 rfl (I_8.at1 (o := 8) (vs := (cs_api_Operand x0.fB)) (nb rfl) rfl)))) ?_
     try simp only [gval_b]
     try simp only [gval_b, gv_gv, gvl_tt, gvl_tf, gvl_ft, gvl_ff, gvg_tt, gvg_tf, gvg_ft, gvg_ff]
     refine opK_g2 (D := fun v_19 w_16 => ∃ (r0_23 : Bool) (H_15 : Hp), v_19 = (gv r0_14 true (Value.bool r0_23)) ∧ (Inv w0 ps0 H0 H_15 [bx g_2 52 (cs_api_Edge x0)] w_16) ∧ (∀ i, i < w_7.heap.size → ¬ inF [] i → w_16.heap[i]? = w_7.heap[i]?) ∧ Hle H_6 H_15 ∧ (K (r0_14 && r0_23) H_15)) (fun b_24 => ?_) (fun b_24 => ?_) ?_
     ·replace h := h.1 b_24
      have hb_0 := b_24
      try simp only [gv_t hb_0]
      refine opK_calls (cap := []) (fun args w => Try.call68 args w) ?_
      refine Cv_ct (Fi := []) (Fr := [bx g_2 52 (cs_api_Edge x0)]) I_8 (h) (fun v_19 H_15 F_20 w_16 I_17 l_22 k_18 q_21 => ?_) (fun _ _ _ _ _ q => q.elim)
      obtain ⟨r0_23, rfl, rfl, h⟩ := q_21
      exact ⟨r0_23, H_15, by first | rfl | rw [gv_t b_24], I_17, k_18, l_22, h⟩
     ·exact ⟨false, H_6, by first | rfl | rw [gv_f b_24], I_8, fun _ _ _ => rfl, Hle.refl _, h.2 b_24⟩
     ·clear h
      rintro v_19 w_16 ⟨r0_23, H_15, rfl, I_17, k_18, l_22, h⟩
      refine opK_pu (pu_and _ _) ?_
      exact hR (r0_14 && r0_23) H_15 _ I_17.drop h
 refine xcut_i fun j1 hx1 => ?_
 refine opK_pu pu_fa_52_2 ?_
 refine opK_ld (ld1 Try.isAgg3 (I_4.at1 (o := 2) (vs := [(vi x0.fKind)]) (nb rfl) rfl)) ?_
 have hj2 : ∀ (s13j2 : Bool) (H : Hp) (w : World) (_ : Inv w0 ps0 H0 H [bx g_2 52 (cs_api_Edge x0)] w) (_ : T_gnomon_gnomonref9_Right_j2 x1 x2 false false false x0.fKind s13j2 x0 H K), F45_j2 (vi x1) (vi x2) (Value.pointer (some ⟨g_2, 0, none⟩)) (Value.bool false) (Value.bool false) (Value.bool false) (vi x0.fKind) (Value.bool s13j2) w j1 R E := by
  intro s13j2 H w I h
  unfold F45_j2
  intro _
  unfold T_gnomon_gnomonref9_Right_j2 at h
  refine xcond_b (fun c_39 => ?_) (fun c_39 => ?_)
  ·replace h := h.1 c_39
   exact hx1 _ _ (hj1 false false false H _ I h)
  ·replace h := h.2 c_39
   have hj3 : ∀ (s17j3 : Bool) (H : Hp) (w : World) (_ : Inv w0 ps0 H0 H [bx g_2 52 (cs_api_Edge x0)] w) (_ : T_gnomon_gnomonref9_Right_j3 x1 x2 false false false x0.fKind s17j3 x0 H K), F45_j3 (vi x1) (vi x2) (Value.pointer (some ⟨g_2, 0, none⟩)) (Value.bool false) (Value.bool false) (Value.bool false) (vi x0.fKind) (Value.bool s17j3) w j1 R E := by
    intro s17j3 H w I h
    unfold F45_j3
    intro _
    unfold T_gnomon_gnomonref9_Right_j3 at h
    refine xcond_b (fun c_37 => ?_) (fun c_37 => ?_)
    ·replace h := h.1 c_37
     exact hx1 _ _ (hj1 true true false H _ I h)
    ·replace h := h.2 c_37
     have hj4 : ∀ (s20j4 : Bool) (H : Hp) (w : World) (_ : Inv w0 ps0 H0 H [bx g_2 52 (cs_api_Edge x0)] w) (_ : T_gnomon_gnomonref9_Right_j4 x1 x2 false false false x0.fKind s20j4 x0 H K), F45_j4 (vi x1) (vi x2) (Value.pointer (some ⟨g_2, 0, none⟩)) (Value.bool false) (Value.bool false) (Value.bool false) (vi x0.fKind) (Value.bool s20j4) w j1 R E := by
      intro s20j4 H w I h
      unfold F45_j4
      intro _
      unfold T_gnomon_gnomonref9_Right_j4 at h
      refine xcond_b (fun c_32 => ?_) (fun c_32 => ?_)
      ·replace h := h.1 c_32
       exact hx1 _ _ (hj1 true true true H _ I h)
      ·replace h := h.2 c_32
       refine opK_pu (pu_eql _ _ _ _ _ _) ?_
       refine xcond_p (fun c_31 => ?_) (fun c_31 => ?_)
       ·replace h := h.1 c_31
        exact hx1 _ _ (hj1 true false false H _ I h)
       ·replace h := h.2 c_31
        refine opK_pu (pu_eql _ _ _ _ _ _) ?_
        refine xcond_p (fun c_30 => ?_) (fun c_30 => ?_)
        ·replace h := h.1 c_30
         exact hx1 _ _ (hj1 true true false H _ I h)
        ·replace h := h.2 c_30
         have hj5 : ∀ (s30j5 : Bool) (H : Hp) (w : World) (_ : Inv w0 ps0 H0 H [bx g_2 52 (cs_api_Edge x0)] w) (_ : T_gnomon_gnomonref9_Right_j5 x1 x2 false s30j5 x0 H K), F45_j5 (vi x1) (vi x2) (Value.pointer (some ⟨g_2, 0, none⟩)) (Value.bool false) (Value.bool s30j5) w j1 R E := by
          intro s30j5 H w I h
          unfold F45_j5
          intro _
          unfold T_gnomon_gnomonref9_Right_j5 at h
          refine xcond_b (fun c_28 => ?_) (fun c_28 => ?_)
          ·replace h := h.1 c_28
           exact hx1 _ _ (hj1 false true true H _ I h)
          ·replace h := h.2 c_28
           exact hR false H _ I.drop h
         refine xcut_i fun j5 hx5 => ?_
         refine opK_pu (pu_eql _ _ _ _ _ _) ?_
         refine xcond_p (fun c_29 => ?_) (fun c_29 => ?_)
         ·replace h := h.1 c_29
          exact hx5 _ _ (hj5 (decide (x0.fKind = 11)) H _ I h)
         ·replace h := h.2 c_29
          refine opK_pu (pu_eql _ _ _ _ _ _) ?_
          exact hx5 _ _ (hj5 (decide (x0.fKind = 12)) H _ I h)
     refine xcut_i fun j4 hx4 => ?_
     refine opK_pu (pu_eql _ _ _ _ _ _) ?_
     refine xcond_p (fun c_36 => ?_) (fun c_36 => ?_)
     ·replace h := h.1 c_36
      exact hx4 _ _ (hj4 (decide (x0.fKind = 4)) H _ I h)
     ·replace h := h.2 c_36
      refine opK_pu (pu_eql _ _ _ _ _ _) ?_
      refine xcond_p (fun c_35 => ?_) (fun c_35 => ?_)
      ·replace h := h.1 c_35
       exact hx4 _ _ (hj4 (decide (x0.fKind = 5)) H _ I h)
      ·replace h := h.2 c_35
       refine opK_pu (pu_eql _ _ _ _ _ _) ?_
       refine xcond_p (fun c_34 => ?_) (fun c_34 => ?_)
       ·replace h := h.1 c_34
        exact hx4 _ _ (hj4 (decide (x0.fKind = 6)) H _ I h)
       ·replace h := h.2 c_34
        refine opK_pu (pu_eql _ _ _ _ _ _) ?_
        refine xcond_p (fun c_33 => ?_) (fun c_33 => ?_)
        ·replace h := h.1 c_33
         exact hx4 _ _ (hj4 (decide (x0.fKind = 7)) H _ I h)
        ·replace h := h.2 c_33
         refine opK_pu (pu_eql _ _ _ _ _ _) ?_
         exact hx4 _ _ (hj4 (decide (x0.fKind = 8)) H _ I h)
   refine xcut_i fun j3 hx3 => ?_
   refine opK_pu (pu_eql _ _ _ _ _ _) ?_
   refine xcond_p (fun c_38 => ?_) (fun c_38 => ?_)
   ·replace h := h.1 c_38
    exact hx3 _ _ (hj3 (decide (x0.fKind = 2)) H _ I h)
   ·replace h := h.2 c_38
    refine opK_pu (pu_eql _ _ _ _ _ _) ?_
    exact hx3 _ _ (hj3 (decide (x0.fKind = 3)) H _ I h)
 refine xcut_i fun j2 hx2 => ?_
 refine opK_pu (pu_eql _ _ _ _ _ _) ?_
 refine xcond_p (fun c_41 => ?_) (fun c_41 => ?_)
 ·replace h := h.1 c_41
  exact hx2 _ _ (hj2 (decide (x0.fKind = 1)) H _ I_4 h)
 ·replace h := h.2 c_41
  refine opK_pu (pu_eql _ _ _ _ _ _) ?_
  refine xcond_p (fun c_40 => ?_) (fun c_40 => ?_)
  ·replace h := h.1 c_40
   exact hx2 _ _ (hj2 (decide (x0.fKind = 13)) H _ I_4 h)
  ·replace h := h.2 c_40
   refine opK_pu (pu_eql _ _ _ _ _ _) ?_
   exact hx2 _ _ (hj2 (decide (x0.fKind = 14)) H _ I_4 h)
theorem L_gnomon_gnomonref9_Right (x0 : Tapi_Edge) (x1 : Int) (x2 : Int) {H : Hp} {K : Bool → Hp → Prop} (h : T_gnomon_gnomonref9_Right x0 x1 x2 H K) : C_gnomon_gnomonref9_Right x0 x1 x2 H K := by
 intro w I
 refine F45_ok ?_
 refine LF_gnomon_gnomonref9_Right x0 x1 x2 I (fun r0 H' w' I' hk => ⟨H', _, I', r0, rfl, rfl, hk⟩) h


end Go.Proofs.Ytgapepdglhcglaa
