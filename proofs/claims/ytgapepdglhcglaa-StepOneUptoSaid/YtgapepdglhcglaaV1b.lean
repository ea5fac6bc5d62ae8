/-
  Typed formulas of the program's functions, and the theorems that the contracts follow from them; printed by lift.py off the code.
-/
import Derived.Test.YtgapepdglhcglaaV1
namespace Go.Proofs.Ytgapepdglhcglaa
open Go.RowKit
set_option maxRecDepth 100000
set_option maxHeartbeats 2000000

/- function 44: (*gnomon/step.state).value -/
def T_gnomon_step_state_value (_x0 : Tstep_state) (x0_3 : (List Int)) (_x0_4 : (List (List Int))) (_x0_6 : (List Tapi_Event)) (x1 : Tapi_Operand) (H : Hp) (K : Int → Hp → Prop) : Prop :=
 (x1.fVar < 0 →
 K x1.fNum H) ∧
 (¬ (x1.fVar < 0) →
 (0 : Int) ≤ x1.fVar ∧ ∃ x_8 : Int, (x0_3)[(x1.fVar : Int).toNat]? = some x_8 ∧
 K x_8 H)
theorem LF_gnomon_step_state_value (x0 : Tstep_state) (x0_3 : (List Int)) (x0_4 : (List (List Int))) (x0_6 : (List Tapi_Event)) (x1 : Tapi_Operand) (g0 : Nat) (sx0_3 : Sl) (Fx0_3 : Frag) (sx0_4 : Sl) (Fx0_4 : Frag) (sx0_6 : Sl) (Fx0_6 : Frag) (hx0_3 : RowL 2 1 cs_int64 sx0_3 x0_3 Fx0_3) (_hx0_4 : RowsL 27 2 1 cs_int64 sx0_4 x0_4 Fx0_4) (_hx0_6 : RowL 74 3 cs_api_Event sx0_6 x0_6 Fx0_6) {w0 w : World} {ps0 : Nat → Prop} {H0 H : Hp} {K : Int → Hp → Prop} {R : Value → World → Prop} {E : Pan} (I : Inv w0 ps0 H0 H [bx g0 58 [(vs x0.fc.fVars), (vi x0.fc.fTemps), (vs x0.fc.fArrays), (vi x0.fc.fPoints), (vi x0.fc.fExit), (vs x0.fc.fEdges), (vs x0.ffrom), (vi x0.fpoint), (vs sx0_3), (vs sx0_4), (vs x0.fscript), (vs sx0_6)], Fx0_3, Fx0_4, Fx0_6] w) (hR : ∀ (r0 : Int) (H' : Hp) (w' : World) (_ : Inv w0 ps0 H0 H' [bx g0 58 [(vs x0.fc.fVars), (vi x0.fc.fTemps), (vs x0.fc.fArrays), (vi x0.fc.fPoints), (vi x0.fc.fExit), (vs x0.fc.fEdges), (vs x0.ffrom), (vi x0.fpoint), (vs sx0_3), (vs sx0_4), (vs x0.fscript), (vs sx0_6)], Fx0_3, Fx0_4, Fx0_6] w') (_ : K r0 H'), R (vi r0) w') (h : T_gnomon_step_state_value x0 x0_3 x0_4 x0_6 x1 H K) : F44 (Value.pointer (some ⟨g0, 0, none⟩)) (Value.agg (cs_api_Operand x1).toArray) w R E := by
 unfold T_gnomon_step_state_value at h
 unfold F44
 refine s_box I (cs := (cs_api_Operand x1)) rfl fun g_2 w_3 I_4 k_5 => ?_
 refine opK_pu pu_fa_50_0 ?_
 refine opK_ld (ld1 Try.isAgg3 (I_4.at1 (o := 0) (vs := [(vi x1.fVar)]) (nb rfl) rfl)) ?_
 refine opK_pu (pu_lss _ _ _ _ _ _) ?_
 refine xcond_p (fun c_15 => ?_) (fun c_15 => ?_)
 ·replace h := h.1 c_15
  refine opK_pu pu_fa_50_1 ?_
  refine opK_ld (ld1 Try.isAgg2 (I_4.at1 (o := 1) (vs := [(vi x1.fNum)]) (nb rfl) rfl)) ?_
  exact hR x1.fNum H _ ((((I_4.drop.bring 3).bring 3).bring 3).bring 3) h
 ·replace h := h.2 c_15
  refine s_dX I_4 fun w_6 I_7 => ?_
  refine qP_pu (pu_nilp _) ?_
  refine qP_pu pu_fa_58_3 ?_
  refine qP_pu pu_fa_50_0 ?_
  refine qL_ld (ld1 Try.isAgg27 ((I_7.bring 1).at1 (o := 8) (vs := [(vs sx0_3)]) (nb rfl) rfl)) ?_
  refine qL_ld (ld1 Try.isAgg3 (I_7.at1 (o := 0) (vs := [(vi x1.fVar)]) (nb rfl) rfl)) ?_
  obtain ⟨h_10, x_8, h_11, h⟩ := h
  obtain ⟨g_9, a_13, h_12, h_14⟩ := hx0_3.addr h_11
  refine qP_pu (pu_ix_27 h_12 _ _ _ _ h_10 (hx0_3.lt h_10 h_11)) ?_
  refine qL_ld (ld1 (v := (vi x_8)) Try.isAgg2 (hx0_3.atW (I_7.bring 2) h_12 h_11)) ?_
  exact hR x_8 H _ ((((I_7.drop.bring 3).bring 3).bring 3).bring 3) h
theorem L_gnomon_step_state_value (x0 : Tstep_state) (x0_3 : (List Int)) (x0_4 : (List (List Int))) (x0_6 : (List Tapi_Event)) (x1 : Tapi_Operand) {H : Hp} {K : Int → Hp → Prop} (h : T_gnomon_step_state_value x0 x0_3 x0_4 x0_6 x1 H K) : C_gnomon_step_state_value x0 x0_3 x0_4 x0_6 x1 H K := by
 intro g0 sx0_3 Fx0_3 sx0_4 Fx0_4 sx0_6 Fx0_6 hx0_3 hx0_4 hx0_6 w I
 refine F44_ok ?_
 refine LF_gnomon_step_state_value x0 x0_3 x0_4 x0_6 x1 g0 sx0_3 Fx0_3 sx0_4 Fx0_4 sx0_6 Fx0_6 hx0_3 hx0_4 hx0_6 I (fun r0 H' w' I' hk => ⟨H', _, I', r0, rfl, rfl, hk⟩) h


/- function 83: gnomon/num.compares$4 -/
def T_gnomon_num_compares_4 (x0 : Int) (x1 : Int) (H : Hp) (K : Bool → Hp → Prop) : Prop :=
 K (!decide (x0 = x1)) H
theorem LF_gnomon_num_compares_4 (x0 : Int) (x1 : Int) {w0 w : World} {ps0 : Nat → Prop} {H0 H : Hp} {K : Bool → Hp → Prop} {R : Value → World → Prop} {E : Pan} (I : Inv w0 ps0 H0 H [] w) (hR : ∀ (r0 : Bool) (H' : Hp) (w' : World) (_ : Inv w0 ps0 H0 H' [] w') (_ : K r0 H'), R (Value.bool r0) w') (h : T_gnomon_num_compares_4 x0 x1 H K) : F83 (vi x0) (vi x1) w R E := by
 unfold T_gnomon_num_compares_4 at h
 unfold F83
 refine opK_pu (pu_neq _ _ _ _ _ _) ?_
 exact hR (!decide (x0 = x1)) H _ I h
theorem L_gnomon_num_compares_4 (x0 : Int) (x1 : Int) {H : Hp} {K : Bool → Hp → Prop} (h : T_gnomon_num_compares_4 x0 x1 H K) : C_gnomon_num_compares_4 x0 x1 H K := by
 intro w I
 refine F83_ok ?_
 refine LF_gnomon_num_compares_4 x0 x1 I (fun r0 H' w' I' hk => ⟨H', _, I', r0, rfl, rfl, hk⟩) h


/- function 84: gnomon/num.compares$5 -/
def T_gnomon_num_compares_5 (x0 : Int) (x1 : Int) (H : Hp) (K : Bool → Hp → Prop) : Prop :=
 K (decide (x1 < x0)) H
theorem LF_gnomon_num_compares_5 (x0 : Int) (x1 : Int) {w0 w : World} {ps0 : Nat → Prop} {H0 H : Hp} {K : Bool → Hp → Prop} {R : Value → World → Prop} {E : Pan} (I : Inv w0 ps0 H0 H [] w) (hR : ∀ (r0 : Bool) (H' : Hp) (w' : World) (_ : Inv w0 ps0 H0 H' [] w') (_ : K r0 H'), R (Value.bool r0) w') (h : T_gnomon_num_compares_5 x0 x1 H K) : F84 (vi x0) (vi x1) w R E := by
 unfold T_gnomon_num_compares_5 at h
 unfold F84
 refine opK_pu (pu_gtr _ _ _ _ _ _) ?_
 exact hR (decide (x1 < x0)) H _ I h
theorem L_gnomon_num_compares_5 (x0 : Int) (x1 : Int) {H : Hp} {K : Bool → Hp → Prop} (h : T_gnomon_num_compares_5 x0 x1 H K) : C_gnomon_num_compares_5 x0 x1 H K := by
 intro w I
 refine F84_ok ?_
 refine LF_gnomon_num_compares_5 x0 x1 I (fun r0 H' w' I' hk => ⟨H', _, I', r0, rfl, rfl, hk⟩) h


/- function 43: gnomon/num.Cmp -/
def T_gnomon_num_Cmp (x0 : Int) (x1 : Int) (x2 : Int) (H : Hp) (K : Bool → Hp → Prop) : Prop :=
 (((decide (x0 < 1)) || (decide (6 < x0))) = true →
 K false H) ∧
 (((decide (x0 < 1)) || (decide (6 < x0))) = false →
 C_gnomon_num_compares H (fun (H_1 : Hp) => 
 (0 : Int) ≤ x0 ∧ (x0 : Int) < 7 ∧
 ∃ K_21 : Bool → Hp → Prop, (∀ (r0_20 : Bool) (H_12 : Hp), K_21 r0_20 H_12 →
 K r0_20 H_12) ∧ ((x0 : Int) = 0 → C_gnomon_num_never x1 x2 H_1 K_21) ∧ ((x0 : Int) = 1 → C_gnomon_num_compares_1 x1 x2 H_1 K_21) ∧ ((x0 : Int) = 2 → C_gnomon_num_compares_2 x1 x2 H_1 K_21) ∧ ((x0 : Int) = 3 → C_gnomon_num_compares_3 x1 x2 H_1 K_21) ∧ ((x0 : Int) = 4 → C_gnomon_num_compares_4 x1 x2 H_1 K_21) ∧ ((x0 : Int) = 5 → C_gnomon_num_compares_5 x1 x2 H_1 K_21) ∧ ((x0 : Int) = 6 → C_gnomon_num_compares_6 x1 x2 H_1 K_21)))
theorem LF_gnomon_num_Cmp (x0 : Int) (x1 : Int) (x2 : Int) {w0 w : World} {ps0 : Nat → Prop} {H0 H : Hp} {K : Bool → Hp → Prop} {R : Value → World → Prop} {E : Pan} (I : Inv w0 ps0 H0 H [] w) (hR : ∀ (r0 : Bool) (H' : Hp) (w' : World) (_ : Inv w0 ps0 H0 H' [] w') (_ : K r0 H'), R (Value.bool r0) w') (h : T_gnomon_num_Cmp x0 x1 x2 H K) : F43 (vi x0) (vi x1) (vi x2) w R E := by
 unfold T_gnomon_num_Cmp at h
 unfold F43
 refine opK_pu (pu_lss _ _ _ _ _ _) ?_
 try simp only [gval_b]
 refine opK_pu (Pu.g fun hb => by have hb_0 := hb; first | exact (pu_gtr _ _ _ _ _ _) | (simp only [gv_t hb_0]; exact (pu_gtr _ _ _ _ _ _)) | (simp only [gval_t hb_0, gv_t hb_0, gv_t hb, gva_ff hb_0, gv_n]; exact (pu_gtr _ _ _ _ _ _))) ?_
 refine opK_pu (pu_or _ _) ?_
 refine xcond_b (fun c_30 => ?_) (fun c_30 => ?_)
 ·replace h := h.1 c_30
  exact hR false H _ I h
 ·replace h := h.2 c_30
  refine opK_calls (cap := []) (fun args w => Try.call67 args w) ?_
  refine Cv_ct (Fi := []) (Fr := []) I (h) (fun v_5 H_1 F_6 w_2 I_3 l_8 k_4 q_7 => ?_) (fun _ _ _ _ _ q => q.elim)
  obtain ⟨rfl, rfl, h⟩ := q_7
  obtain ⟨h_10, h_11, h⟩ := h
  refine opK_pu (pu_ixf_107__82_Value_func_func_83_Value_func_func_84_Value_func_func_85 _ _ h_10 h_11) ?_
  obtain ⟨K_21, h_22, h_23, h_24, h_25, h_26, h_27, h_28, h_29⟩ := h
  refine opK_cut (D := fun v_16 w_13 => ∃ (r0_20 : Bool) (H_12 : Hp), v_16 = (Value.bool r0_20) ∧ (Inv w0 ps0 H0 H_12 [] w_13) ∧ (∀ i, i < w_2.heap.size → ¬ inF [] i → w_13.heap[i]? = w_2.heap[i]?) ∧ Hle H_1 H_12 ∧ (K_21 r0_20 H_12)) ?_ ?_
  ·obtain e | e | e | e | e | e | e := (by omega : (x0 : Int) = 0 ∨ (x0 : Int) = 1 ∨ (x0 : Int) = 2 ∨ (x0 : Int) = 3 ∨ (x0 : Int) = 4 ∨ (x0 : Int) = 5 ∨ (x0 : Int) = 6)
   ·replace h := h_23 e
    refine opK_e (s' := xCall (Value.func (.func 79) #[] #[]) [(vi x1), (vi x2)]) (by rw [e]; rfl) ?_
    refine opK_calls (cap := []) (fun args w => Try.call79 args w) ?_
    refine Cv_ct (Fi := []) (Fr := []) I_3 (h) (fun v_16 H_12 F_17 w_13 I_14 l_19 k_15 q_18 => ?_) (fun _ _ _ _ _ q => q.elim)
    obtain ⟨r0_20, rfl, rfl, h⟩ := q_18
    exact ⟨r0_20, H_12, rfl, I_14, k_15, l_19, h⟩
   ·replace h := h_24 e
    refine opK_e (s' := xCall (Value.func (.func 80) #[] #[]) [(vi x1), (vi x2)]) (by rw [e]; rfl) ?_
    refine opK_calls (cap := []) (fun args w => Try.call80 args w) ?_
    refine Cv_ct (Fi := []) (Fr := []) I_3 (h) (fun v_16 H_12 F_17 w_13 I_14 l_19 k_15 q_18 => ?_) (fun _ _ _ _ _ q => q.elim)
    obtain ⟨r0_20, rfl, rfl, h⟩ := q_18
    exact ⟨r0_20, H_12, rfl, I_14, k_15, l_19, h⟩
   ·replace h := h_25 e
    refine opK_e (s' := xCall (Value.func (.func 81) #[] #[]) [(vi x1), (vi x2)]) (by rw [e]; rfl) ?_
    refine opK_calls (cap := []) (fun args w => Try.call81 args w) ?_
    refine Cv_ct (Fi := []) (Fr := []) I_3 (h) (fun v_16 H_12 F_17 w_13 I_14 l_19 k_15 q_18 => ?_) (fun _ _ _ _ _ q => q.elim)
    obtain ⟨r0_20, rfl, rfl, h⟩ := q_18
    exact ⟨r0_20, H_12, rfl, I_14, k_15, l_19, h⟩
   ·replace h := h_26 e
    refine opK_e (s' := xCall (Value.func (.func 82) #[] #[]) [(vi x1), (vi x2)]) (by rw [e]; rfl) ?_
    refine opK_calls (cap := []) (fun args w => Try.call82 args w) ?_
    refine Cv_ct (Fi := []) (Fr := []) I_3 (h) (fun v_16 H_12 F_17 w_13 I_14 l_19 k_15 q_18 => ?_) (fun _ _ _ _ _ q => q.elim)
    obtain ⟨r0_20, rfl, rfl, h⟩ := q_18
    exact ⟨r0_20, H_12, rfl, I_14, k_15, l_19, h⟩
   ·replace h := h_27 e
    refine opK_e (s' := xCall (Value.func (.func 83) #[] #[]) [(vi x1), (vi x2)]) (by rw [e]; rfl) ?_
    refine opK_calls (cap := []) (fun args w => Try.call83 args w) ?_
    refine Cv_ct (Fi := []) (Fr := []) I_3 (h) (fun v_16 H_12 F_17 w_13 I_14 l_19 k_15 q_18 => ?_) (fun _ _ _ _ _ q => q.elim)
    obtain ⟨r0_20, rfl, rfl, h⟩ := q_18
    exact ⟨r0_20, H_12, rfl, I_14, k_15, l_19, h⟩
   ·replace h := h_28 e
    refine opK_e (s' := xCall (Value.func (.func 84) #[] #[]) [(vi x1), (vi x2)]) (by rw [e]; rfl) ?_
    refine opK_calls (cap := []) (fun args w => Try.call84 args w) ?_
    refine Cv_ct (Fi := []) (Fr := []) I_3 (h) (fun v_16 H_12 F_17 w_13 I_14 l_19 k_15 q_18 => ?_) (fun _ _ _ _ _ q => q.elim)
    obtain ⟨r0_20, rfl, rfl, h⟩ := q_18
    exact ⟨r0_20, H_12, rfl, I_14, k_15, l_19, h⟩
   ·replace h := h_29 e
    refine opK_e (s' := xCall (Value.func (.func 85) #[] #[]) [(vi x1), (vi x2)]) (by rw [e]; rfl) ?_
    refine opK_calls (cap := []) (fun args w => Try.call85 args w) ?_
    refine Cv_ct (Fi := []) (Fr := []) I_3 (h) (fun v_16 H_12 F_17 w_13 I_14 l_19 k_15 q_18 => ?_) (fun _ _ _ _ _ q => q.elim)
    obtain ⟨r0_20, rfl, rfl, h⟩ := q_18
    exact ⟨r0_20, H_12, rfl, I_14, k_15, l_19, h⟩
  ·rintro v_16 w_13 ⟨r0_20, H_12, rfl, I_14, k_15, l_19, h⟩
   replace h := h_22 _ _ h
   exact hR r0_20 H_12 _ I_14 h
theorem L_gnomon_num_Cmp (x0 : Int) (x1 : Int) (x2 : Int) {H : Hp} {K : Bool → Hp → Prop} (h : T_gnomon_num_Cmp x0 x1 x2 H K) : C_gnomon_num_Cmp x0 x1 x2 H K := by
 intro w I
 refine F43_ok ?_
 refine LF_gnomon_num_Cmp x0 x1 x2 I (fun r0 H' w' I' hk => ⟨H', _, I', r0, rfl, rfl, hk⟩) h


/- function 59: (*gnomon/step.state).negates$1 -/
def T_gnomon_step_state_negates_1 (x0 : Int) (_x1 : Int) (H : Hp) (K : Int → Int → Hp → Prop) : Prop :=
 C_gnomon_num_Neg x0 H (fun (r0_9 : Int) (r1_9 : Int) (H_1 : Hp) => 
 K r0_9 r1_9 H_1)
theorem LF_gnomon_step_state_negates_1 (x0 : Int) (x1 : Int) {w0 w : World} {ps0 : Nat → Prop} {H0 H : Hp} {K : Int → Int → Hp → Prop} {R : Value → World → Prop} {E : Pan} (I : Inv w0 ps0 H0 H [] w) (hR : ∀ (r0 : Int) (r1 : Int) (H' : Hp) (w' : World) (_ : Inv w0 ps0 H0 H' [] w') (_ : K r0 r1 H'), R (Value.tuple #[(vi r0), (vi r1)]) w') (h : T_gnomon_step_state_negates_1 x0 x1 H K) : F59 (vi x0) (vi x1) w R E := by
 unfold T_gnomon_step_state_negates_1 at h
 unfold F59
 refine opK_calls (cap := []) (fun args w => Try.call60 args w) ?_
 refine Cv_ct (Fi := []) (Fr := []) I (h) (fun v_5 H_1 F_6 w_2 I_3 l_8 k_4 q_7 => ?_) (fun _ _ _ _ _ q => q.elim)
 obtain ⟨r0_9, r1_9, rfl, rfl, h⟩ := q_7
 refine opK_pu (pu_extract _ _ _ rfl) ?_
 refine opK_pu (pu_extract _ _ _ rfl) ?_
 exact hR r0_9 r1_9 H_1 _ I_3 h
theorem L_gnomon_step_state_negates_1 (x0 : Int) (x1 : Int) {H : Hp} {K : Int → Int → Hp → Prop} (h : T_gnomon_step_state_negates_1 x0 x1 H K) : C_gnomon_step_state_negates_1 x0 x1 H K := by
 intro w I
 refine F59_ok ?_
 refine LF_gnomon_step_state_negates_1 x0 x1 I (fun r0 r1 H' w' I' hk => ⟨H', _, I', r0, r1, rfl, rfl, hk⟩) h


/- function 34: (*gnomon/step.state).subtracts -/
def T_gnomon_step_state_subtracts (x0 : Tstep_state) (x0_3 : (List Int)) (x0_4 : (List (List Int))) (x0_6 : (List Tapi_Event)) (x1 : Tapi_Edge) (H : Hp) (K : Int → Tstep_state → (List Int) → (List (List Int)) → (List Tapi_Event) → Hp → Prop) : Prop :=
 C_gnomon_step_state_gives_of_gnomon_num_Sub (Tstep_state.mk x0.fc x0.ffrom x0.fpoint (Sl.mk none 0 0) (Sl.mk none 0 0) x0.fscript (Sl.mk none 0 0)) x0_3 x0_4 x0_6 x1 H (fun (r0_14 : Int) (y0_14 : Tstep_state) (y0_3_14 : (List Int)) (y0_4_14 : (List (List Int))) (y0_6_14 : (List Tapi_Event)) (H_6 : Hp) => 
 K r0_14 (Tstep_state.mk ((y0_14).fc) ((y0_14).ffrom) ((y0_14).fpoint) (Sl.mk none 0 0) (Sl.mk none 0 0) ((y0_14).fscript) (Sl.mk none 0 0)) y0_3_14 y0_4_14 y0_6_14 H_6)
theorem LF_gnomon_step_state_subtracts (x0 : Tstep_state) (x0_3 : (List Int)) (x0_4 : (List (List Int))) (x0_6 : (List Tapi_Event)) (x1 : Tapi_Edge) (g0 : Nat) (sx0_3 : Sl) (Fx0_3 : Frag) (sx0_4 : Sl) (Fx0_4 : Frag) (sx0_6 : Sl) (Fx0_6 : Frag) (hx0_3 : RowL 2 1 cs_int64 sx0_3 x0_3 Fx0_3) (hx0_4 : RowsL 27 2 1 cs_int64 sx0_4 x0_4 Fx0_4) (hx0_6 : RowL 74 3 cs_api_Event sx0_6 x0_6 Fx0_6) {w0 w : World} {ps0 : Nat → Prop} {H0 H : Hp} {K : Int → Tstep_state → (List Int) → (List (List Int)) → (List Tapi_Event) → Hp → Prop} {R : Value → World → Prop} {E : Pan} (I : Inv w0 ps0 H0 H [bx g0 58 [(vs x0.fc.fVars), (vi x0.fc.fTemps), (vs x0.fc.fArrays), (vi x0.fc.fPoints), (vi x0.fc.fExit), (vs x0.fc.fEdges), (vs x0.ffrom), (vi x0.fpoint), (vs sx0_3), (vs sx0_4), (vs x0.fscript), (vs sx0_6)], Fx0_3, Fx0_4, Fx0_6] w) (hR : ∀ (r0 : Int) (y0 : Tstep_state) (y0_3 : (List Int)) (y0_4 : (List (List Int))) (y0_6 : (List Tapi_Event)) (sy0_3 : Sl) (Fy0_3 : Frag) (sy0_4 : Sl) (Fy0_4 : Frag) (sy0_6 : Sl) (Fy0_6 : Frag) (H' : Hp) (w' : World) (_ : RowL 2 1 cs_int64 sy0_3 y0_3 Fy0_3) (_ : RowsL 27 2 1 cs_int64 sy0_4 y0_4 Fy0_4) (_ : RowL 74 3 cs_api_Event sy0_6 y0_6 Fy0_6) (_ : Inv w0 ps0 H0 H' [bx g0 58 [(vs y0.fc.fVars), (vi y0.fc.fTemps), (vs y0.fc.fArrays), (vi y0.fc.fPoints), (vi y0.fc.fExit), (vs y0.fc.fEdges), (vs y0.ffrom), (vi y0.fpoint), (vs sy0_3), (vs sy0_4), (vs y0.fscript), (vs sy0_6)], Fy0_3, Fy0_4, Fy0_6] w') (_ : K r0 y0 y0_3 y0_4 y0_6 H'), R (vi r0) w') (h : T_gnomon_step_state_subtracts x0 x0_3 x0_4 x0_6 x1 H K) : F34 (Value.pointer (some ⟨g0, 0, none⟩)) (Value.agg (cs_api_Edge x1).toArray) w R E := by
 unfold T_gnomon_step_state_subtracts at h
 unfold F34
 refine s_box I (cs := (cs_api_Edge x1)) rfl fun g_2 w_3 I_4 k_5 => ?_
 refine opK_ld (ldA Try.isAgg52 Try.sizeOf52 rfl (I_4.at1 (o := 0) (vs := (cs_api_Edge x1)) (nb rfl) rfl)) ?_
 refine opK_calls (cap := []) (fun args w => Try.call58 args w) ?_
 refine Cv_ct (Fi := [bx g0 58 [(vs x0.fc.fVars), (vi x0.fc.fTemps), (vs x0.fc.fArrays), (vi x0.fc.fPoints), (vi x0.fc.fExit), (vs x0.fc.fEdges), (vs x0.ffrom), (vi x0.fpoint), (vs sx0_3), (vs sx0_4), (vs x0.fscript), (vs sx0_6)], Fx0_3, Fx0_4, Fx0_6]) (Fr := [bx g_2 52 (cs_api_Edge x1)]) ((((I_4.bring 4).bring 4).bring 4).bring 4) (h g0 sx0_3 Fx0_3 sx0_4 Fx0_4 sx0_6 Fx0_6 hx0_3 hx0_4 hx0_6) (fun v_10 H_6 F_11 w_7 I_8 l_13 k_9 q_12 => ?_) (fun _ _ _ _ _ q => q.elim)
 obtain ⟨r0_14, y0_14, y0_3_14, y0_4_14, y0_6_14, sy0_3_14, Fy0_3_14, sy0_4_14, Fy0_4_14, sy0_6_14, Fy0_6_14, rfl, rfl, hy0_3_14, hy0_4_14, hy0_6_14, h⟩ := q_12
 exact hR r0_14 (Tstep_state.mk ((y0_14).fc) ((y0_14).ffrom) ((y0_14).fpoint) (Sl.mk none 0 0) (Sl.mk none 0 0) ((y0_14).fscript) (Sl.mk none 0 0)) y0_3_14 y0_4_14 y0_6_14 sy0_3_14 Fy0_3_14 sy0_4_14 Fy0_4_14 sy0_6_14 Fy0_6_14 H_6 _ hy0_3_14 hy0_4_14 hy0_6_14 (((((I_8.bring 4).drop.bring 3).bring 3).bring 3).bring 3) h
theorem L_gnomon_step_state_subtracts (x0 : Tstep_state) (x0_3 : (List Int)) (x0_4 : (List (List Int))) (x0_6 : (List Tapi_Event)) (x1 : Tapi_Edge) {H : Hp} {K : Int → Tstep_state → (List Int) → (List (List Int)) → (List Tapi_Event) → Hp → Prop} (h : T_gnomon_step_state_subtracts x0 x0_3 x0_4 x0_6 x1 H K) : C_gnomon_step_state_subtracts x0 x0_3 x0_4 x0_6 x1 H K := by
 intro g0 sx0_3 Fx0_3 sx0_4 Fx0_4 sx0_6 Fx0_6 hx0_3 hx0_4 hx0_6 w I
 refine F34_ok ?_
 refine LF_gnomon_step_state_subtracts x0 x0_3 x0_4 x0_6 x1 g0 sx0_3 Fx0_3 sx0_4 Fx0_4 sx0_6 Fx0_6 hx0_3 hx0_4 hx0_6 I (fun r0 y0 y0_3 y0_4 y0_6 sy0_3 Fy0_3 sy0_4 Fy0_4 sy0_6 Fy0_6 H' w' khy0_3 khy0_4 khy0_6 I' hk => ⟨H', _, I', r0, y0, y0_3, y0_4, y0_6, sy0_3, Fy0_3, sy0_4, Fy0_4, sy0_6, Fy0_6, rfl, rfl, khy0_3, khy0_4, khy0_6, hk⟩) h


/- function 77: gnomon/num.size -/
def T_gnomon_num_size (x0 : Int) (H : Hp) (K : Int → Hp → Prop) : Prop :=
 (x0 < 0 →
 K (IntKind.wrap .u64 (0 - (IntKind.wrap .u64 x0))) H) ∧
 (¬ (x0 < 0) →
 K (IntKind.wrap .u64 x0) H)
theorem LF_gnomon_num_size (x0 : Int) {w0 w : World} {ps0 : Nat → Prop} {H0 H : Hp} {K : Int → Hp → Prop} {R : Value → World → Prop} {E : Pan} (I : Inv w0 ps0 H0 H [] w) (hR : ∀ (r0 : Int) (H' : Hp) (w' : World) (_ : Inv w0 ps0 H0 H' [] w') (_ : K r0 H'), R (Value.int .u64 r0) w') (h : T_gnomon_num_size x0 H K) : F77 (vi x0) w R E := by
 unfold T_gnomon_num_size at h
 unfold F77
 refine opK_pu (pu_lss _ _ _ _ _ _) ?_
 refine xcond_p (fun c_1 => ?_) (fun c_1 => ?_)
 ·replace h := h.1 c_1
  refine opK_pu (pu_cv_2_111 _ _) ?_
  refine opK_pu (pu_neg _ _) ?_
  exact hR (IntKind.wrap .u64 (0 - (IntKind.wrap .u64 x0))) H _ I h
 ·replace h := h.2 c_1
  refine opK_pu (pu_cv_2_111 _ _) ?_
  exact hR (IntKind.wrap .u64 x0) H _ I h
theorem L_gnomon_num_size (x0 : Int) {H : Hp} {K : Int → Hp → Prop} (h : T_gnomon_num_size x0 H K) : C_gnomon_num_size x0 H K := by
 intro w I
 refine F77_ok ?_
 refine LF_gnomon_num_size x0 I (fun r0 H' w' I' hk => ⟨H', _, I', r0, rfl, rfl, hk⟩) h


/- function 76: math/bits.Mul64 -/
def T_math_bits_Mul64 (x0 : Int) (x1 : Int) (H : Hp) (K : Int → Int → Hp → Prop) : Prop :=
 K (IntKind.wrap .u64 ((IntKind.wrap .u64 ((IntKind.wrap .u64 ((Int.fdiv x0 (2 ^ 32)) * (Int.fdiv x1 (2 ^ 32)))) + (Int.fdiv (IntKind.wrap .u64 ((IntKind.wrap .u64 ((Int.fdiv x0 (2 ^ 32)) * (bandI .u64 x1 4294967295))) + (Int.fdiv (IntKind.wrap .u64 ((bandI .u64 x0 4294967295) * (bandI .u64 x1 4294967295))) (2 ^ 32)))) (2 ^ 32)))) + (Int.fdiv (IntKind.wrap .u64 ((bandI .u64 (IntKind.wrap .u64 ((IntKind.wrap .u64 ((Int.fdiv x0 (2 ^ 32)) * (bandI .u64 x1 4294967295))) + (Int.fdiv (IntKind.wrap .u64 ((bandI .u64 x0 4294967295) * (bandI .u64 x1 4294967295))) (2 ^ 32)))) 4294967295) + (IntKind.wrap .u64 ((bandI .u64 x0 4294967295) * (Int.fdiv x1 (2 ^ 32)))))) (2 ^ 32)))) (IntKind.wrap .u64 (x0 * x1)) H
theorem LF_math_bits_Mul64 (x0 : Int) (x1 : Int) {w0 w : World} {ps0 : Nat → Prop} {H0 H : Hp} {K : Int → Int → Hp → Prop} {R : Value → World → Prop} {E : Pan} (I : Inv w0 ps0 H0 H [] w) (hR : ∀ (r0 : Int) (r1 : Int) (H' : Hp) (w' : World) (_ : Inv w0 ps0 H0 H' [] w') (_ : K r0 r1 H'), R (Value.tuple #[(Value.int .u64 r0), (Value.int .u64 r1)]) w') (h : T_math_bits_Mul64 x0 x1 H K) : F76 (Value.int .u64 x0) (Value.int .u64 x1) w R E := by
 unfold T_math_bits_Mul64 at h
 unfold F76
 refine opK_pu (pu_band _ _ _ _ _ _) ?_
 refine opK_pu (pu_shr _ _ _ _ _ _ _ (by decide) (by decide)) ?_
 refine opK_pu (pu_band _ _ _ _ _ _) ?_
 refine opK_pu (pu_shr _ _ _ _ _ _ _ (by decide) (by decide)) ?_
 refine opK_pu (pu_mul _ _ _ _ _ _) ?_
 refine opK_pu (pu_mul _ _ _ _ _ _) ?_
 refine opK_pu (pu_shr _ _ _ _ _ _ _ (by decide) (by decide)) ?_
 refine opK_pu (pu_add _ _ _ _ _ _) ?_
 refine opK_pu (pu_band _ _ _ _ _ _) ?_
 refine opK_pu (pu_shr _ _ _ _ _ _ _ (by decide) (by decide)) ?_
 refine opK_pu (pu_mul _ _ _ _ _ _) ?_
 refine opK_pu (pu_add _ _ _ _ _ _) ?_
 refine opK_pu (pu_mul _ _ _ _ _ _) ?_
 refine opK_pu (pu_add _ _ _ _ _ _) ?_
 refine opK_pu (pu_shr _ _ _ _ _ _ _ (by decide) (by decide)) ?_
 refine opK_pu (pu_add _ _ _ _ _ _) ?_
 refine opK_pu (pu_mul _ _ _ _ _ _) ?_
 exact hR (IntKind.wrap .u64 ((IntKind.wrap .u64 ((IntKind.wrap .u64 ((Int.fdiv x0 (2 ^ 32)) * (Int.fdiv x1 (2 ^ 32)))) + (Int.fdiv (IntKind.wrap .u64 ((IntKind.wrap .u64 ((Int.fdiv x0 (2 ^ 32)) * (bandI .u64 x1 4294967295))) + (Int.fdiv (IntKind.wrap .u64 ((bandI .u64 x0 4294967295) * (bandI .u64 x1 4294967295))) (2 ^ 32)))) (2 ^ 32)))) + (Int.fdiv (IntKind.wrap .u64 ((bandI .u64 (IntKind.wrap .u64 ((IntKind.wrap .u64 ((Int.fdiv x0 (2 ^ 32)) * (bandI .u64 x1 4294967295))) + (Int.fdiv (IntKind.wrap .u64 ((bandI .u64 x0 4294967295) * (bandI .u64 x1 4294967295))) (2 ^ 32)))) 4294967295) + (IntKind.wrap .u64 ((bandI .u64 x0 4294967295) * (Int.fdiv x1 (2 ^ 32)))))) (2 ^ 32)))) (IntKind.wrap .u64 (x0 * x1)) H _ I h
theorem L_math_bits_Mul64 (x0 : Int) (x1 : Int) {H : Hp} {K : Int → Int → Hp → Prop} (h : T_math_bits_Mul64 x0 x1 H K) : C_math_bits_Mul64 x0 x1 H K := by
 intro w I
 refine F76_ok ?_
 refine LF_math_bits_Mul64 x0 x1 I (fun r0 r1 H' w' I' hk => ⟨H', _, I', r0, r1, rfl, rfl, hk⟩) h


/- function 78: gnomon/num.divides -/
def T_gnomon_num_divides (x0 : Int) (x1 : Int) (H : Hp) (K : Int → Hp → Prop) : Prop :=
 (x1 = 0 →
 K 2 H) ∧
 (¬ (x1 = 0) →
 (((decide (x0 = (-9223372036854775808))) && (decide (x1 = (-1)))) = true →
 K 1 H) ∧
 (((decide (x0 = (-9223372036854775808))) && (decide (x1 = (-1)))) = false →
 K 0 H))
theorem LF_gnomon_num_divides (x0 : Int) (x1 : Int) {w0 w : World} {ps0 : Nat → Prop} {H0 H : Hp} {K : Int → Hp → Prop} {R : Value → World → Prop} {E : Pan} (I : Inv w0 ps0 H0 H [] w) (hR : ∀ (r0 : Int) (H' : Hp) (w' : World) (_ : Inv w0 ps0 H0 H' [] w') (_ : K r0 H'), R (vi r0) w') (h : T_gnomon_num_divides x0 x1 H K) : F78 (vi x0) (vi x1) w R E := by
 unfold T_gnomon_num_divides at h
 unfold F78
 refine opK_pu (pu_eql _ _ _ _ _ _) ?_
 refine xcond_p (fun c_2 => ?_) (fun c_2 => ?_)
 ·replace h := h.1 c_2
  exact hR 2 H _ I h
 ·replace h := h.2 c_2
  refine opK_pu (pu_eql _ _ _ _ _ _) ?_
  try simp only [gval_b]
  refine opK_pu (Pu.g fun hb => by have hb_0 := hb; first | exact (pu_eql _ _ _ _ _ _) | (simp only [gv_t hb_0]; exact (pu_eql _ _ _ _ _ _)) | (simp only [gval_t hb_0, gv_t hb_0, gv_t hb, gva_tf hb_0, gv_n]; exact (pu_eql _ _ _ _ _ _))) ?_
  refine opK_pu (pu_and _ _) ?_
  refine xcond_b (fun c_1 => ?_) (fun c_1 => ?_)
  ·replace h := h.1 c_1
   exact hR 1 H _ I h
  ·replace h := h.2 c_1
   exact hR 0 H _ I h
theorem L_gnomon_num_divides (x0 : Int) (x1 : Int) {H : Hp} {K : Int → Hp → Prop} (h : T_gnomon_num_divides x0 x1 H K) : C_gnomon_num_divides x0 x1 H K := by
 intro w I
 refine F78_ok ?_
 refine LF_gnomon_num_divides x0 x1 I (fun r0 H' w' I' hk => ⟨H', _, I', r0, rfl, rfl, hk⟩) h


/- function 58: (*gnomon/step.state).gives -/
def T_gnomon_step_state_gives_of_gnomon_num_Div_j1 (s8j1 : Int) (cp0j1_0 : Tapi_Cfg) (cp0j1_1 : Sl) (cp0j1_2 : Int) (ccp0j1_3 : (List Int)) (ccp0j1_4 : (List (List Int))) (cp0j1_5 : Sl) (ccp0j1_6 : (List Tapi_Event)) (_cr_1j1 : Tapi_Edge) (H : Hp) (K : Int → Tstep_state → (List Int) → (List (List Int)) → (List Tapi_Event) → Hp → Prop) : Prop :=
 K s8j1 (Tstep_state.mk cp0j1_0 cp0j1_1 cp0j1_2 (Sl.mk none 0 0) (Sl.mk none 0 0) cp0j1_5 (Sl.mk none 0 0)) ccp0j1_3 ccp0j1_4 ccp0j1_6 H
def T_gnomon_step_state_gives_of_gnomon_num_Div (x0 : Tstep_state) (x0_3 : (List Int)) (x0_4 : (List (List Int))) (x0_6 : (List Tapi_Event)) (x1 : Tapi_Edge) (H : Hp) (K : Int → Tstep_state → (List Int) → (List (List Int)) → (List Tapi_Event) → Hp → Prop) : Prop :=
 C_gnomon_step_state_value (Tstep_state.mk x0.fc x0.ffrom x0.fpoint (Sl.mk none 0 0) (Sl.mk none 0 0) x0.fscript (Sl.mk none 0 0)) x0_3 x0_4 x0_6 x1.fA H (fun (r0_16 : Int) (H_8 : Hp) => 
 C_gnomon_step_state_value (Tstep_state.mk x0.fc x0.ffrom x0.fpoint (Sl.mk none 0 0) (Sl.mk none 0 0) x0.fscript (Sl.mk none 0 0)) x0_3 x0_4 x0_6 x1.fB H_8 (fun (r0_25 : Int) (H_17 : Hp) => 
 C_gnomon_num_Div r0_16 r0_25 H_17 (fun (r0_34 : Int) (r1_34 : Int) (H_26 : Hp) => 
 (r1_34 = 0 →
 (0 : Int) ≤ x1.fDst ∧ ∃ x_37 : Int, (x0_3)[(x1.fDst : Int).toNat]? = some x_37 ∧
 T_gnomon_step_state_gives_of_gnomon_num_Div_j1 r1_34 x0.fc x0.ffrom x0.fpoint ((x0_3).set (x1.fDst : Int).toNat r0_34) x0_4 x0.fscript x0_6 x1 H_26 K) ∧
 (¬ (r1_34 = 0) →
 T_gnomon_step_state_gives_of_gnomon_num_Div_j1 r1_34 x0.fc x0.ffrom x0.fpoint x0_3 x0_4 x0.fscript x0_6 x1 H_26 K))))
theorem LF_gnomon_step_state_gives_of_gnomon_num_Div (x0 : Tstep_state) (x0_3 : (List Int)) (x0_4 : (List (List Int))) (x0_6 : (List Tapi_Event)) (x1 : Tapi_Edge) (g0 : Nat) (sx0_3 : Sl) (Fx0_3 : Frag) (sx0_4 : Sl) (Fx0_4 : Frag) (sx0_6 : Sl) (Fx0_6 : Frag) (hx0_3 : RowL 2 1 cs_int64 sx0_3 x0_3 Fx0_3) (hx0_4 : RowsL 27 2 1 cs_int64 sx0_4 x0_4 Fx0_4) (hx0_6 : RowL 74 3 cs_api_Event sx0_6 x0_6 Fx0_6) {w0 w : World} {ps0 : Nat → Prop} {H0 H : Hp} {K : Int → Tstep_state → (List Int) → (List (List Int)) → (List Tapi_Event) → Hp → Prop} {R : Value → World → Prop} {E : Pan} (I : Inv w0 ps0 H0 H [bx g0 58 [(vs x0.fc.fVars), (vi x0.fc.fTemps), (vs x0.fc.fArrays), (vi x0.fc.fPoints), (vi x0.fc.fExit), (vs x0.fc.fEdges), (vs x0.ffrom), (vi x0.fpoint), (vs sx0_3), (vs sx0_4), (vs x0.fscript), (vs sx0_6)], Fx0_3, Fx0_4, Fx0_6] w) (hR : ∀ (r0 : Int) (y0 : Tstep_state) (y0_3 : (List Int)) (y0_4 : (List (List Int))) (y0_6 : (List Tapi_Event)) (sy0_3 : Sl) (Fy0_3 : Frag) (sy0_4 : Sl) (Fy0_4 : Frag) (sy0_6 : Sl) (Fy0_6 : Frag) (H' : Hp) (w' : World) (_ : RowL 2 1 cs_int64 sy0_3 y0_3 Fy0_3) (_ : RowsL 27 2 1 cs_int64 sy0_4 y0_4 Fy0_4) (_ : RowL 74 3 cs_api_Event sy0_6 y0_6 Fy0_6) (_ : Inv w0 ps0 H0 H' [bx g0 58 [(vs y0.fc.fVars), (vi y0.fc.fTemps), (vs y0.fc.fArrays), (vi y0.fc.fPoints), (vi y0.fc.fExit), (vs y0.fc.fEdges), (vs y0.ffrom), (vi y0.fpoint), (vs sy0_3), (vs sy0_4), (vs y0.fscript), (vs sy0_6)], Fy0_3, Fy0_4, Fy0_6] w') (_ : K r0 y0 y0_3 y0_4 y0_6 H'), R (vi r0) w') (h : T_gnomon_step_state_gives_of_gnomon_num_Div x0 x0_3 x0_4 x0_6 x1 H K) : F58 (Value.pointer (some ⟨g0, 0, none⟩)) (Value.agg (cs_api_Edge x1).toArray) (Value.func (.func 64) #[] #[]) w R E := by
 unfold T_gnomon_step_state_gives_of_gnomon_num_Div at h
 unfold F58
 refine s_box I (cs := (cs_api_Edge x1)) rfl fun g_2 w_3 I_4 k_5 => ?_
 refine s_dX I_4 fun w_6 I_7 => ?_
 refine qP_pu pu_fa_52_6 ?_
 refine qP_pu pu_fa_52_7 ?_
 refine qL_ld (ldA Try.isAgg50 Try.sizeOf50 rfl (I_7.at1 (o := 6) (vs := (cs_api_Operand x1.fA)) (nb rfl) rfl)) ?_
 refine qL_ld (ldA Try.isAgg50 Try.sizeOf50 rfl (I_7.at1 (o := 8) (vs := (cs_api_Operand x1.fB)) (nb rfl) rfl)) ?_
 refine opK_calls (cap := []) (fun args w => Try.call44 args w) ?_
 refine Cv_ct (Fi := [bx g0 58 [(vs x0.fc.fVars), (vi x0.fc.fTemps), (vs x0.fc.fArrays), (vi x0.fc.fPoints), (vi x0.fc.fExit), (vs x0.fc.fEdges), (vs x0.ffrom), (vi x0.fpoint), (vs sx0_3), (vs sx0_4), (vs x0.fscript), (vs sx0_6)], Fx0_3, Fx0_4, Fx0_6]) (Fr := [bx g_2 52 (cs_api_Edge x1)]) ((((I_7.bring 4).bring 4).bring 4).bring 4) (h g0 sx0_3 Fx0_3 sx0_4 Fx0_4 sx0_6 Fx0_6 hx0_3 hx0_4 hx0_6) (fun v_12 H_8 F_13 w_9 I_10 l_15 k_11 q_14 => ?_) (fun _ _ _ _ _ q => q.elim)
 obtain ⟨r0_16, rfl, rfl, h⟩ := q_14
 refine ⟨(k_11 _ I_7.lt1 (Inv.not_in (Fi := [bx g0 58 [(vs x0.fc.fVars), (vi x0.fc.fTemps), (vs x0.fc.fArrays), (vi x0.fc.fPoints), (vi x0.fc.fExit), (vs x0.fc.fEdges), (vs x0.ffrom), (vi x0.fpoint), (vs sx0_3), (vs sx0_4), (vs x0.fscript), (vs sx0_6)], Fx0_3, Fx0_4, Fx0_6]) ((((I_7.bring 4).bring 4).bring 4).bring 4))), ?_⟩
 refine opK_calls (cap := []) (fun args w => Try.call44 args w) ?_
 refine Cv_ct (Fi := [bx g0 58 [(vs x0.fc.fVars), (vi x0.fc.fTemps), (vs x0.fc.fArrays), (vi x0.fc.fPoints), (vi x0.fc.fExit), (vs x0.fc.fEdges), (vs x0.ffrom), (vi x0.fpoint), (vs sx0_3), (vs sx0_4), (vs x0.fscript), (vs sx0_6)], Fx0_3, Fx0_4, Fx0_6]) (Fr := [bx g_2 52 (cs_api_Edge x1)]) ((((I_10.bring 3).bring 3).bring 3).bring 3) (h g0 sx0_3 Fx0_3 sx0_4 Fx0_4 sx0_6 Fx0_6 hx0_3 hx0_4 hx0_6) (fun v_21 H_17 F_22 w_18 I_19 l_24 k_20 q_23 => ?_) (fun _ _ _ _ _ q => q.elim)
 obtain ⟨r0_25, rfl, rfl, h⟩ := q_23
 refine opK_calls (cap := []) (fun args w => Try.call64 args w) ?_
 refine Cv_ct (Fi := []) (Fr := [bx g0 58 [(vs x0.fc.fVars), (vi x0.fc.fTemps), (vs x0.fc.fArrays), (vi x0.fc.fPoints), (vi x0.fc.fExit), (vs x0.fc.fEdges), (vs x0.ffrom), (vi x0.fpoint), (vs sx0_3), (vs sx0_4), (vs x0.fscript), (vs sx0_6)], Fx0_3, Fx0_4, Fx0_6, bx g_2 52 (cs_api_Edge x1)]) I_19 (h) (fun v_30 H_26 F_31 w_27 I_28 l_33 k_29 q_32 => ?_) (fun _ _ _ _ _ q => q.elim)
 obtain ⟨r0_34, r1_34, rfl, rfl, h⟩ := q_32
 refine qP_pu (pu_extract _ _ _ rfl) ?_
 refine qP_pu (pu_extract _ _ _ rfl) ?_
 have hj1 : ∀ (cp0j1_0 : Tapi_Cfg) (cp0j1_1 : Sl) (cp0j1_2 : Int) (ccp0j1_3 : (List Int)) (cp0j1_5 : Sl) (Fcp0j1_3 : Frag) (H : Hp) (w : World) (_ : RowL 2 1 cs_int64 sx0_3 ccp0j1_3 Fcp0j1_3) (_ : Inv w0 ps0 H0 H [bx g0 58 [(vs cp0j1_0.fVars), (vi cp0j1_0.fTemps), (vs cp0j1_0.fArrays), (vi cp0j1_0.fPoints), (vi cp0j1_0.fExit), (vs cp0j1_0.fEdges), (vs cp0j1_1), (vi cp0j1_2), (vs sx0_3), (vs sx0_4), (vs cp0j1_5), (vs sx0_6)], bx g_2 52 (cs_api_Edge x1), Fx0_4, Fx0_6, Fcp0j1_3] w) (_ : T_gnomon_step_state_gives_of_gnomon_num_Div_j1 r1_34 cp0j1_0 cp0j1_1 cp0j1_2 ccp0j1_3 x0_4 cp0j1_5 x0_6 x1 H K), F58_j1 (vi r1_34) w R E := by
  intro cp0j1_0 cp0j1_1 cp0j1_2 ccp0j1_3 cp0j1_5 Fcp0j1_3 H w hcp0j1_3 I h
  unfold F58_j1
  intro _
  unfold T_gnomon_step_state_gives_of_gnomon_num_Div_j1 at h
  exact hR r1_34 (Tstep_state.mk cp0j1_0 cp0j1_1 cp0j1_2 (Sl.mk none 0 0) (Sl.mk none 0 0) cp0j1_5 (Sl.mk none 0 0)) ccp0j1_3 x0_4 x0_6 sx0_3 Fcp0j1_3 sx0_4 Fx0_4 sx0_6 Fx0_6 H _ hcp0j1_3 hx0_4 hx0_6 (((((I.bring 1).drop.bring 2).bring 2).bring 3).bring 3) h
 refine xcut_i fun j1 hx1 => ?_
 refine opK_pu (pu_eql _ _ _ _ _ _) ?_
 refine xcond_p (fun c_49 => ?_) (fun c_49 => ?_)
 ·replace h := h.1 c_49
  refine s_dX I_28 fun w_35 I_36 => ?_
  refine qP_pu (pu_nilp _) ?_
  refine qP_pu pu_fa_58_3 ?_
  refine qP_pu pu_fa_52_3 ?_
  refine qL_ld (ld1 Try.isAgg27 (I_36.at1 (o := 8) (vs := [(vs sx0_3)]) (nb rfl) rfl)) ?_
  refine qL_ld (ld1 Try.isAgg3 ((I_36.bring 4).at1 (o := 3) (vs := [(vi x1.fDst)]) (nb rfl) rfl)) ?_
  obtain ⟨h_39, x_37, h_40, h⟩ := h
  obtain ⟨g_38, a_42, h_41, h_43⟩ := hx0_3.addr h_40
  refine qP_pu (pu_ix_27 h_41 _ _ _ _ h_39 (hx0_3.lt h_39 h_40)) ?_
  refine s_rowst (x := r0_34) (I_36.bring 1) hx0_3 h_41 (List.getElem?_eq_some_iff.1 h_40).1 Try.sizeOf2 rfl fun F_44 w_45 h_46 I_47 k_48 => ?_
  exact hx1 _ _ (hj1 x0.fc x0.ffrom x0.fpoint ((x0_3).set (x1.fDst : Int).toNat r0_34) x0.fscript F_44 H_26 _ h_46 ((((I_47.bring 3).bring 3).bring 4).bring 4) h)
 ·replace h := h.2 c_49
  exact hx1 _ _ (hj1 x0.fc x0.ffrom x0.fpoint x0_3 x0.fscript Fx0_3 H_26 _ hx0_3 (((((I_28.bring 1).bring 3).bring 3).bring 4).bring 4) h)
theorem L_gnomon_step_state_gives_of_gnomon_num_Div (x0 : Tstep_state) (x0_3 : (List Int)) (x0_4 : (List (List Int))) (x0_6 : (List Tapi_Event)) (x1 : Tapi_Edge) {H : Hp} {K : Int → Tstep_state → (List Int) → (List (List Int)) → (List Tapi_Event) → Hp → Prop} (h : T_gnomon_step_state_gives_of_gnomon_num_Div x0 x0_3 x0_4 x0_6 x1 H K) : C_gnomon_step_state_gives_of_gnomon_num_Div x0 x0_3 x0_4 x0_6 x1 H K := by
 intro g0 sx0_3 Fx0_3 sx0_4 Fx0_4 sx0_6 Fx0_6 hx0_3 hx0_4 hx0_6 w I
 refine F58_ok ?_
 refine LF_gnomon_step_state_gives_of_gnomon_num_Div x0 x0_3 x0_4 x0_6 x1 g0 sx0_3 Fx0_3 sx0_4 Fx0_4 sx0_6 Fx0_6 hx0_3 hx0_4 hx0_6 I (fun r0 y0 y0_3 y0_4 y0_6 sy0_3 Fy0_3 sy0_4 Fy0_4 sy0_6 Fy0_6 H' w' khy0_3 khy0_4 khy0_6 I' hk => ⟨H', _, I', r0, y0, y0_3, y0_4, y0_6, sy0_3, Fy0_3, sy0_4, Fy0_4, sy0_6, Fy0_6, rfl, rfl, khy0_3, khy0_4, khy0_6, hk⟩) h


/- function 38: (*gnomon/step.state).takes -/
def T_gnomon_step_state_takes (x0 : Tstep_state) (x0_3 : (List Int)) (x0_4 : (List (List Int))) (x0_6 : (List Tapi_Event)) (x1 : Tapi_Edge) (H : Hp) (K : Int → Tstep_state → (List Int) → (List (List Int)) → (List Tapi_Event) → Hp → Prop) : Prop :=
 (0 : Int) ≤ 0 ∧ (0 : Int) < x0.fscript.n ∧ ∃ x_6 : Int, EltH H x0.fscript 0 1 [(vi x_6)] ∧ 
 (0 : Int) ≤ 1 ∧ (1 : Int) ≤ x0.fscript.n ∧ 
 (0 : Int) ≤ x1.fDst ∧ ∃ x_20 : Int, (x0_3)[(x1.fDst : Int).toNat]? = some x_20 ∧
 (x0_6.length + ([(Tapi_Event.mk true x_6 false)] : List Tapi_Event).length) * 25 ≤ 140737488355328 ∧
 K 0 (Tstep_state.mk x0.fc x0.ffrom x0.fpoint (Sl.mk none 0 0) (Sl.mk none 0 0) (x0.fscript.cut (1 : Int).toNat x0.fscript.n x0.fscript.c 1) (Sl.mk none 0 0)) ((x0_3).set (x1.fDst : Int).toNat x_6) x0_4 (x0_6 ++ [(Tapi_Event.mk true x_6 false)]) H
theorem LF_gnomon_step_state_takes (x0 : Tstep_state) (x0_3 : (List Int)) (x0_4 : (List (List Int))) (x0_6 : (List Tapi_Event)) (x1 : Tapi_Edge) (g0 : Nat) (sx0_3 : Sl) (Fx0_3 : Frag) (sx0_4 : Sl) (Fx0_4 : Frag) (sx0_6 : Sl) (Fx0_6 : Frag) (hx0_3 : RowL 2 1 cs_int64 sx0_3 x0_3 Fx0_3) (hx0_4 : RowsL 27 2 1 cs_int64 sx0_4 x0_4 Fx0_4) (hx0_6 : RowL 74 3 cs_api_Event sx0_6 x0_6 Fx0_6) {w0 w : World} {ps0 : Nat → Prop} {H0 H : Hp} {K : Int → Tstep_state → (List Int) → (List (List Int)) → (List Tapi_Event) → Hp → Prop} {R : Value → World → Prop} {E : Pan} (I : Inv w0 ps0 H0 H [bx g0 58 [(vs x0.fc.fVars), (vi x0.fc.fTemps), (vs x0.fc.fArrays), (vi x0.fc.fPoints), (vi x0.fc.fExit), (vs x0.fc.fEdges), (vs x0.ffrom), (vi x0.fpoint), (vs sx0_3), (vs sx0_4), (vs x0.fscript), (vs sx0_6)], Fx0_3, Fx0_4, Fx0_6] w) (hR : ∀ (r0 : Int) (y0 : Tstep_state) (y0_3 : (List Int)) (y0_4 : (List (List Int))) (y0_6 : (List Tapi_Event)) (sy0_3 : Sl) (Fy0_3 : Frag) (sy0_4 : Sl) (Fy0_4 : Frag) (sy0_6 : Sl) (Fy0_6 : Frag) (H' : Hp) (w' : World) (_ : RowL 2 1 cs_int64 sy0_3 y0_3 Fy0_3) (_ : RowsL 27 2 1 cs_int64 sy0_4 y0_4 Fy0_4) (_ : RowL 74 3 cs_api_Event sy0_6 y0_6 Fy0_6) (_ : Inv w0 ps0 H0 H' [bx g0 58 [(vs y0.fc.fVars), (vi y0.fc.fTemps), (vs y0.fc.fArrays), (vi y0.fc.fPoints), (vi y0.fc.fExit), (vs y0.fc.fEdges), (vs y0.ffrom), (vi y0.fpoint), (vs sy0_3), (vs sy0_4), (vs y0.fscript), (vs sy0_6)], Fy0_3, Fy0_4, Fy0_6] w') (_ : K r0 y0 y0_3 y0_4 y0_6 H'), R (vi r0) w') (h : T_gnomon_step_state_takes x0 x0_3 x0_4 x0_6 x1 H K) : F38 (Value.pointer (some ⟨g0, 0, none⟩)) (Value.agg (cs_api_Edge x1).toArray) w R E := by
 unfold T_gnomon_step_state_takes at h
 unfold F38
 refine s_box I (cs := (cs_api_Edge x1)) rfl fun g_2 w_3 I_4 k_5 => ?_
 refine opK_pu (pu_nilp _) ?_
 refine opK_pu pu_fa_58_5 ?_
 refine opK_ld (ld1 Try.isAgg27 ((I_4.bring 1).at1 (o := 10) (vs := [(vs x0.fscript)]) (nb rfl) rfl)) ?_
 obtain ⟨h_9, h_10, x_6, h_12, h⟩ := h
 obtain ⟨g_7, o_8, h_11, h_12⟩ := h_12
 refine opK_pu (pu_ix_27 h_11 _ _ _ _ h_9 h_10) ?_
 refine opK_ld (ld1 (v := (vi x_6)) Try.isAgg2 (I_4.atH h_12)) ?_
 refine opK_pu (pu_nilp _) ?_
 refine opK_pu pu_fa_58_5 ?_
 refine opK_ld (ld1 Try.isAgg27 ((I_4.bring 1).at1 (o := 10) (vs := [(vs x0.fscript)]) (nb rfl) rfl)) ?_
 obtain ⟨h_13, h_14, h⟩ := h
 refine opK_pu (pu_cut_l Try.underlying27 Try.sizeOf2 x0.fscript h_13 h_14) ?_
 refine opK_pu (pu_nilp _) ?_
 refine opK_pu pu_fa_58_5 ?_
 refine s_store (I_4.bring 1) Try.sizeOf27 (vs := [(Value.slice (x0.fscript.cut (1 : Int).toNat x0.fscript.n x0.fscript.c 1).a (x0.fscript.cut (1 : Int).toNat x0.fscript.n x0.fscript.c 1).n (x0.fscript.cut (1 : Int).toNat x0.fscript.n x0.fscript.c 1).c)]) (cs' := [(vs x0.fc.fVars), (vi x0.fc.fTemps), (vs x0.fc.fArrays), (vi x0.fc.fPoints), (vi x0.fc.fExit), (vs x0.fc.fEdges), (vs x0.ffrom), (vi x0.fpoint), (vs sx0_3), (vs sx0_4), (Value.slice (x0.fscript.cut (1 : Int).toNat x0.fscript.n x0.fscript.c 1).a (x0.fscript.cut (1 : Int).toNat x0.fscript.n x0.fscript.c 1).n (x0.fscript.cut (1 : Int).toNat x0.fscript.n x0.fscript.c 1).c), (vs sx0_6)]) rfl rfl (nb rfl) rfl rfl fun w_15 I_16 k_17 => ?_
 refine s_dX I_16 fun w_18 I_19 => ?_
 refine qP_pu (pu_nilp _) ?_
 refine qP_pu pu_fa_58_3 ?_
 refine qP_pu pu_fa_52_3 ?_
 refine qL_ld (ld1 Try.isAgg27 (I_19.at1 (o := 8) (vs := [(vs sx0_3)]) (nb rfl) rfl)) ?_
 refine qL_ld (ld1 Try.isAgg3 ((I_19.bring 1).at1 (o := 3) (vs := [(vi x1.fDst)]) (nb rfl) rfl)) ?_
 obtain ⟨h_22, x_20, h_23, h⟩ := h
 obtain ⟨g_21, a_25, h_24, h_26⟩ := hx0_3.addr h_23
 refine qP_pu (pu_ix_27 h_24 _ _ _ _ h_22 (hx0_3.lt h_22 h_23)) ?_
 refine s_rowst (x := x_6) (I_19.bring 2) hx0_3 h_24 (List.getElem?_eq_some_iff.1 h_23).1 Try.sizeOf2 rfl fun F_27 w_28 h_29 I_30 k_31 => ?_
 refine opK_pu (pu_nilp _) ?_
 refine opK_pu pu_fa_58_6 ?_
 refine opK_ld (ld1 Try.isAgg31 ((I_30.bring 1).at1 (o := 11) (vs := [(vs sx0_6)]) (nb rfl) rfl)) ?_
 refine opK_pu (pu_bld_74_0_1 _ _) ?_
 refine s_bs (e := 74) (c := cs_api_Event) (xs := [(Tapi_Event.mk true x_6 false)]) I_30 (bs_31_1 _ _ _) rfl rfl cs_api_Event_l cs_api_Event_o (nb rfl) fun s_33 F_34 w_35 h_36 I_37 k_38 => ?_
 obtain ⟨h_45, h⟩ := h
 refine app_31 (s := sx0_6) (xs := x0_6) (I_37.bring 5) hx0_6 (h_36.srcO ((I_37.bring 5).bring 1)) h_45 fun s_39 F_40 w_41 h_42 I_43 k_44 => ?_
 refine opK_pu (pu_nilp _) ?_
 refine opK_pu pu_fa_58_6 ?_
 refine s_store ((I_43.bring 1).drop.bring 2) Try.sizeOf31 (vs := [(vs s_39)]) (cs' := [(vs x0.fc.fVars), (vi x0.fc.fTemps), (vs x0.fc.fArrays), (vi x0.fc.fPoints), (vi x0.fc.fExit), (vs x0.fc.fEdges), (vs x0.ffrom), (vi x0.fpoint), (vs sx0_3), (vs sx0_4), (Value.slice (x0.fscript.cut (1 : Int).toNat x0.fscript.n x0.fscript.c 1).a (x0.fscript.cut (1 : Int).toNat x0.fscript.n x0.fscript.c 1).n (x0.fscript.cut (1 : Int).toNat x0.fscript.n x0.fscript.c 1).c), (vs s_39)]) rfl rfl (nb rfl) rfl rfl fun w_46 I_47 k_48 => ?_
 exact hR 0 (Tstep_state.mk x0.fc x0.ffrom x0.fpoint (Sl.mk none 0 0) (Sl.mk none 0 0) (x0.fscript.cut (1 : Int).toNat x0.fscript.n x0.fscript.c 1) (Sl.mk none 0 0)) ((x0_3).set (x1.fDst : Int).toNat x_6) x0_4 (x0_6 ++ [(Tapi_Event.mk true x_6 false)]) sx0_3 F_27 sx0_4 Fx0_4 s_39 F_40 H _ h_29 hx0_4 h_42 (((((I_47.bring 3).drop.bring 1).bring 3).bring 3).bring 3) h
theorem L_gnomon_step_state_takes (x0 : Tstep_state) (x0_3 : (List Int)) (x0_4 : (List (List Int))) (x0_6 : (List Tapi_Event)) (x1 : Tapi_Edge) {H : Hp} {K : Int → Tstep_state → (List Int) → (List (List Int)) → (List Tapi_Event) → Hp → Prop} (h : T_gnomon_step_state_takes x0 x0_3 x0_4 x0_6 x1 H K) : C_gnomon_step_state_takes x0 x0_3 x0_4 x0_6 x1 H K := by
 intro g0 sx0_3 Fx0_3 sx0_4 Fx0_4 sx0_6 Fx0_6 hx0_3 hx0_4 hx0_6 w I
 refine F38_ok ?_
 refine LF_gnomon_step_state_takes x0 x0_3 x0_4 x0_6 x1 g0 sx0_3 Fx0_3 sx0_4 Fx0_4 sx0_6 Fx0_6 hx0_3 hx0_4 hx0_6 I (fun r0 y0 y0_3 y0_4 y0_6 sy0_3 Fy0_3 sy0_4 Fy0_4 sy0_6 Fy0_6 H' w' khy0_3 khy0_4 khy0_6 I' hk => ⟨H', _, I', r0, y0, y0_3, y0_4, y0_6, sy0_3, Fy0_3, sy0_4, Fy0_4, sy0_6, Fy0_6, rfl, rfl, khy0_3, khy0_4, khy0_6, hk⟩) h


/- function 53: (gnomon/cfg.graph).variable -/
def T_gnomon_cfg_graph_variable (x0 : Tcfg_graph) (x1 : Int) (H : Hp) (K : Bool → Hp → Prop) : Prop :=
 K ((decide (0 ≤ x1)) && (decide (x1 < (IntKind.wrap .i64 ((x0.fCfg.fVars.n : Int) + x0.fCfg.fTemps))))) H
theorem LF_gnomon_cfg_graph_variable (x0 : Tcfg_graph) (x1 : Int) {w0 w : World} {ps0 : Nat → Prop} {H0 H : Hp} {K : Bool → Hp → Prop} {R : Value → World → Prop} {E : Pan} (I : Inv w0 ps0 H0 H [] w) (hR : ∀ (r0 : Bool) (H' : Hp) (w' : World) (_ : Inv w0 ps0 H0 H' [] w') (_ : K r0 H'), R (Value.bool r0) w') (h : T_gnomon_cfg_graph_variable x0 x1 H K) : F53 (Value.agg (cs_api_Cfg x0.fCfg).toArray) (vi x1) w R E := by
 unfold T_gnomon_cfg_graph_variable at h
 unfold F53
 refine s_box I (cs := (cs_api_Cfg x0.fCfg)) rfl fun g_2 w_3 I_4 k_5 => ?_
 refine opK_pu (pu_geq _ _ _ _ _ _) ?_
 try simp only [gval_b]
 refine opK_pu (Pu.g fun hb => by have hb_0 := hb; first | exact pu_fa_81_0 | (simp only [gval_t hb_0, gv_t hb_0, gv_t hb, gva_tt hb_0]; exact pu_fa_81_0) | (simp only [gval_t hb_0, gv_t hb_0, gv_t hb, gva_tf hb_0, gv_n]; exact pu_fa_81_0)) ?_
 refine opK_pu (Pu.g fun hb => by have hb_0 := hb; first | exact pu_fa_26_0 | (simp only [gv_t hb_0]; exact pu_fa_26_0) | (simp only [gval_t hb_0, gv_t hb_0, gv_t hb, gva_tf hb_0, gv_n]; exact pu_fa_26_0)) ?_
 refine opK_ld (Ld.g fun hb => by have hb_0 := hb; first | exact (ld1 Try.isAgg22 (I_4.at1 (o := 0) (vs := [(vs x0.fCfg.fVars)]) (nb rfl) rfl)) | (simp only [gv_t hb_0]; exact (ld1 Try.isAgg22 (I_4.at1 (o := 0) (vs := [(vs x0.fCfg.fVars)]) (nb rfl) rfl))) | (simp only [gval_t hb_0, gv_t hb_0, gv_t hb, gva_tf hb_0, gv_n]; exact (ld1 Try.isAgg22 (I_4.at1 (o := 0) (vs := [(vs x0.fCfg.fVars)]) (nb rfl) rfl)))) ?_
 refine opK_pu (Pu.g fun hb => by have hb_0 := hb; first | exact (pu_len_22 _ _ _) | (simp only [gv_t hb_0]; exact (pu_len_22 _ _ _)) | (simp only [gval_t hb_0, gv_t hb_0, gv_t hb, gva_tf hb_0, gv_n]; exact (pu_len_22 _ _ _))) ?_
 refine opK_pu (Pu.g fun hb => by have hb_0 := hb; first | exact pu_fa_81_0 | (simp only [gval_t hb_0, gv_t hb_0, gv_t hb, gva_tt hb_0]; exact pu_fa_81_0) | (simp only [gval_t hb_0, gv_t hb_0, gv_t hb, gva_tf hb_0, gv_n]; exact pu_fa_81_0)) ?_
 refine opK_pu (Pu.g fun hb => by have hb_0 := hb; first | exact pu_fa_26_1 | (simp only [gv_t hb_0]; exact pu_fa_26_1) | (simp only [gval_t hb_0, gv_t hb_0, gv_t hb, gva_tf hb_0, gv_n]; exact pu_fa_26_1)) ?_
 refine opK_ld (Ld.g fun hb => by have hb_0 := hb; first | exact (ld1 Try.isAgg3 (I_4.at1 (o := 1) (vs := [(vi x0.fCfg.fTemps)]) (nb rfl) rfl)) | (simp only [gv_t hb_0]; exact (ld1 Try.isAgg3 (I_4.at1 (o := 1) (vs := [(vi x0.fCfg.fTemps)]) (nb rfl) rfl))) | (simp only [gval_t hb_0, gv_t hb_0, gv_t hb, gva_tf hb_0, gv_n]; exact (ld1 Try.isAgg3 (I_4.at1 (o := 1) (vs := [(vi x0.fCfg.fTemps)]) (nb rfl) rfl)))) ?_
 refine opK_pu (Pu.g fun hb => by have hb_0 := hb; first | exact (pu_add _ _ _ _ _ _) | (simp only [gv_t hb_0]; exact (pu_add _ _ _ _ _ _)) | (simp only [gval_t hb_0, gv_t hb_0, gv_t hb, gva_tf hb_0, gv_n]; exact (pu_add _ _ _ _ _ _))) ?_
 refine opK_pu (Pu.g fun hb => by have hb_0 := hb; first | exact (pu_lss _ _ _ _ _ _) | (simp only [gv_t hb_0]; exact (pu_lss _ _ _ _ _ _)) | (simp only [gval_t hb_0, gv_t hb_0, gv_t hb, gva_tf hb_0, gv_n]; exact (pu_lss _ _ _ _ _ _))) ?_
 refine opK_pu (pu_and _ _) ?_
 exact hR ((decide (0 ≤ x1)) && (decide (x1 < (IntKind.wrap .i64 ((x0.fCfg.fVars.n : Int) + x0.fCfg.fTemps))))) H _ I_4.drop h
theorem L_gnomon_cfg_graph_variable (x0 : Tcfg_graph) (x1 : Int) {H : Hp} {K : Bool → Hp → Prop} (h : T_gnomon_cfg_graph_variable x0 x1 H K) : C_gnomon_cfg_graph_variable x0 x1 H K := by
 intro w I
 refine F53_ok ?_
 refine LF_gnomon_cfg_graph_variable x0 x1 I (fun r0 H' w' I' hk => ⟨H', _, I', r0, rfl, rfl, hk⟩) h


/- function 28: (gnomon/cfg.graph).right -/
def T_gnomon_cfg_graph_right (x0 : Tcfg_graph) (x1 : Tapi_Edge) (H : Hp) (K : Bool → Hp → Prop) : Prop :=
 C_gnomon_cfg_graph_point x0 x1.fFrom H (fun (r0_19 : Bool) (H_11 : Hp) => 
 TG ((!r0_19) = false) (C_gnomon_cfg_graph_point x0 x1.fTo H_11) false H_11 (fun (r0_28 : Bool) (H_20 : Hp) =>
 ((((((!r0_19) || (!r0_28)) || (decide (x1.fFrom = x0.fCfg.fExit))) || (decide (x1.fKind < 1))) || (decide (14 < x1.fKind))) = true →
 K false H_20) ∧
 ((((((!r0_19) || (!r0_28)) || (decide (x1.fFrom = x0.fCfg.fExit))) || (decide (x1.fKind < 1))) || (decide (14 < x1.fKind))) = false →
 C_gnomon_cfg_wantsOf x1.fKind H_20 (fun (r0_37 : Tcfg_wants) (H_29 : Hp) => 
 C_gnomon_cfg_graph_variable x0 x1.fDst H_29 (fun (r0_56 : Bool) (H_48 : Hp) => 
 C_gnomon_cfg_has r0_37.fdst r0_56 (decide (x1.fDst = (-1))) H_48 (fun (r0_65 : Bool) (H_57 : Hp) => 
 TG (r0_65 = true) (C_gnomon_cfg_graph_array x0 x1.fArr H_57) false H_57 (fun (r0_74 : Bool) (H_66 : Hp) =>
 TG (r0_65 = true) (C_gnomon_cfg_has r0_37.farr r0_74 (decide (x1.fArr = (-1))) H_66) false H_66 (fun (r0_83 : Bool) (H_75 : Hp) =>
 TG ((r0_65 && r0_83) = true) (C_gnomon_cfg_has r0_37.fop ((decide (1 ≤ x1.fOp)) && (decide (x1.fOp ≤ 6))) (decide (x1.fOp = 0)) H_75) false H_75 (fun (r0_92 : Bool) (H_84 : Hp) =>
 TG (((r0_65 && r0_83) && r0_92) = true) (C_gnomon_cfg_graph_operand x0 x1.fA H_84) false H_84 (fun (r0_101 : Bool) (H_93 : Hp) =>
 TG (((r0_65 && r0_83) && r0_92) = true) (C_gnomon_cfg_nothing H_93) (Tapi_Operand.mk 0 0) H_93 (fun (r0_110 : Tapi_Operand) (H_102 : Hp) =>
 TG (((r0_65 && r0_83) && r0_92) = true) (C_gnomon_cfg_has r0_37.fa r0_101 (decide (x1.fA.fVar = r0_110.fVar ∧ x1.fA.fNum = r0_110.fNum)) H_102) false H_102 (fun (r0_119 : Bool) (H_111 : Hp) =>
 TG ((((r0_65 && r0_83) && r0_92) && r0_119) = true) (C_gnomon_cfg_graph_operand x0 x1.fB H_111) false H_111 (fun (r0_128 : Bool) (H_120 : Hp) =>
 TG ((((r0_65 && r0_83) && r0_92) && r0_119) = true) (C_gnomon_cfg_nothing H_120) (Tapi_Operand.mk 0 0) H_120 (fun (r0_137 : Tapi_Operand) (H_129 : Hp) =>
 TG ((((r0_65 && r0_83) && r0_92) && r0_119) = true) (C_gnomon_cfg_has r0_37.fb r0_128 (decide (x1.fB.fVar = r0_137.fVar ∧ x1.fB.fNum = r0_137.fNum)) H_129) false H_129 (fun (r0_146 : Bool) (H_138 : Hp) =>
 K ((((r0_65 && r0_83) && r0_92) && r0_119) && r0_146) H_138)))))))))))))))
theorem LF_gnomon_cfg_graph_right (x0 : Tcfg_graph) (x1 : Tapi_Edge) {w0 w : World} {ps0 : Nat → Prop} {H0 H : Hp} {K : Bool → Hp → Prop} {R : Value → World → Prop} {E : Pan} (I : Inv w0 ps0 H0 H [] w) (hR : ∀ (r0 : Bool) (H' : Hp) (w' : World) (_ : Inv w0 ps0 H0 H' [] w') (_ : K r0 H'), R (Value.bool r0) w') (h : T_gnomon_cfg_graph_right x0 x1 H K) : F28 (Value.agg (cs_api_Cfg x0.fCfg).toArray) (Value.agg (cs_api_Edge x1).toArray) w R E := by
 unfold T_gnomon_cfg_graph_right at h
 unfold F28
 refine s_box I (cs := (cs_api_Cfg x0.fCfg)) rfl fun g_2 w_3 I_4 k_5 => ?_
 refine s_box I_4 (cs := (cs_api_Edge x1)) rfl fun g_7 w_8 I_9 k_10 => ?_
 refine opK_ld (ldA Try.isAgg81 Try.sizeOf81 rfl ((I_9.bring 1).at1 (o := 0) (vs := (cs_api_Cfg x0.fCfg)) (nb rfl) rfl)) ?_
 refine opK_pu pu_fa_52_0 ?_
 refine opK_ld (ld1 Try.isAgg3 (I_9.at1 (o := 0) (vs := [(vi x1.fFrom)]) (nb rfl) rfl)) ?_
 refine opK_calls (cap := []) (fun args w => Try.call27 args w) ?_
 refine Cv_ct (Fi := []) (Fr := [bx g_7 52 (cs_api_Edge x1), bx g_2 81 (cs_api_Cfg x0.fCfg)]) I_9 (h) (fun v_15 H_11 F_16 w_12 I_13 l_18 k_14 q_17 => ?_) (fun _ _ _ _ _ q => q.elim)
 obtain ⟨r0_19, rfl, rfl, h⟩ := q_17
 refine opK_pu (pu_not _) ?_
 refine opK_ld (Ld.g fun hb => by have hb_0 := hb; first | exact (ldA Try.isAgg81 Try.sizeOf81 rfl ((I_13.bring 1).at1 (o := 0) (vs := (cs_api_Cfg x0.fCfg)) (nb rfl) rfl)) | (simp only [gval_t hb_0, gv_t hb_0, gv_t hb, gva_ft hb_0]; exact (ldA Try.isAgg81 Try.sizeOf81 rfl ((I_13.bring 1).at1 (o := 0) (vs := (cs_api_Cfg x0.fCfg)) (nb rfl) rfl))) | (simp only [gval_t hb_0, gv_t hb_0, gv_t hb, gva_ff hb_0, gv_n]; exact (ldA Try.isAgg81 Try.sizeOf81 rfl ((I_13.bring 1).at1 (o := 0) (vs := (cs_api_Cfg x0.fCfg)) (nb rfl) rfl)))) ?_
 refine opK_pu (Pu.g fun hb => by have hb_0 := hb; first | exact pu_fa_52_1 | (simp only [gval_t hb_0, gv_t hb_0, gv_t hb, gva_ft hb_0]; exact pu_fa_52_1) | (simp only [gval_t hb_0, gv_t hb_0, gv_t hb, gva_ff hb_0, gv_n]; exact pu_fa_52_1)) ?_
 refine opK_ld (Ld.g fun hb => by have hb_0 := hb; first | exact (ld1 Try.isAgg3 (I_13.at1 (o := 1) (vs := [(vi x1.fTo)]) (nb rfl) rfl)) | (simp only [gv_t hb_0]; exact (ld1 Try.isAgg3 (I_13.at1 (o := 1) (vs := [(vi x1.fTo)]) (nb rfl) rfl))) | (simp only [gval_t hb_0, gv_t hb_0, gv_t hb, gva_ff hb_0, gv_n]; exact (ld1 Try.isAgg3 (I_13.at1 (o := 1) (vs := [(vi x1.fTo)]) (nb rfl) rfl)))) ?_
 refine opK_g2 (D := fun v_24 w_21 => ∃ (r0_28 : Bool) (H_20 : Hp), v_24 = (gv (!r0_19) false (Value.bool r0_28)) ∧ (Inv w0 ps0 H0 H_20 [bx g_7 52 (cs_api_Edge x1), bx g_2 81 (cs_api_Cfg x0.fCfg)] w_21) ∧ (∀ i, i < w_12.heap.size → ¬ inF [] i → w_21.heap[i]? = w_12.heap[i]?) ∧ Hle H_11 H_20 ∧ (((((((!r0_19) || (!r0_28)) || (decide (x1.fFrom = x0.fCfg.fExit))) || (decide (x1.fKind < 1))) || (decide (14 < x1.fKind))) = true →
 K false H_20) ∧
 ((((((!r0_19) || (!r0_28)) || (decide (x1.fFrom = x0.fCfg.fExit))) || (decide (x1.fKind < 1))) || (decide (14 < x1.fKind))) = false →
 C_gnomon_cfg_wantsOf x1.fKind H_20 (fun (r0_37 : Tcfg_wants) (H_29 : Hp) => 
 C_gnomon_cfg_graph_variable x0 x1.fDst H_29 (fun (r0_56 : Bool) (H_48 : Hp) => 
 C_gnomon_cfg_has r0_37.fdst r0_56 (decide (x1.fDst = (-1))) H_48 (fun (r0_65 : Bool) (H_57 : Hp) => 
 TG (r0_65 = true) (C_gnomon_cfg_graph_array x0 x1.fArr H_57) false H_57 (fun (r0_74 : Bool) (H_66 : Hp) =>
 TG (r0_65 = true) (C_gnomon_cfg_has r0_37.farr r0_74 (decide (x1.fArr = (-1))) H_66) false H_66 (fun (r0_83 : Bool) (H_75 : Hp) =>
 TG ((r0_65 && r0_83) = true) (C_gnomon_cfg_has r0_37.fop ((decide (1 ≤ x1.fOp)) && (decide (x1.fOp ≤ 6))) (decide (x1.fOp = 0)) H_75) false H_75 (fun (r0_92 : Bool) (H_84 : Hp) =>
 TG (((r0_65 && r0_83) && r0_92) = true) (C_gnomon_cfg_graph_operand x0 x1.fA H_84) false H_84 (fun (r0_101 : Bool) (H_93 : Hp) =>
 TG (((r0_65 && r0_83) && r0_92) = true) (C_gnomon_cfg_nothing H_93) (Tapi_Operand.mk 0 0) H_93 (fun (r0_110 : Tapi_Operand) (H_102 : Hp) =>
 TG (((r0_65 && r0_83) && r0_92) = true) (C_gnomon_cfg_has r0_37.fa r0_101 (decide (x1.fA.fVar = r0_110.fVar ∧ x1.fA.fNum = r0_110.fNum)) H_102) false H_102 (fun (r0_119 : Bool) (H_111 : Hp) =>
 TG ((((r0_65 && r0_83) && r0_92) && r0_119) = true) (C_gnomon_cfg_graph_operand x0 x1.fB H_111) false H_111 (fun (r0_128 : Bool) (H_120 : Hp) =>
 TG ((((r0_65 && r0_83) && r0_92) && r0_119) = true) (C_gnomon_cfg_nothing H_120) (Tapi_Operand.mk 0 0) H_120 (fun (r0_137 : Tapi_Operand) (H_129 : Hp) =>
 TG ((((r0_65 && r0_83) && r0_92) && r0_119) = true) (C_gnomon_cfg_has r0_37.fb r0_128 (decide (x1.fB.fVar = r0_137.fVar ∧ x1.fB.fNum = r0_137.fNum)) H_129) false H_129 (fun (r0_146 : Bool) (H_138 : Hp) =>
 K ((((r0_65 && r0_83) && r0_92) && r0_119) && r0_146) H_138))))))))))))))) (fun b_157 => ?_) (fun b_157 => ?_) ?_
 ·replace h := h.1 b_157
  have hb_0 := b_157
  try simp only [gv_t hb_0]
  refine opK_calls (cap := []) (fun args w => Try.call27 args w) ?_
  refine Cv_ct (Fi := []) (Fr := [bx g_7 52 (cs_api_Edge x1), bx g_2 81 (cs_api_Cfg x0.fCfg)]) I_13 (h) (fun v_24 H_20 F_25 w_21 I_22 l_27 k_23 q_26 => ?_) (fun _ _ _ _ _ q => q.elim)
  obtain ⟨r0_28, rfl, rfl, h⟩ := q_26
  exact ⟨r0_28, H_20, by first | rfl | rw [gv_t b_157], I_22, k_23, l_27, h⟩
 ·exact ⟨false, H_11, by first | rfl | rw [gv_f b_157], I_13, fun _ _ _ => rfl, Hle.refl _, h.2 b_157⟩
 ·clear h
  rintro v_24 w_21 ⟨r0_28, H_20, rfl, I_22, k_23, l_27, h⟩
  refine opK_pu (Pu.g fun hb => by have hb_0 := hb; first | exact (pu_not _) | (simp only [gv_t hb_0]; exact (pu_not _)) | (simp only [gval_t hb_0, gv_t hb_0, gv_t hb, gva_ff hb_0, gv_n]; exact (pu_not _))) ?_
  refine opK_pu (pu_or _ _) ?_
  refine opK_pu (Pu.g fun hb => by have hb_0 := hb; first | exact pu_fa_52_0 | (simp only [gval_t hb_0, gv_t hb_0, gv_t hb, gva_ft hb_0]; exact pu_fa_52_0) | (simp only [gval_t hb_0, gv_t hb_0, gv_t hb, gva_ff hb_0, gv_n]; exact pu_fa_52_0)) ?_
  refine opK_ld (Ld.g fun hb => by have hb_0 := hb; first | exact (ld1 Try.isAgg3 (I_22.at1 (o := 0) (vs := [(vi x1.fFrom)]) (nb rfl) rfl)) | (simp only [gv_t hb_0]; exact (ld1 Try.isAgg3 (I_22.at1 (o := 0) (vs := [(vi x1.fFrom)]) (nb rfl) rfl))) | (simp only [gval_t hb_0, gv_t hb_0, gv_t hb, gva_ff hb_0, gv_n]; exact (ld1 Try.isAgg3 (I_22.at1 (o := 0) (vs := [(vi x1.fFrom)]) (nb rfl) rfl)))) ?_
  refine opK_pu (Pu.g fun hb => by have hb_0 := hb; first | exact pu_fa_81_0 | (simp only [gval_t hb_0, gv_t hb_0, gv_t hb, gva_ft hb_0]; exact pu_fa_81_0) | (simp only [gval_t hb_0, gv_t hb_0, gv_t hb, gva_ff hb_0, gv_n]; exact pu_fa_81_0)) ?_
  refine opK_pu (Pu.g fun hb => by have hb_0 := hb; first | exact pu_fa_26_4 | (simp only [gv_t hb_0]; exact pu_fa_26_4) | (simp only [gval_t hb_0, gv_t hb_0, gv_t hb, gva_ff hb_0, gv_n]; exact pu_fa_26_4)) ?_
  refine opK_ld (Ld.g fun hb => by have hb_0 := hb; first | exact (ld1 Try.isAgg3 ((I_22.bring 1).at1 (o := 4) (vs := [(vi x0.fCfg.fExit)]) (nb rfl) rfl)) | (simp only [gv_t hb_0]; exact (ld1 Try.isAgg3 ((I_22.bring 1).at1 (o := 4) (vs := [(vi x0.fCfg.fExit)]) (nb rfl) rfl))) | (simp only [gval_t hb_0, gv_t hb_0, gv_t hb, gva_ff hb_0, gv_n]; exact (ld1 Try.isAgg3 ((I_22.bring 1).at1 (o := 4) (vs := [(vi x0.fCfg.fExit)]) (nb rfl) rfl)))) ?_
  refine opK_pu (Pu.g fun hb => by have hb_0 := hb; first | exact (pu_eql _ _ _ _ _ _) | (simp only [gv_t hb_0]; exact (pu_eql _ _ _ _ _ _)) | (simp only [gval_t hb_0, gv_t hb_0, gv_t hb, gva_ff hb_0, gv_n]; exact (pu_eql _ _ _ _ _ _))) ?_
  refine opK_pu (pu_or _ _) ?_
  refine opK_pu (Pu.g fun hb => by have hb_0 := hb; first | exact pu_fa_52_2 | (simp only [gval_t hb_0, gv_t hb_0, gv_t hb, gva_ft hb_0]; exact pu_fa_52_2) | (simp only [gval_t hb_0, gv_t hb_0, gv_t hb, gva_ff hb_0, gv_n]; exact pu_fa_52_2)) ?_
  refine opK_ld (Ld.g fun hb => by have hb_0 := hb; first | exact (ld1 Try.isAgg3 (I_22.at1 (o := 2) (vs := [(vi x1.fKind)]) (nb rfl) rfl)) | (simp only [gv_t hb_0]; exact (ld1 Try.isAgg3 (I_22.at1 (o := 2) (vs := [(vi x1.fKind)]) (nb rfl) rfl))) | (simp only [gval_t hb_0, gv_t hb_0, gv_t hb, gva_ff hb_0, gv_n]; exact (ld1 Try.isAgg3 (I_22.at1 (o := 2) (vs := [(vi x1.fKind)]) (nb rfl) rfl)))) ?_
  refine opK_pu (Pu.g fun hb => by have hb_0 := hb; first | exact (pu_lss _ _ _ _ _ _) | (simp only [gv_t hb_0]; exact (pu_lss _ _ _ _ _ _)) | (simp only [gval_t hb_0, gv_t hb_0, gv_t hb, gva_ff hb_0, gv_n]; exact (pu_lss _ _ _ _ _ _))) ?_
  refine opK_pu (pu_or _ _) ?_
  refine opK_pu (Pu.g fun hb => by have hb_0 := hb; first | exact pu_fa_52_2 | (simp only [gval_t hb_0, gv_t hb_0, gv_t hb, gva_ft hb_0]; exact pu_fa_52_2) | (simp only [gval_t hb_0, gv_t hb_0, gv_t hb, gva_ff hb_0, gv_n]; exact pu_fa_52_2)) ?_
  refine opK_ld (Ld.g fun hb => by have hb_0 := hb; first | exact (ld1 Try.isAgg3 (I_22.at1 (o := 2) (vs := [(vi x1.fKind)]) (nb rfl) rfl)) | (simp only [gv_t hb_0]; exact (ld1 Try.isAgg3 (I_22.at1 (o := 2) (vs := [(vi x1.fKind)]) (nb rfl) rfl))) | (simp only [gval_t hb_0, gv_t hb_0, gv_t hb, gva_ff hb_0, gv_n]; exact (ld1 Try.isAgg3 (I_22.at1 (o := 2) (vs := [(vi x1.fKind)]) (nb rfl) rfl)))) ?_
  refine opK_pu (Pu.g fun hb => by have hb_0 := hb; first | exact (pu_gtr _ _ _ _ _ _) | (simp only [gv_t hb_0]; exact (pu_gtr _ _ _ _ _ _)) | (simp only [gval_t hb_0, gv_t hb_0, gv_t hb, gva_ff hb_0, gv_n]; exact (pu_gtr _ _ _ _ _ _))) ?_
  refine opK_pu (pu_or _ _) ?_
  refine xcond_b (fun c_156 => ?_) (fun c_156 => ?_)
  ·replace h := h.1 c_156
   exact hR false H_20 _ I_22.drop.drop h
  ·replace h := h.2 c_156
   refine opK_pu pu_fa_52_2 ?_
   refine opK_ld (ld1 Try.isAgg3 (I_22.at1 (o := 2) (vs := [(vi x1.fKind)]) (nb rfl) rfl)) ?_
   refine opK_calls (cap := []) (fun args w => Try.call51 args w) ?_
   refine Cv_ct (Fi := []) (Fr := [bx g_7 52 (cs_api_Edge x1), bx g_2 81 (cs_api_Cfg x0.fCfg)]) I_22 (h) (fun v_33 H_29 F_34 w_30 I_31 l_36 k_32 q_35 => ?_) (fun _ _ _ _ _ q => q.elim)
   obtain ⟨r0_37, rfl, rfl, h⟩ := q_35
   refine s_alloc I_31 Try.zeroValue95 (cs := [(Value.bool false), (Value.bool false), (Value.bool false), (Value.bool false), (Value.bool false)]) rfl fun g_39 w_40 I_41 k_42 => ?_
   refine s_store I_41 Try.sizeOf95 (vs := (cs_cfg_wants r0_37)) (cs' := (cs_cfg_wants r0_37)) rfl rfl (nb rfl) rfl rfl fun w_43 I_44 k_45 => ?_
   refine s_dX I_44 fun w_46 I_47 => ?_
   refine qP_pu pu_fa_95_0 ?_
   refine qP_pu pu_fa_52_3 ?_
   refine qP_pu pu_fa_52_3 ?_
   refine qL_ld (ld1 Try.isAgg4 (I_47.at1 (o := 0) (vs := [(Value.bool r0_37.fdst)]) (nb rfl) rfl)) ?_
   refine qL_ld (ldA Try.isAgg81 Try.sizeOf81 rfl ((I_47.bring 2).at1 (o := 0) (vs := (cs_api_Cfg x0.fCfg)) (nb rfl) rfl)) ?_
   refine qL_ld (ld1 Try.isAgg3 ((I_47.bring 1).at1 (o := 3) (vs := [(vi x1.fDst)]) (nb rfl) rfl)) ?_
   refine qL_ld (ld1 Try.isAgg3 ((I_47.bring 1).at1 (o := 3) (vs := [(vi x1.fDst)]) (nb rfl) rfl)) ?_
   refine qP_pu (pu_eql _ _ _ _ _ _) ?_
   refine opK_calls (cap := []) (fun args w => Try.call53 args w) ?_
   refine Cv_ct (Fi := []) (Fr := [bx g_39 95 (cs_cfg_wants r0_37), bx g_7 52 (cs_api_Edge x1), bx g_2 81 (cs_api_Cfg x0.fCfg)]) I_47 (h) (fun v_52 H_48 F_53 w_49 I_50 l_55 k_51 q_54 => ?_) (fun _ _ _ _ _ q => q.elim)
   obtain ⟨r0_56, rfl, rfl, h⟩ := q_54
   refine ⟨(k_51 _ (I_47.bring 1).lt1 (Inv.not_in (Fi := []) (I_47.bring 1))), (k_51 _ I_47.lt1 (Inv.not_in (Fi := []) I_47)), ?_⟩
   refine opK_calls (cap := []) (fun args w => Try.call52 args w) ?_
   refine Cv_ct (Fi := []) (Fr := [bx g_39 95 (cs_cfg_wants r0_37), bx g_7 52 (cs_api_Edge x1), bx g_2 81 (cs_api_Cfg x0.fCfg)]) I_50 (h) (fun v_61 H_57 F_62 w_58 I_59 l_64 k_60 q_63 => ?_) (fun _ _ _ _ _ q => q.elim)
   obtain ⟨r0_65, rfl, rfl, h⟩ := q_63
   refine qP_pu (Pu.g fun hb => by have hb_0 := hb; first | exact pu_fa_95_1 | (simp only [gval_t hb_0, gv_t hb_0, gv_t hb, gva_tt hb_0]; exact pu_fa_95_1) | (simp only [gval_t hb_0, gv_t hb_0, gv_t hb, gva_tf hb_0, gv_n]; exact pu_fa_95_1)) ?_
   refine qP_pu (Pu.g fun hb => by have hb_0 := hb; first | exact pu_fa_52_4 | (simp only [gval_t hb_0, gv_t hb_0, gv_t hb, gva_tt hb_0]; exact pu_fa_52_4) | (simp only [gval_t hb_0, gv_t hb_0, gv_t hb, gva_tf hb_0, gv_n]; exact pu_fa_52_4)) ?_
   refine qP_pu (Pu.g fun hb => by have hb_0 := hb; first | exact pu_fa_52_4 | (simp only [gval_t hb_0, gv_t hb_0, gv_t hb, gva_tt hb_0]; exact pu_fa_52_4) | (simp only [gval_t hb_0, gv_t hb_0, gv_t hb, gva_tf hb_0, gv_n]; exact pu_fa_52_4)) ?_
   refine qL_g (p := (Value.pointer (some ⟨g_39, 1, none⟩))) rfl (Ld.g fun hb => by have hb_0 := hb; first | exact (ld1 Try.isAgg4 (I_59.at1 (o := 1) (vs := [(Value.bool r0_37.farr)]) (nb rfl) rfl)) | (simp only [gv_t hb_0]; exact (ld1 Try.isAgg4 (I_59.at1 (o := 1) (vs := [(Value.bool r0_37.farr)]) (nb rfl) rfl))) | (simp only [gval_t hb_0, gv_t hb_0, gv_t hb, gva_tf hb_0, gv_n]; exact (ld1 Try.isAgg4 (I_59.at1 (o := 1) (vs := [(Value.bool r0_37.farr)]) (nb rfl) rfl)))) ?_
   refine qL_ld (Ld.g fun hb => by have hb_0 := hb; first | exact (ldA Try.isAgg81 Try.sizeOf81 rfl ((I_59.bring 2).at1 (o := 0) (vs := (cs_api_Cfg x0.fCfg)) (nb rfl) rfl)) | (simp only [gval_t hb_0, gv_t hb_0, gv_t hb, gva_tt hb_0]; exact (ldA Try.isAgg81 Try.sizeOf81 rfl ((I_59.bring 2).at1 (o := 0) (vs := (cs_api_Cfg x0.fCfg)) (nb rfl) rfl))) | (simp only [gval_t hb_0, gv_t hb_0, gv_t hb, gva_tf hb_0, gv_n]; exact (ldA Try.isAgg81 Try.sizeOf81 rfl ((I_59.bring 2).at1 (o := 0) (vs := (cs_api_Cfg x0.fCfg)) (nb rfl) rfl)))) ?_
   refine qL_g (p := (Value.pointer (some ⟨g_7, 4, none⟩))) rfl (Ld.g fun hb => by have hb_0 := hb; first | exact (ld1 Try.isAgg3 ((I_59.bring 1).at1 (o := 4) (vs := [(vi x1.fArr)]) (nb rfl) rfl)) | (simp only [gv_t hb_0]; exact (ld1 Try.isAgg3 ((I_59.bring 1).at1 (o := 4) (vs := [(vi x1.fArr)]) (nb rfl) rfl))) | (simp only [gval_t hb_0, gv_t hb_0, gv_t hb, gva_tf hb_0, gv_n]; exact (ld1 Try.isAgg3 ((I_59.bring 1).at1 (o := 4) (vs := [(vi x1.fArr)]) (nb rfl) rfl)))) ?_
   refine qL_g (p := (Value.pointer (some ⟨g_7, 4, none⟩))) rfl (Ld.g fun hb => by have hb_0 := hb; first | exact (ld1 Try.isAgg3 ((I_59.bring 1).at1 (o := 4) (vs := [(vi x1.fArr)]) (nb rfl) rfl)) | (simp only [gv_t hb_0]; exact (ld1 Try.isAgg3 ((I_59.bring 1).at1 (o := 4) (vs := [(vi x1.fArr)]) (nb rfl) rfl))) | (simp only [gval_t hb_0, gv_t hb_0, gv_t hb, gva_tf hb_0, gv_n]; exact (ld1 Try.isAgg3 ((I_59.bring 1).at1 (o := 4) (vs := [(vi x1.fArr)]) (nb rfl) rfl)))) ?_
   refine qP_pu (Pu.g fun hb => by have hb_0 := hb; first | exact (pu_eql _ _ _ _ _ _) | (simp only [gv_t hb_0]; exact (pu_eql _ _ _ _ _ _)) | (simp only [gval_t hb_0, gv_t hb_0, gv_t hb, gva_tf hb_0, gv_n]; exact (pu_eql _ _ _ _ _ _))) ?_
   refine opK_g2 (D := fun v_70 w_67 => ∃ (r0_74 : Bool) (H_66 : Hp), v_70 = (gv r0_65 true (Value.bool r0_74)) ∧ (Inv w0 ps0 H0 H_66 [bx g_39 95 (cs_cfg_wants r0_37), bx g_7 52 (cs_api_Edge x1), bx g_2 81 (cs_api_Cfg x0.fCfg)] w_67) ∧ (∀ i, i < w_58.heap.size → ¬ inF [] i → w_67.heap[i]? = w_58.heap[i]?) ∧ Hle H_57 H_66 ∧ (TG (r0_65 = true) (C_gnomon_cfg_has r0_37.farr r0_74 (decide (x1.fArr = (-1))) H_66) false H_66 (fun (r0_83 : Bool) (H_75 : Hp) =>
 TG ((r0_65 && r0_83) = true) (C_gnomon_cfg_has r0_37.fop ((decide (1 ≤ x1.fOp)) && (decide (x1.fOp ≤ 6))) (decide (x1.fOp = 0)) H_75) false H_75 (fun (r0_92 : Bool) (H_84 : Hp) =>
 TG (((r0_65 && r0_83) && r0_92) = true) (C_gnomon_cfg_graph_operand x0 x1.fA H_84) false H_84 (fun (r0_101 : Bool) (H_93 : Hp) =>
 TG (((r0_65 && r0_83) && r0_92) = true) (C_gnomon_cfg_nothing H_93) (Tapi_Operand.mk 0 0) H_93 (fun (r0_110 : Tapi_Operand) (H_102 : Hp) =>
 TG (((r0_65 && r0_83) && r0_92) = true) (C_gnomon_cfg_has r0_37.fa r0_101 (decide (x1.fA.fVar = r0_110.fVar ∧ x1.fA.fNum = r0_110.fNum)) H_102) false H_102 (fun (r0_119 : Bool) (H_111 : Hp) =>
 TG ((((r0_65 && r0_83) && r0_92) && r0_119) = true) (C_gnomon_cfg_graph_operand x0 x1.fB H_111) false H_111 (fun (r0_128 : Bool) (H_120 : Hp) =>
 TG ((((r0_65 && r0_83) && r0_92) && r0_119) = true) (C_gnomon_cfg_nothing H_120) (Tapi_Operand.mk 0 0) H_120 (fun (r0_137 : Tapi_Operand) (H_129 : Hp) =>
 TG ((((r0_65 && r0_83) && r0_92) && r0_119) = true) (C_gnomon_cfg_has r0_37.fb r0_128 (decide (x1.fB.fVar = r0_137.fVar ∧ x1.fB.fNum = r0_137.fNum)) H_129) false H_129 (fun (r0_146 : Bool) (H_138 : Hp) =>
 K ((((r0_65 && r0_83) && r0_92) && r0_119) && r0_146) H_138)))))))))) (fun b_155 => ?_) (fun b_155 => ?_) ?_
   ·replace h := h.1 b_155
    have hb_0 := b_155
    try simp only [gv_t hb_0]
    refine opK_calls (cap := []) (fun args w => Try.call54 args w) ?_
    refine Cv_ct (Fi := []) (Fr := [bx g_39 95 (cs_cfg_wants r0_37), bx g_7 52 (cs_api_Edge x1), bx g_2 81 (cs_api_Cfg x0.fCfg)]) I_59 (h) (fun v_70 H_66 F_71 w_67 I_68 l_73 k_69 q_72 => ?_) (fun _ _ _ _ _ q => q.elim)
    obtain ⟨r0_74, rfl, rfl, h⟩ := q_72
    exact ⟨r0_74, H_66, by first | rfl | rw [gv_t b_155], I_68, k_69, l_73, h⟩
   ·exact ⟨false, H_57, by first | rfl | rw [gv_f b_155], I_59, fun _ _ _ => rfl, Hle.refl _, h.2 b_155⟩
   ·clear h
    rintro v_70 w_67 ⟨r0_74, H_66, rfl, I_68, k_69, l_73, h⟩
    refine ⟨(same_g (p := (Value.pointer (some ⟨g_7, 4, none⟩))) rfl (k_69 _ (I_59.bring 1).lt1 (Inv.not_in (Fi := []) (I_59.bring 1)))), (same_g (p := (Value.pointer (some ⟨g_39, 1, none⟩))) rfl (k_69 _ I_59.lt1 (Inv.not_in (Fi := []) I_59))), ?_⟩
    refine opK_g2 (D := fun v_79 w_76 => ∃ (r0_83 : Bool) (H_75 : Hp), v_79 = (gv r0_65 true (Value.bool r0_83)) ∧ (Inv w0 ps0 H0 H_75 [bx g_39 95 (cs_cfg_wants r0_37), bx g_7 52 (cs_api_Edge x1), bx g_2 81 (cs_api_Cfg x0.fCfg)] w_76) ∧ (∀ i, i < w_67.heap.size → ¬ inF [] i → w_76.heap[i]? = w_67.heap[i]?) ∧ Hle H_66 H_75 ∧ (TG ((r0_65 && r0_83) = true) (C_gnomon_cfg_has r0_37.fop ((decide (1 ≤ x1.fOp)) && (decide (x1.fOp ≤ 6))) (decide (x1.fOp = 0)) H_75) false H_75 (fun (r0_92 : Bool) (H_84 : Hp) =>
 TG (((r0_65 && r0_83) && r0_92) = true) (C_gnomon_cfg_graph_operand x0 x1.fA H_84) false H_84 (fun (r0_101 : Bool) (H_93 : Hp) =>
 TG (((r0_65 && r0_83) && r0_92) = true) (C_gnomon_cfg_nothing H_93) (Tapi_Operand.mk 0 0) H_93 (fun (r0_110 : Tapi_Operand) (H_102 : Hp) =>
 TG (((r0_65 && r0_83) && r0_92) = true) (C_gnomon_cfg_has r0_37.fa r0_101 (decide (x1.fA.fVar = r0_110.fVar ∧ x1.fA.fNum = r0_110.fNum)) H_102) false H_102 (fun (r0_119 : Bool) (H_111 : Hp) =>
 TG ((((r0_65 && r0_83) && r0_92) && r0_119) = true) (C_gnomon_cfg_graph_operand x0 x1.fB H_111) false H_111 (fun (r0_128 : Bool) (H_120 : Hp) =>
 TG ((((r0_65 && r0_83) && r0_92) && r0_119) = true) (C_gnomon_cfg_nothing H_120) (Tapi_Operand.mk 0 0) H_120 (fun (r0_137 : Tapi_Operand) (H_129 : Hp) =>
 TG ((((r0_65 && r0_83) && r0_92) && r0_119) = true) (C_gnomon_cfg_has r0_37.fb r0_128 (decide (x1.fB.fVar = r0_137.fVar ∧ x1.fB.fNum = r0_137.fNum)) H_129) false H_129 (fun (r0_146 : Bool) (H_138 : Hp) =>
 K ((((r0_65 && r0_83) && r0_92) && r0_119) && r0_146) H_138))))))))) (fun b_154 => ?_) (fun b_154 => ?_) ?_
    ·replace h := h.1 b_154
     have hb_0 := b_154
     try simp only [gv_t hb_0]
     refine opK_calls (cap := []) (fun args w => Try.call52 args w) ?_
     refine Cv_ct (Fi := []) (Fr := [bx g_39 95 (cs_cfg_wants r0_37), bx g_7 52 (cs_api_Edge x1), bx g_2 81 (cs_api_Cfg x0.fCfg)]) I_68 (h) (fun v_79 H_75 F_80 w_76 I_77 l_82 k_78 q_81 => ?_) (fun _ _ _ _ _ q => q.elim)
     obtain ⟨r0_83, rfl, rfl, h⟩ := q_81
     exact ⟨r0_83, H_75, by first | rfl | rw [gv_t b_154], I_77, k_78, l_82, h⟩
    ·exact ⟨false, H_66, by first | rfl | rw [gv_f b_154], I_68, fun _ _ _ => rfl, Hle.refl _, h.2 b_154⟩
    ·clear h
     rintro v_79 w_76 ⟨r0_83, H_75, rfl, I_77, k_78, l_82, h⟩
     refine qP_pu (pu_and _ _) ?_
     refine qP_pu (Pu.g fun hb => by have hb_0 := hb; first | exact pu_fa_95_2 | (simp only [gval_t hb_0, gv_t hb_0, gv_t hb, gva_tt hb_0]; exact pu_fa_95_2) | (simp only [gval_t hb_0, gv_t hb_0, gv_t hb, gva_tf hb_0, gv_n]; exact pu_fa_95_2)) ?_
     refine qP_pu (Pu.g fun hb => by have hb_0 := hb; first | exact pu_fa_52_5 | (simp only [gval_t hb_0, gv_t hb_0, gv_t hb, gva_tt hb_0]; exact pu_fa_52_5) | (simp only [gval_t hb_0, gv_t hb_0, gv_t hb, gva_tf hb_0, gv_n]; exact pu_fa_52_5)) ?_
     refine qP_pu (Pu.g fun hb => by have hb_0 := hb; first | exact pu_fa_52_5 | (simp only [gval_t hb_0, gv_t hb_0, gv_t hb, gva_tt hb_0]; exact pu_fa_52_5) | (simp only [gval_t hb_0, gv_t hb_0, gv_t hb, gva_tf hb_0, gv_n]; exact pu_fa_52_5)) ?_
     refine qL_g (p := (Value.pointer (some ⟨g_39, 2, none⟩))) rfl (Ld.g fun hb => by have hb_0 := hb; first | exact (ld1 Try.isAgg4 (I_77.at1 (o := 2) (vs := [(Value.bool r0_37.fop)]) (nb rfl) rfl)) | (simp only [gv_t hb_0]; exact (ld1 Try.isAgg4 (I_77.at1 (o := 2) (vs := [(Value.bool r0_37.fop)]) (nb rfl) rfl))) | (simp only [gval_t hb_0, gv_t hb_0, gv_t hb, gva_tf hb_0, gv_n]; exact (ld1 Try.isAgg4 (I_77.at1 (o := 2) (vs := [(Value.bool r0_37.fop)]) (nb rfl) rfl)))) ?_
     refine qL_g (p := (Value.pointer (some ⟨g_7, 5, none⟩))) rfl (Ld.g fun hb => by have hb_0 := hb; first | exact (ld1 Try.isAgg3 ((I_77.bring 1).at1 (o := 5) (vs := [(vi x1.fOp)]) (nb rfl) rfl)) | (simp only [gv_t hb_0]; exact (ld1 Try.isAgg3 ((I_77.bring 1).at1 (o := 5) (vs := [(vi x1.fOp)]) (nb rfl) rfl))) | (simp only [gval_t hb_0, gv_t hb_0, gv_t hb, gva_tf hb_0, gv_n]; exact (ld1 Try.isAgg3 ((I_77.bring 1).at1 (o := 5) (vs := [(vi x1.fOp)]) (nb rfl) rfl)))) ?_
     refine qP_pu (Pu.g fun hb => by have hb_0 := hb; first | exact (pu_geq _ _ _ _ _ _) | (simp only [gv_t hb_0]; exact (pu_geq _ _ _ _ _ _)) | (simp only [gval_t hb_0, gv_t hb_0, gv_t hb, gva_tf hb_0, gv_n]; exact (pu_geq _ _ _ _ _ _))) ?_
     try simp only [gval_b, gv_gv]
     refine qP_pu (Pu.e (gsgg_tt _ _ _) (Pu.g fun hb => by obtain ⟨hb_0, hb_1⟩ := gg_tt hb; first | exact pu_fa_52_5 | (simp only [gval_t hb_0, gv_t hb_0, gval_t hb_1, gv_t hb_1, gv_t hb, gv_n]; exact pu_fa_52_5))) ?_
     refine qL_e (gsgg_tt _ _ _) rfl (qL_g (p := (Value.pointer (some ⟨g_7, 5, none⟩))) rfl (Ld.g fun hb => by obtain ⟨hb_0, hb_1⟩ := gg_tt hb; first | exact (ld1 Try.isAgg3 ((I_77.bring 1).at1 (o := 5) (vs := [(vi x1.fOp)]) (nb rfl) rfl)) | (simp only [gv_t hb]; exact (ld1 Try.isAgg3 ((I_77.bring 1).at1 (o := 5) (vs := [(vi x1.fOp)]) (nb rfl) rfl)))) ?_)
     refine qP_pu (Pu.e (gsgg_tt _ _ _) (Pu.g fun hb => by obtain ⟨hb_0, hb_1⟩ := gg_tt hb; first | exact (pu_leq _ _ _ _ _ _) | (simp only [gv_t hb]; exact (pu_leq _ _ _ _ _ _)))) ?_
     refine qP_pu (Pu.g fun hb => by have hb_0 := hb; first | exact (pu_and _ _) | (simp only [gv_t hb_0, gva_tt hb_0]; exact (pu_and _ _)) | (simp only [gval_t hb_0, gv_t hb_0, gv_t hb, gva_tf hb_0, gv_n]; exact (pu_and _ _))) ?_
     refine qL_g (p := (Value.pointer (some ⟨g_7, 5, none⟩))) rfl (Ld.g fun hb => by have hb_0 := hb; first | exact (ld1 Try.isAgg3 ((I_77.bring 1).at1 (o := 5) (vs := [(vi x1.fOp)]) (nb rfl) rfl)) | (simp only [gv_t hb_0]; exact (ld1 Try.isAgg3 ((I_77.bring 1).at1 (o := 5) (vs := [(vi x1.fOp)]) (nb rfl) rfl))) | (simp only [gval_t hb_0, gv_t hb_0, gv_t hb, gva_tf hb_0, gv_n]; exact (ld1 Try.isAgg3 ((I_77.bring 1).at1 (o := 5) (vs := [(vi x1.fOp)]) (nb rfl) rfl)))) ?_
     refine qP_pu (Pu.g fun hb => by have hb_0 := hb; first | exact (pu_eql _ _ _ _ _ _) | (simp only [gv_t hb_0]; exact (pu_eql _ _ _ _ _ _)) | (simp only [gval_t hb_0, gv_t hb_0, gv_t hb, gva_tf hb_0, gv_n]; exact (pu_eql _ _ _ _ _ _))) ?_
     refine opK_g2 (D := fun v_88 w_85 => ∃ (r0_92 : Bool) (H_84 : Hp), v_88 = (gv (r0_65 && r0_83) true (Value.bool r0_92)) ∧ (Inv w0 ps0 H0 H_84 [bx g_39 95 (cs_cfg_wants r0_37), bx g_7 52 (cs_api_Edge x1), bx g_2 81 (cs_api_Cfg x0.fCfg)] w_85) ∧ (∀ i, i < w_76.heap.size → ¬ inF [] i → w_85.heap[i]? = w_76.heap[i]?) ∧ Hle H_75 H_84 ∧ (TG (((r0_65 && r0_83) && r0_92) = true) (C_gnomon_cfg_graph_operand x0 x1.fA H_84) false H_84 (fun (r0_101 : Bool) (H_93 : Hp) =>
 TG (((r0_65 && r0_83) && r0_92) = true) (C_gnomon_cfg_nothing H_93) (Tapi_Operand.mk 0 0) H_93 (fun (r0_110 : Tapi_Operand) (H_102 : Hp) =>
 TG (((r0_65 && r0_83) && r0_92) = true) (C_gnomon_cfg_has r0_37.fa r0_101 (decide (x1.fA.fVar = r0_110.fVar ∧ x1.fA.fNum = r0_110.fNum)) H_102) false H_102 (fun (r0_119 : Bool) (H_111 : Hp) =>
 TG ((((r0_65 && r0_83) && r0_92) && r0_119) = true) (C_gnomon_cfg_graph_operand x0 x1.fB H_111) false H_111 (fun (r0_128 : Bool) (H_120 : Hp) =>
 TG ((((r0_65 && r0_83) && r0_92) && r0_119) = true) (C_gnomon_cfg_nothing H_120) (Tapi_Operand.mk 0 0) H_120 (fun (r0_137 : Tapi_Operand) (H_129 : Hp) =>
 TG ((((r0_65 && r0_83) && r0_92) && r0_119) = true) (C_gnomon_cfg_has r0_37.fb r0_128 (decide (x1.fB.fVar = r0_137.fVar ∧ x1.fB.fNum = r0_137.fNum)) H_129) false H_129 (fun (r0_146 : Bool) (H_138 : Hp) =>
 K ((((r0_65 && r0_83) && r0_92) && r0_119) && r0_146) H_138)))))))) (fun b_153 => ?_) (fun b_153 => ?_) ?_
     ·replace h := h.1 b_153
      have hb_0 := b_153
      try simp only [gv_t hb_0]
      refine opK_calls (cap := []) (fun args w => Try.call52 args w) ?_
      refine Cv_ct (Fi := []) (Fr := [bx g_39 95 (cs_cfg_wants r0_37), bx g_7 52 (cs_api_Edge x1), bx g_2 81 (cs_api_Cfg x0.fCfg)]) I_77 (h) (fun v_88 H_84 F_89 w_85 I_86 l_91 k_87 q_90 => ?_) (fun _ _ _ _ _ q => q.elim)
      obtain ⟨r0_92, rfl, rfl, h⟩ := q_90
      exact ⟨r0_92, H_84, by first | rfl | rw [gv_t b_153], I_86, k_87, l_91, h⟩
     ·exact ⟨false, H_75, by first | rfl | rw [gv_f b_153], I_77, fun _ _ _ => rfl, Hle.refl _, h.2 b_153⟩
     ·clear h
      rintro v_88 w_85 ⟨r0_92, H_84, rfl, I_86, k_87, l_91, h⟩
      refine qP_pu (pu_and _ _) ?_
      refine qP_pu (Pu.g fun hb => by have hb_0 := hb; first | exact pu_fa_95_3 | (simp only [gval_t hb_0, gv_t hb_0, gv_t hb, gva_tt hb_0]; exact pu_fa_95_3) | (simp only [gval_t hb_0, gv_t hb_0, gv_t hb, gva_tf hb_0, gv_n]; exact pu_fa_95_3)) ?_
      refine qP_pu (Pu.g fun hb => by have hb_0 := hb; first | exact pu_fa_52_6 | (simp only [gval_t hb_0, gv_t hb_0, gv_t hb, gva_tt hb_0]; exact pu_fa_52_6) | (simp only [gval_t hb_0, gv_t hb_0, gv_t hb, gva_tf hb_0, gv_n]; exact pu_fa_52_6)) ?_
      refine qP_pu (Pu.g fun hb => by have hb_0 := hb; first | exact pu_fa_52_6 | (simp only [gval_t hb_0, gv_t hb_0, gv_t hb, gva_tt hb_0]; exact pu_fa_52_6) | (simp only [gval_t hb_0, gv_t hb_0, gv_t hb, gva_tf hb_0, gv_n]; exact pu_fa_52_6)) ?_
      refine qL_g (p := (Value.pointer (some ⟨g_39, 3, none⟩))) rfl (Ld.g fun hb => by have hb_0 := hb; first | exact (ld1 Try.isAgg4 (I_86.at1 (o := 3) (vs := [(Value.bool r0_37.fa)]) (nb rfl) rfl)) | (simp only [gv_t hb_0]; exact (ld1 Try.isAgg4 (I_86.at1 (o := 3) (vs := [(Value.bool r0_37.fa)]) (nb rfl) rfl))) | (simp only [gval_t hb_0, gv_t hb_0, gv_t hb, gva_tf hb_0, gv_n]; exact (ld1 Try.isAgg4 (I_86.at1 (o := 3) (vs := [(Value.bool r0_37.fa)]) (nb rfl) rfl)))) ?_
      refine qL_ld (Ld.g fun hb => by have hb_0 := hb; first | exact (ldA Try.isAgg81 Try.sizeOf81 rfl ((I_86.bring 2).at1 (o := 0) (vs := (cs_api_Cfg x0.fCfg)) (nb rfl) rfl)) | (simp only [gval_t hb_0, gv_t hb_0, gv_t hb, gva_tt hb_0]; exact (ldA Try.isAgg81 Try.sizeOf81 rfl ((I_86.bring 2).at1 (o := 0) (vs := (cs_api_Cfg x0.fCfg)) (nb rfl) rfl))) | (simp only [gval_t hb_0, gv_t hb_0, gv_t hb, gva_tf hb_0, gv_n]; exact (ldA Try.isAgg81 Try.sizeOf81 rfl ((I_86.bring 2).at1 (o := 0) (vs := (cs_api_Cfg x0.fCfg)) (nb rfl) rfl)))) ?_
      refine qL_g (p := (Value.pointer (some ⟨g_7, 6, none⟩))) rfl (Ld.g fun hb => by have hb_0 := hb; first | exact (ldA Try.isAgg50 Try.sizeOf50 rfl ((I_86.bring 1).at1 (o := 6) (vs := (cs_api_Operand x1.fA)) (nb rfl) rfl)) | (simp only [gv_t hb_0]; exact (ldA Try.isAgg50 Try.sizeOf50 rfl ((I_86.bring 1).at1 (o := 6) (vs := (cs_api_Operand x1.fA)) (nb rfl) rfl))) | (simp only [gval_t hb_0, gv_t hb_0, gv_t hb, gva_tf hb_0, gv_n]; exact (ldA Try.isAgg50 Try.sizeOf50 rfl ((I_86.bring 1).at1 (o := 6) (vs := (cs_api_Operand x1.fA)) (nb rfl) rfl)))) ?_
      refine qL_g (p := (Value.pointer (some ⟨g_7, 6, none⟩))) rfl (Ld.g fun hb => by have hb_0 := hb; first | exact (ldA Try.isAgg50 Try.sizeOf50 rfl ((I_86.bring 1).at1 (o := 6) (vs := (cs_api_Operand x1.fA)) (nb rfl) rfl)) | (simp only [gv_t hb_0]; exact (ldA Try.isAgg50 Try.sizeOf50 rfl ((I_86.bring 1).at1 (o := 6) (vs := (cs_api_Operand x1.fA)) (nb rfl) rfl))) | (simp only [gval_t hb_0, gv_t hb_0, gv_t hb, gva_tf hb_0, gv_n]; exact (ldA Try.isAgg50 Try.sizeOf50 rfl ((I_86.bring 1).at1 (o := 6) (vs := (cs_api_Operand x1.fA)) (nb rfl) rfl)))) ?_
      refine opK_g2 (D := fun v_97 w_94 => ∃ (r0_101 : Bool) (H_93 : Hp), v_97 = (gv ((r0_65 && r0_83) && r0_92) true (Value.bool r0_101)) ∧ (Inv w0 ps0 H0 H_93 [bx g_39 95 (cs_cfg_wants r0_37), bx g_7 52 (cs_api_Edge x1), bx g_2 81 (cs_api_Cfg x0.fCfg)] w_94) ∧ (∀ i, i < w_85.heap.size → ¬ inF [] i → w_94.heap[i]? = w_85.heap[i]?) ∧ Hle H_84 H_93 ∧ (TG (((r0_65 && r0_83) && r0_92) = true) (C_gnomon_cfg_nothing H_93) (Tapi_Operand.mk 0 0) H_93 (fun (r0_110 : Tapi_Operand) (H_102 : Hp) =>
 TG (((r0_65 && r0_83) && r0_92) = true) (C_gnomon_cfg_has r0_37.fa r0_101 (decide (x1.fA.fVar = r0_110.fVar ∧ x1.fA.fNum = r0_110.fNum)) H_102) false H_102 (fun (r0_119 : Bool) (H_111 : Hp) =>
 TG ((((r0_65 && r0_83) && r0_92) && r0_119) = true) (C_gnomon_cfg_graph_operand x0 x1.fB H_111) false H_111 (fun (r0_128 : Bool) (H_120 : Hp) =>
 TG ((((r0_65 && r0_83) && r0_92) && r0_119) = true) (C_gnomon_cfg_nothing H_120) (Tapi_Operand.mk 0 0) H_120 (fun (r0_137 : Tapi_Operand) (H_129 : Hp) =>
 TG ((((r0_65 && r0_83) && r0_92) && r0_119) = true) (C_gnomon_cfg_has r0_37.fb r0_128 (decide (x1.fB.fVar = r0_137.fVar ∧ x1.fB.fNum = r0_137.fNum)) H_129) false H_129 (fun (r0_146 : Bool) (H_138 : Hp) =>
 K ((((r0_65 && r0_83) && r0_92) && r0_119) && r0_146) H_138))))))) (fun b_152 => ?_) (fun b_152 => ?_) ?_
      ·replace h := h.1 b_152
       have hb_0 := b_152
       try simp only [gv_t hb_0]
       refine opK_calls (cap := []) (fun args w => Try.call55 args w) ?_
       refine Cv_ct (Fi := []) (Fr := [bx g_39 95 (cs_cfg_wants r0_37), bx g_7 52 (cs_api_Edge x1), bx g_2 81 (cs_api_Cfg x0.fCfg)]) I_86 (h) (fun v_97 H_93 F_98 w_94 I_95 l_100 k_96 q_99 => ?_) (fun _ _ _ _ _ q => q.elim)
       obtain ⟨r0_101, rfl, rfl, h⟩ := q_99
       exact ⟨r0_101, H_93, by first | rfl | rw [gv_t b_152], I_95, k_96, l_100, h⟩
      ·exact ⟨false, H_84, by first | rfl | rw [gv_f b_152], I_86, fun _ _ _ => rfl, Hle.refl _, h.2 b_152⟩
      ·clear h
       rintro v_97 w_94 ⟨r0_101, H_93, rfl, I_95, k_96, l_100, h⟩
       refine ⟨(same_g (p := (Value.pointer (some ⟨g_7, 6, none⟩))) rfl (k_96 _ (I_86.bring 1).lt1 (Inv.not_in (Fi := []) (I_86.bring 1)))), (same_g (p := (Value.pointer (some ⟨g_39, 3, none⟩))) rfl (k_96 _ I_86.lt1 (Inv.not_in (Fi := []) I_86))), ?_⟩
       refine opK_g2 (D := fun v_106 w_103 => ∃ (r0_110 : Tapi_Operand) (H_102 : Hp), v_106 = (gv ((r0_65 && r0_83) && r0_92) true (Value.agg (cs_api_Operand r0_110).toArray)) ∧ (Inv w0 ps0 H0 H_102 [bx g_39 95 (cs_cfg_wants r0_37), bx g_7 52 (cs_api_Edge x1), bx g_2 81 (cs_api_Cfg x0.fCfg)] w_103) ∧ (∀ i, i < w_94.heap.size → ¬ inF [] i → w_103.heap[i]? = w_94.heap[i]?) ∧ Hle H_93 H_102 ∧ (TG (((r0_65 && r0_83) && r0_92) = true) (C_gnomon_cfg_has r0_37.fa r0_101 (decide (x1.fA.fVar = r0_110.fVar ∧ x1.fA.fNum = r0_110.fNum)) H_102) false H_102 (fun (r0_119 : Bool) (H_111 : Hp) =>
 TG ((((r0_65 && r0_83) && r0_92) && r0_119) = true) (C_gnomon_cfg_graph_operand x0 x1.fB H_111) false H_111 (fun (r0_128 : Bool) (H_120 : Hp) =>
 TG ((((r0_65 && r0_83) && r0_92) && r0_119) = true) (C_gnomon_cfg_nothing H_120) (Tapi_Operand.mk 0 0) H_120 (fun (r0_137 : Tapi_Operand) (H_129 : Hp) =>
 TG ((((r0_65 && r0_83) && r0_92) && r0_119) = true) (C_gnomon_cfg_has r0_37.fb r0_128 (decide (x1.fB.fVar = r0_137.fVar ∧ x1.fB.fNum = r0_137.fNum)) H_129) false H_129 (fun (r0_146 : Bool) (H_138 : Hp) =>
 K ((((r0_65 && r0_83) && r0_92) && r0_119) && r0_146) H_138)))))) (fun b_151 => ?_) (fun b_151 => ?_) ?_
       ·replace h := h.1 b_151
        have hb_0 := b_151
        try simp only [gv_t hb_0]
        refine opK_calls (cap := []) (fun args w => Try.call56 args w) ?_
        refine Cv_ct (Fi := []) (Fr := [bx g_39 95 (cs_cfg_wants r0_37), bx g_7 52 (cs_api_Edge x1), bx g_2 81 (cs_api_Cfg x0.fCfg)]) I_95 (h) (fun v_106 H_102 F_107 w_103 I_104 l_109 k_105 q_108 => ?_) (fun _ _ _ _ _ q => q.elim)
        obtain ⟨r0_110, rfl, rfl, h⟩ := q_108
        exact ⟨r0_110, H_102, by first | rfl | rw [gv_t b_151], I_104, k_105, l_109, h⟩
       ·exact ⟨(Tapi_Operand.mk 0 0), H_93, by first | rfl | rw [gv_f b_151], I_95, fun _ _ _ => rfl, Hle.refl _, h.2 b_151⟩
       ·clear h
        rintro v_106 w_103 ⟨r0_110, H_102, rfl, I_104, k_105, l_109, h⟩
        refine ⟨(same_g (p := (Value.pointer (some ⟨g_7, 6, none⟩))) rfl (k_105 _ (I_95.bring 1).lt1 (Inv.not_in (Fi := []) (I_95.bring 1)))), (same_g (p := (Value.pointer (some ⟨g_39, 3, none⟩))) rfl (k_105 _ I_95.lt1 (Inv.not_in (Fi := []) I_95))), ?_⟩
        refine qP_pu (Pu.g fun hb => by have hb_0 := hb; first | exact (pu_eq_50 _ _ _ _ _ _) | (simp only [gv_t hb_0]; exact (pu_eq_50 _ _ _ _ _ _)) | (simp only [gval_t hb_0, gv_t hb_0, gv_t hb, gva_tf hb_0, gv_n]; exact (pu_eq_50 _ _ _ _ _ _))) ?_
        refine opK_g2 (D := fun v_115 w_112 => ∃ (r0_119 : Bool) (H_111 : Hp), v_115 = (gv ((r0_65 && r0_83) && r0_92) true (Value.bool r0_119)) ∧ (Inv w0 ps0 H0 H_111 [bx g_39 95 (cs_cfg_wants r0_37), bx g_7 52 (cs_api_Edge x1), bx g_2 81 (cs_api_Cfg x0.fCfg)] w_112) ∧ (∀ i, i < w_103.heap.size → ¬ inF [] i → w_112.heap[i]? = w_103.heap[i]?) ∧ Hle H_102 H_111 ∧ (TG ((((r0_65 && r0_83) && r0_92) && r0_119) = true) (C_gnomon_cfg_graph_operand x0 x1.fB H_111) false H_111 (fun (r0_128 : Bool) (H_120 : Hp) =>
 TG ((((r0_65 && r0_83) && r0_92) && r0_119) = true) (C_gnomon_cfg_nothing H_120) (Tapi_Operand.mk 0 0) H_120 (fun (r0_137 : Tapi_Operand) (H_129 : Hp) =>
 TG ((((r0_65 && r0_83) && r0_92) && r0_119) = true) (C_gnomon_cfg_has r0_37.fb r0_128 (decide (x1.fB.fVar = r0_137.fVar ∧ x1.fB.fNum = r0_137.fNum)) H_129) false H_129 (fun (r0_146 : Bool) (H_138 : Hp) =>
 K ((((r0_65 && r0_83) && r0_92) && r0_119) && r0_146) H_138))))) (fun b_150 => ?_) (fun b_150 => ?_) ?_
        ·replace h := h.1 b_150
         have hb_0 := b_150
         try simp only [gv_t hb_0]
         refine opK_calls (cap := []) (fun args w => Try.call52 args w) ?_
         refine Cv_ct (Fi := []) (Fr := [bx g_39 95 (cs_cfg_wants r0_37), bx g_7 52 (cs_api_Edge x1), bx g_2 81 (cs_api_Cfg x0.fCfg)]) I_104 (h) (fun v_115 H_111 F_116 w_112 I_113 l_118 k_114 q_117 => ?_) (fun _ _ _ _ _ q => q.elim)
         obtain ⟨r0_119, rfl, rfl, h⟩ := q_117
         exact ⟨r0_119, H_111, by first | rfl | rw [gv_t b_150], I_113, k_114, l_118, h⟩
        ·exact ⟨false, H_102, by first | rfl | rw [gv_f b_150], I_104, fun _ _ _ => rfl, Hle.refl _, h.2 b_150⟩
        ·clear h
         rintro v_115 w_112 ⟨r0_119, H_111, rfl, I_113, k_114, l_118, h⟩
         refine qP_pu (pu_and _ _) ?_
         refine qP_pu (Pu.g fun hb => by have hb_0 := hb; first | exact pu_fa_95_4 | (simp only [gval_t hb_0, gv_t hb_0, gv_t hb, gva_tt hb_0]; exact pu_fa_95_4) | (simp only [gval_t hb_0, gv_t hb_0, gv_t hb, gva_tf hb_0, gv_n]; exact pu_fa_95_4)) ?_
         refine qP_pu (Pu.g fun hb => by have hb_0 := hb; first | exact pu_fa_52_7 | (simp only [gval_t hb_0, gv_t hb_0, gv_t hb, gva_tt hb_0]; exact pu_fa_52_7) | (simp only [gval_t hb_0, gv_t hb_0, gv_t hb, gva_tf hb_0, gv_n]; exact pu_fa_52_7)) ?_
         refine qP_pu (Pu.g fun hb => by have hb_0 := hb; first | exact pu_fa_52_7 | (simp only [gval_t hb_0, gv_t hb_0, gv_t hb, gva_tt hb_0]; exact pu_fa_52_7) | (simp only [gval_t hb_0, gv_t hb_0, gv_t hb, gva_tf hb_0, gv_n]; exact pu_fa_52_7)) ?_
         refine qL_g (p := (Value.pointer (some ⟨g_39, 4, none⟩))) rfl (Ld.g fun hb => by have hb_0 := hb; first | exact (ld1 Try.isAgg4 (I_113.at1 (o := 4) (vs := [(Value.bool r0_37.fb)]) (nb rfl) rfl)) | (simp only [gv_t hb_0]; exact (ld1 Try.isAgg4 (I_113.at1 (o := 4) (vs := [(Value.bool r0_37.fb)]) (nb rfl) rfl))) | (simp only [gval_t hb_0, gv_t hb_0, gv_t hb, gva_tf hb_0, gv_n]; exact (ld1 Try.isAgg4 (I_113.at1 (o := 4) (vs := [(Value.bool r0_37.fb)]) (nb rfl) rfl)))) ?_
         refine qL_ld (Ld.g fun hb => by have hb_0 := hb; first | exact (ldA Try.isAgg81 Try.sizeOf81 rfl ((I_113.bring 2).at1 (o := 0) (vs := (cs_api_Cfg x0.fCfg)) (nb rfl) rfl)) | (simp only [gval_t hb_0, gv_t hb_0, gv_t hb, gva_tt hb_0]; exact (ldA Try.isAgg81 Try.sizeOf81 rfl ((I_113.bring 2).at1 (o := 0) (vs := (cs_api_Cfg x0.fCfg)) (nb rfl) rfl))) | (simp only [gval_t hb_0, gv_t hb_0, gv_t hb, gva_tf hb_0, gv_n]; exact (ldA Try.isAgg81 Try.sizeOf81 rfl ((I_113.bring 2).at1 (o := 0) (vs := (cs_api_Cfg x0.fCfg)) (nb rfl) rfl)))) ?_
         refine qL_g (p := (Value.pointer (some ⟨g_7, 8, none⟩))) rfl (Ld.g fun hb => by have hb_0 := hb; first | exact (ldA Try.isAgg50 Try.sizeOf50 rfl ((I_113.bring 1).at1 (o := 8) (vs := (cs_api_Operand x1.fB)) (nb rfl) rfl)) | (simp only [gv_t hb_0]; exact (ldA Try.isAgg50 Try.sizeOf50 rfl ((I_113.bring 1).at1 (o := 8) (vs := (cs_api_Operand x1.fB)) (nb rfl) rfl))) | (simp only [gval_t hb_0, gv_t hb_0, gv_t hb, gva_tf hb_0, gv_n]; exact (ldA Try.isAgg50 Try.sizeOf50 rfl ((I_113.bring 1).at1 (o := 8) (vs := (cs_api_Operand x1.fB)) (nb rfl) rfl)))) ?_
         refine qL_g (p := (Value.pointer (some ⟨g_7, 8, none⟩))) rfl (Ld.g fun hb => by have hb_0 := hb; first | exact (ldA Try.isAgg50 Try.sizeOf50 rfl ((I_113.bring 1).at1 (o := 8) (vs := (cs_api_Operand x1.fB)) (nb rfl) rfl)) | (simp only [gv_t hb_0]; exact (ldA Try.isAgg50 Try.sizeOf50 rfl ((I_113.bring 1).at1 (o := 8) (vs := (cs_api_Operand x1.fB)) (nb rfl) rfl))) | (simp only [gval_t hb_0, gv_t hb_0, gv_t hb, gva_tf hb_0, gv_n]; exact (ldA Try.isAgg50 Try.sizeOf50 rfl ((I_113.bring 1).at1 (o := 8) (vs := (cs_api_Operand x1.fB)) (nb rfl) rfl)))) ?_
         refine opK_g2 (D := fun v_124 w_121 => ∃ (r0_128 : Bool) (H_120 : Hp), v_124 = (gv (((r0_65 && r0_83) && r0_92) && r0_119) true (Value.bool r0_128)) ∧ (Inv w0 ps0 H0 H_120 [bx g_39 95 (cs_cfg_wants r0_37), bx g_7 52 (cs_api_Edge x1), bx g_2 81 (cs_api_Cfg x0.fCfg)] w_121) ∧ (∀ i, i < w_112.heap.size → ¬ inF [] i → w_121.heap[i]? = w_112.heap[i]?) ∧ Hle H_111 H_120 ∧ (TG ((((r0_65 && r0_83) && r0_92) && r0_119) = true) (C_gnomon_cfg_nothing H_120) (Tapi_Operand.mk 0 0) H_120 (fun (r0_137 : Tapi_Operand) (H_129 : Hp) =>
 TG ((((r0_65 && r0_83) && r0_92) && r0_119) = true) (C_gnomon_cfg_has r0_37.fb r0_128 (decide (x1.fB.fVar = r0_137.fVar ∧ x1.fB.fNum = r0_137.fNum)) H_129) false H_129 (fun (r0_146 : Bool) (H_138 : Hp) =>
 K ((((r0_65 && r0_83) && r0_92) && r0_119) && r0_146) H_138)))) (fun b_149 => ?_) (fun b_149 => ?_) ?_
         ·replace h := h.1 b_149
          have hb_0 := b_149
          try simp only [gv_t hb_0]
          refine opK_calls (cap := []) (fun args w => Try.call55 args w) ?_
          refine Cv_ct (Fi := []) (Fr := [bx g_39 95 (cs_cfg_wants r0_37), bx g_7 52 (cs_api_Edge x1), bx g_2 81 (cs_api_Cfg x0.fCfg)]) I_113 (h) (fun v_124 H_120 F_125 w_121 I_122 l_127 k_123 q_126 => ?_) (fun _ _ _ _ _ q => q.elim)
          obtain ⟨r0_128, rfl, rfl, h⟩ := q_126
          exact ⟨r0_128, H_120, by first | rfl | rw [gv_t b_149], I_122, k_123, l_127, h⟩
         ·exact ⟨false, H_111, by first | rfl | rw [gv_f b_149], I_113, fun _ _ _ => rfl, Hle.refl _, h.2 b_149⟩
         ·clear h
          rintro v_124 w_121 ⟨r0_128, H_120, rfl, I_122, k_123, l_127, h⟩
          refine ⟨(same_g (p := (Value.pointer (some ⟨g_7, 8, none⟩))) rfl (k_123 _ (I_113.bring 1).lt1 (Inv.not_in (Fi := []) (I_113.bring 1)))), (same_g (p := (Value.pointer (some ⟨g_39, 4, none⟩))) rfl (k_123 _ I_113.lt1 (Inv.not_in (Fi := []) I_113))), ?_⟩
          refine opK_g2 (D := fun v_133 w_130 => ∃ (r0_137 : Tapi_Operand) (H_129 : Hp), v_133 = (gv (((r0_65 && r0_83) && r0_92) && r0_119) true (Value.agg (cs_api_Operand r0_137).toArray)) ∧ (Inv w0 ps0 H0 H_129 [bx g_39 95 (cs_cfg_wants r0_37), bx g_7 52 (cs_api_Edge x1), bx g_2 81 (cs_api_Cfg x0.fCfg)] w_130) ∧ (∀ i, i < w_121.heap.size → ¬ inF [] i → w_130.heap[i]? = w_121.heap[i]?) ∧ Hle H_120 H_129 ∧ (TG ((((r0_65 && r0_83) && r0_92) && r0_119) = true) (C_gnomon_cfg_has r0_37.fb r0_128 (decide (x1.fB.fVar = r0_137.fVar ∧ x1.fB.fNum = r0_137.fNum)) H_129) false H_129 (fun (r0_146 : Bool) (H_138 : Hp) =>
 K ((((r0_65 && r0_83) && r0_92) && r0_119) && r0_146) H_138))) (fun b_148 => ?_) (fun b_148 => ?_) ?_
          ·replace h := h.1 b_148
           have hb_0 := b_148
           try simp only [gv_t hb_0]
           refine opK_calls (cap := []) (fun args w => Try.call56 args w) ?_
           refine Cv_ct (Fi := []) (Fr := [bx g_39 95 (cs_cfg_wants r0_37), bx g_7 52 (cs_api_Edge x1), bx g_2 81 (cs_api_Cfg x0.fCfg)]) I_122 (h) (fun v_133 H_129 F_134 w_130 I_131 l_136 k_132 q_135 => ?_) (fun _ _ _ _ _ q => q.elim)
           obtain ⟨r0_137, rfl, rfl, h⟩ := q_135
           exact ⟨r0_137, H_129, by first | rfl | rw [gv_t b_148], I_131, k_132, l_136, h⟩
          ·exact ⟨(Tapi_Operand.mk 0 0), H_120, by first | rfl | rw [gv_f b_148], I_122, fun _ _ _ => rfl, Hle.refl _, h.2 b_148⟩
          ·clear h
           rintro v_133 w_130 ⟨r0_137, H_129, rfl, I_131, k_132, l_136, h⟩
           refine ⟨(same_g (p := (Value.pointer (some ⟨g_7, 8, none⟩))) rfl (k_132 _ (I_122.bring 1).lt1 (Inv.not_in (Fi := []) (I_122.bring 1)))), (same_g (p := (Value.pointer (some ⟨g_39, 4, none⟩))) rfl (k_132 _ I_122.lt1 (Inv.not_in (Fi := []) I_122))), ?_⟩
           refine qP_pu (Pu.g fun hb => by have hb_0 := hb; first | exact (pu_eq_50 _ _ _ _ _ _) | (simp only [gv_t hb_0]; exact (pu_eq_50 _ _ _ _ _ _)) | (simp only [gval_t hb_0, gv_t hb_0, gv_t hb, gva_tf hb_0, gv_n]; exact (pu_eq_50 _ _ _ _ _ _))) ?_
           refine opK_g2 (D := fun v_142 w_139 => ∃ (r0_146 : Bool) (H_138 : Hp), v_142 = (gv (((r0_65 && r0_83) && r0_92) && r0_119) true (Value.bool r0_146)) ∧ (Inv w0 ps0 H0 H_138 [bx g_39 95 (cs_cfg_wants r0_37), bx g_7 52 (cs_api_Edge x1), bx g_2 81 (cs_api_Cfg x0.fCfg)] w_139) ∧ (∀ i, i < w_130.heap.size → ¬ inF [] i → w_139.heap[i]? = w_130.heap[i]?) ∧ Hle H_129 H_138 ∧ (K ((((r0_65 && r0_83) && r0_92) && r0_119) && r0_146) H_138)) (fun b_147 => ?_) (fun b_147 => ?_) ?_
           ·replace h := h.1 b_147
            have hb_0 := b_147
            try simp only [gv_t hb_0]
            refine opK_calls (cap := []) (fun args w => Try.call52 args w) ?_
            refine Cv_ct (Fi := []) (Fr := [bx g_39 95 (cs_cfg_wants r0_37), bx g_7 52 (cs_api_Edge x1), bx g_2 81 (cs_api_Cfg x0.fCfg)]) I_131 (h) (fun v_142 H_138 F_143 w_139 I_140 l_145 k_141 q_144 => ?_) (fun _ _ _ _ _ q => q.elim)
            obtain ⟨r0_146, rfl, rfl, h⟩ := q_144
            exact ⟨r0_146, H_138, by first | rfl | rw [gv_t b_147], I_140, k_141, l_145, h⟩
           ·exact ⟨false, H_129, by first | rfl | rw [gv_f b_147], I_131, fun _ _ _ => rfl, Hle.refl _, h.2 b_147⟩
           ·clear h
            rintro v_142 w_139 ⟨r0_146, H_138, rfl, I_140, k_141, l_145, h⟩
            refine qP_pu (pu_and _ _) ?_
            exact hR ((((r0_65 && r0_83) && r0_92) && r0_119) && r0_146) H_138 _ I_140.drop.drop.drop h
theorem L_gnomon_cfg_graph_right (x0 : Tcfg_graph) (x1 : Tapi_Edge) {H : Hp} {K : Bool → Hp → Prop} (h : T_gnomon_cfg_graph_right x0 x1 H K) : C_gnomon_cfg_graph_right x0 x1 H K := by
 intro w I
 refine F28_ok ?_
 refine LF_gnomon_cfg_graph_right x0 x1 I (fun r0 H' w' I' hk => ⟨H', _, I', r0, rfl, rfl, hk⟩) h


/- function 48: (*gnomon/gnomonref10.state).value -/
def T_gnomon_gnomonref10_state_value (_x0 : Tgnomonref10_state) (x0_0 : (List Int)) (_x0_1 : (List (List Int))) (x1 : Tapi_Operand) (H : Hp) (K : Int → Hp → Prop) : Prop :=
 (x1.fVar < 0 →
 K x1.fNum H) ∧
 (¬ (x1.fVar < 0) →
 (0 : Int) ≤ x1.fVar ∧ ∃ x_8 : Int, (x0_0)[(x1.fVar : Int).toNat]? = some x_8 ∧
 K x_8 H)
theorem LF_gnomon_gnomonref10_state_value (x0 : Tgnomonref10_state) (x0_0 : (List Int)) (x0_1 : (List (List Int))) (x1 : Tapi_Operand) (g0 : Nat) (sx0_0 : Sl) (Fx0_0 : Frag) (sx0_1 : Sl) (Fx0_1 : Frag) (hx0_0 : RowL 2 1 cs_int64 sx0_0 x0_0 Fx0_0) (_hx0_1 : RowsL 27 2 1 cs_int64 sx0_1 x0_1 Fx0_1) {w0 w : World} {ps0 : Nat → Prop} {H0 H : Hp} {K : Int → Hp → Prop} {R : Value → World → Prop} {E : Pan} (I : Inv w0 ps0 H0 H [bx g0 71 [(vs sx0_0), (vs sx0_1)], Fx0_0, Fx0_1] w) (hR : ∀ (r0 : Int) (H' : Hp) (w' : World) (_ : Inv w0 ps0 H0 H' [bx g0 71 [(vs sx0_0), (vs sx0_1)], Fx0_0, Fx0_1] w') (_ : K r0 H'), R (vi r0) w') (h : T_gnomon_gnomonref10_state_value x0 x0_0 x0_1 x1 H K) : F48 (Value.pointer (some ⟨g0, 0, none⟩)) (Value.agg (cs_api_Operand x1).toArray) w R E := by
 unfold T_gnomon_gnomonref10_state_value at h
 unfold F48
 refine s_box I (cs := (cs_api_Operand x1)) rfl fun g_2 w_3 I_4 k_5 => ?_
 refine opK_pu pu_fa_50_0 ?_
 refine opK_ld (ld1 Try.isAgg3 (I_4.at1 (o := 0) (vs := [(vi x1.fVar)]) (nb rfl) rfl)) ?_
 refine opK_pu (pu_lss _ _ _ _ _ _) ?_
 refine xcond_p (fun c_15 => ?_) (fun c_15 => ?_)
 ·replace h := h.1 c_15
  refine opK_pu pu_fa_50_1 ?_
  refine opK_ld (ld1 Try.isAgg2 (I_4.at1 (o := 1) (vs := [(vi x1.fNum)]) (nb rfl) rfl)) ?_
  exact hR x1.fNum H _ (((I_4.drop.bring 2).bring 2).bring 2) h
 ·replace h := h.2 c_15
  refine s_dX I_4 fun w_6 I_7 => ?_
  refine qP_pu (pu_nilp _) ?_
  refine qP_pu pu_fa_71_0 ?_
  refine qP_pu pu_fa_50_0 ?_
  refine qL_ld (ld1 Try.isAgg27 ((I_7.bring 1).at1 (o := 0) (vs := [(vs sx0_0)]) (nb rfl) rfl)) ?_
  refine qL_ld (ld1 Try.isAgg3 (I_7.at1 (o := 0) (vs := [(vi x1.fVar)]) (nb rfl) rfl)) ?_
  obtain ⟨h_10, x_8, h_11, h⟩ := h
  obtain ⟨g_9, a_13, h_12, h_14⟩ := hx0_0.addr h_11
  refine qP_pu (pu_ix_27 h_12 _ _ _ _ h_10 (hx0_0.lt h_10 h_11)) ?_
  refine qL_ld (ld1 (v := (vi x_8)) Try.isAgg2 (hx0_0.atW (I_7.bring 2) h_12 h_11)) ?_
  exact hR x_8 H _ (((I_7.drop.bring 2).bring 2).bring 2) h
theorem L_gnomon_gnomonref10_state_value (x0 : Tgnomonref10_state) (x0_0 : (List Int)) (x0_1 : (List (List Int))) (x1 : Tapi_Operand) {H : Hp} {K : Int → Hp → Prop} (h : T_gnomon_gnomonref10_state_value x0 x0_0 x0_1 x1 H K) : C_gnomon_gnomonref10_state_value x0 x0_0 x0_1 x1 H K := by
 intro g0 sx0_0 Fx0_0 sx0_1 Fx0_1 hx0_0 hx0_1 w I
 refine F48_ok ?_
 refine LF_gnomon_gnomonref10_state_value x0 x0_0 x0_1 x1 g0 sx0_0 Fx0_0 sx0_1 Fx0_1 hx0_0 hx0_1 I (fun r0 H' w' I' hk => ⟨H', _, I', r0, rfl, rfl, hk⟩) h


end Go.Proofs.Ytgapepdglhcglaa
