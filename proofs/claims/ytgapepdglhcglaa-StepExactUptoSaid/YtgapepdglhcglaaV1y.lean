/-
  Typed formulas of the program's functions that few laws need; printed by lift.py off the code.
-/
import Derived.Test.YtgapepdglhcglaaV1
import Derived.Test.YtgapepdglhcglaaG1y
namespace Go.Proofs.Ytgapepdglhcglaa
open Go.RowKit
set_option maxRecDepth 100000
set_option maxHeartbeats 2000000

/- function 6: gnomon/gnomonlaw10.few -/
def T_gnomon_gnomonlaw10_few (x0 : Sl) (x1 : Int) (H : Hp) (K : Bool → Hp → Prop) : Prop :=
 K ((decide ((x0.n : Int) ≤ 3000)) && ((decide (x1 ≤ 3000)) || (decide (65536 < x1)))) H
theorem LF_gnomon_gnomonlaw10_few (x0 : Sl) (x1 : Int) {w0 w : World} {ps0 : Nat → Prop} {H0 H : Hp} {K : Bool → Hp → Prop} {R : Value → World → Prop} {E : Pan} (I : Inv w0 ps0 H0 H [] w) (hR : ∀ (r0 : Bool) (H' : Hp) (w' : World) (_ : Inv w0 ps0 H0 H' [] w') (_ : K r0 H'), R (Value.bool r0) w') (h : T_gnomon_gnomonlaw10_few x0 x1 H K) : F6 (vs x0) (vi x1) w R E := by
 unfold T_gnomon_gnomonlaw10_few at h
 unfold F6
 refine opK_pu (pu_len_27 _ _ _) ?_
 refine opK_pu (pu_leq _ _ _ _ _ _) ?_
 try simp only [gval_b]
 refine opK_pu (Pu.g fun hb => by have hb_0 := hb; first | exact (pu_leq _ _ _ _ _ _) | (simp only [gv_t hb_0]; exact (pu_leq _ _ _ _ _ _)) | (simp only [gval_t hb_0, gv_t hb_0, gv_t hb, gva_tf hb_0, gv_n]; exact (pu_leq _ _ _ _ _ _))) ?_
 try simp only [gv_gv, gvl_tf]
 try simp only [gval_b, gv_gv, gvl_tt, gvl_tf, gvl_ft, gvl_ff, gvg_tt, gvg_tf, gvg_ft, gvg_ff]
 refine opK_pu (Pu.e (gsgg_tf _ _ _) (Pu.g fun hb => by obtain ⟨hb_0, hb_1⟩ := gg_tf hb; first | exact (pu_gtr _ _ _ _ _ _) | (simp only [gv_t hb]; exact (pu_gtr _ _ _ _ _ _)))) ?_
 refine opK_pu (Pu.g fun hb => by have hb_0 := hb; first | exact (pu_or _ _) | (simp only [gv_t hb_0, gva_tt hb_0]; exact (pu_or _ _)) | (simp only [gv_t hb_0, gva_tf hb_0]; exact (pu_or _ _))) ?_
 refine opK_pu (pu_and _ _) ?_
 exact hR ((decide ((x0.n : Int) ≤ 3000)) && ((decide (x1 ≤ 3000)) || (decide (65536 < x1)))) H _ I h
theorem L_gnomon_gnomonlaw10_few (x0 : Sl) (x1 : Int) {H : Hp} {K : Bool → Hp → Prop} (h : T_gnomon_gnomonlaw10_few x0 x1 H K) : C_gnomon_gnomonlaw10_few x0 x1 H K := by
 intro w I
 refine F6_ok ?_
 refine LF_gnomon_gnomonlaw10_few x0 x1 I (fun r0 H' w' I' hk => ⟨H', _, I', r0, rfl, rfl, hk⟩) h


/- function 7: gnomon/gnomonhelp.CopyCfg -/
def T_gnomon_gnomonhelp_CopyCfg (x0 : Tapi_Cfg) (H : Hp) (K : Tapi_Cfg → Hp → Prop) : Prop :=
 ∃ ys_19 : List ByteArray, SlH H 1 cs_string x0.fVars ys_19 ∧ (([] : List ByteArray).length + ys_19.length) * 17 ≤ 140737488355328 ∧
 ∃ ys_32 : List Tapi_Decl, SlH H 2 cs_api_Decl x0.fArrays ys_32 ∧ (([] : List Tapi_Decl).length + ys_32.length) * 25 ≤ 140737488355328 ∧
 ∃ ys_45 : List Tapi_Edge, SlH H 10 cs_api_Edge x0.fEdges ys_45 ∧ (([] : List Tapi_Edge).length + ys_45.length) * 81 ≤ 140737488355328 ∧
 ∀ (s_12 : Sl) (H_53 : Hp), Hle H H_53 → SlH H_53 1 cs_string s_12 ys_19 → s_12.n ≤ s_12.c →
 ∀ (s_25 : Sl) (H_58 : Hp), Hle H_53 H_58 → SlH H_58 2 cs_api_Decl s_25 ys_32 → s_25.n ≤ s_25.c →
 ∀ (s_38 : Sl) (H_63 : Hp), Hle H_58 H_63 → SlH H_63 10 cs_api_Edge s_38 ys_45 → s_38.n ≤ s_38.c →
 K (Tapi_Cfg.mk s_12 x0.fTemps s_25 x0.fPoints x0.fExit s_38) H_63
theorem LF_gnomon_gnomonhelp_CopyCfg (x0 : Tapi_Cfg) {w0 w : World} {ps0 : Nat → Prop} {H0 H : Hp} {K : Tapi_Cfg → Hp → Prop} {R : Value → World → Prop} {E : Pan} (I : Inv w0 ps0 H0 H [] w) (hR : ∀ (r0 : Tapi_Cfg) (H' : Hp) (w' : World) (_ : Inv w0 ps0 H0 H' [] w') (_ : K r0 H'), R (Value.agg (cs_api_Cfg r0).toArray) w') (h : T_gnomon_gnomonhelp_CopyCfg x0 H K) : F7 (Value.agg (cs_api_Cfg x0).toArray) w R E := by
 unfold T_gnomon_gnomonhelp_CopyCfg at h
 unfold F7
 refine s_box I (cs := (cs_api_Cfg x0)) rfl fun g_2 w_3 I_4 k_5 => ?_
 refine s_alloc I_4 Try.zeroValue26 (cs := [(Value.slice none 0 0), (vi 0), (Value.slice none 0 0), (vi 0), (vi 0), (Value.slice none 0 0)]) rfl fun g_7 w_8 I_9 k_10 => ?_
 refine opK_pu pu_fa_26_0 ?_
 refine opK_ld (ld1 Try.isAgg22 ((I_9.bring 1).at1 (o := 0) (vs := [(vs x0.fVars)]) (nb rfl) rfl)) ?_
 obtain ⟨ys_19, h_20, h⟩ := h
 obtain ⟨h_18, h⟩ := h
 refine app_22 (s := ⟨none, 0, 0⟩) (xs := []) I_9.nil (RowL.nil cs_string_l cs_string_o) (SlH.src I_9.nil h_20 cs_string_l) h_18 fun s_12 F_13 w_14 h_15 I_16 k_17 => ?_
 simp only [List.nil_append] at h_15
 refine opK_pu pu_fa_26_0 ?_
 refine s_store (I_16.bring 2) Try.sizeOf22 (vs := [(vs s_12)]) (cs' := [(vs s_12), (vi x0.fTemps), (vs x0.fArrays), (vi x0.fPoints), (vi x0.fExit), (vs x0.fEdges)]) rfl rfl (nb rfl) rfl rfl fun w_21 I_22 k_23 => ?_
 refine opK_pu pu_fa_26_2 ?_
 refine opK_ld (ld1 Try.isAgg23 (I_22.at1 (o := 2) (vs := [(vs x0.fArrays)]) (nb rfl) rfl)) ?_
 obtain ⟨ys_32, h_33, h⟩ := h
 obtain ⟨h_31, h⟩ := h
 refine app_23 (s := ⟨none, 0, 0⟩) (xs := []) I_22.nil (RowL.nil cs_api_Decl_l cs_api_Decl_o) (SlH.src I_22.nil h_33 cs_api_Decl_l) h_31 fun s_25 F_26 w_27 h_28 I_29 k_30 => ?_
 simp only [List.nil_append] at h_28
 refine opK_pu pu_fa_26_2 ?_
 refine s_store (I_29.bring 1) Try.sizeOf23 (vs := [(vs s_25)]) (cs' := [(vs s_12), (vi x0.fTemps), (vs s_25), (vi x0.fPoints), (vi x0.fExit), (vs x0.fEdges)]) rfl rfl (nb rfl) rfl rfl fun w_34 I_35 k_36 => ?_
 refine opK_pu pu_fa_26_5 ?_
 refine opK_ld (ld1 Try.isAgg24 (I_35.at1 (o := 5) (vs := [(vs x0.fEdges)]) (nb rfl) rfl)) ?_
 obtain ⟨ys_45, h_46, h⟩ := h
 obtain ⟨h_44, h⟩ := h
 refine app_24 (s := ⟨none, 0, 0⟩) (xs := []) I_35.nil (RowL.nil cs_api_Edge_l cs_api_Edge_o) (SlH.src I_35.nil h_46 cs_api_Edge_l) h_44 fun s_38 F_39 w_40 h_41 I_42 k_43 => ?_
 simp only [List.nil_append] at h_41
 refine opK_pu pu_fa_26_5 ?_
 refine s_store (I_42.bring 1) Try.sizeOf24 (vs := [(vs s_38)]) (cs' := [(vs s_12), (vi x0.fTemps), (vs s_25), (vi x0.fPoints), (vi x0.fExit), (vs s_38)]) rfl rfl (nb rfl) rfl rfl fun w_47 I_48 k_49 => ?_
 refine opK_ld (ldA Try.isAgg26 Try.sizeOf26 rfl (I_48.at1 (o := 0) (vs := [(vs s_12), (vi x0.fTemps), (vs s_25), (vi x0.fPoints), (vi x0.fExit), (vs s_38)]) (nb rfl) rfl)) ?_
 refine s_store (I_48.bring 4) Try.sizeOf26 (vs := [(vs s_12), (vi x0.fTemps), (vs s_25), (vi x0.fPoints), (vi x0.fExit), (vs s_38)]) (cs' := [(vs s_12), (vi x0.fTemps), (vs s_25), (vi x0.fPoints), (vi x0.fExit), (vs s_38)]) rfl rfl (nb rfl) rfl rfl fun w_50 I_51 k_52 => ?_
 refine xcell_A Try.isAgg26 Try.sizeOf26 rfl (I_51.at1 (o := 0) (vs := [(vs s_12), (vi x0.fTemps), (vs s_25), (vi x0.fPoints), (vi x0.fExit), (vs s_38)]) (nb rfl) rfl) ?_
 obtain ⟨H_53, I_54, l_55, h_56, h_57⟩ := Inv.freezeC (I_51.bring 4) h_15 (by decide)
 replace h := h s_12 H_53 l_55 h_56 h_57
 obtain ⟨H_58, I_59, l_60, h_61, h_62⟩ := Inv.freezeC (I_54.bring 3) h_28 (by decide)
 replace h := h s_25 H_58 l_60 h_61 h_62
 obtain ⟨H_63, I_64, l_65, h_66, h_67⟩ := Inv.freezeC (I_59.bring 2) h_41 (by decide)
 replace h := h s_38 H_63 l_65 h_66 h_67
 exact hR (Tapi_Cfg.mk s_12 x0.fTemps s_25 x0.fPoints x0.fExit s_38) H_63 _ I_64.drop.drop h
theorem L_gnomon_gnomonhelp_CopyCfg (x0 : Tapi_Cfg) {H : Hp} {K : Tapi_Cfg → Hp → Prop} (h : T_gnomon_gnomonhelp_CopyCfg x0 H K) : C_gnomon_gnomonhelp_CopyCfg x0 H K := by
 intro w I
 refine F7_ok ?_
 refine LF_gnomon_gnomonhelp_CopyCfg x0 I (fun r0 H' w' I' hk => ⟨H', _, I', r0, rfl, rfl, hk⟩) h


/- function 9: gnomon/gnomonref10.Run -/
def T_gnomon_gnomonref10_Run_j3 (s15j3 : Int) (cr_169j3_0 : Int) (cr_169j3_1 : Int) (cr_169j3_2 : Int) (ccr_169j3_3 : (List Tapi_Event)) (_cr_169j3_4 : Sl) (_cr_169j3_5 : Sl) (ccr_113j3_0 : (List Int)) (ccr_113j3_1 : (List (List Int))) (_cr_6j3 : Tapi_Outcome) (cr_1j3 : Tapi_Cfg) (H : Hp) (K : Tapi_Outcome → Int → Int → Hp → Prop) : Prop :=
 ∀ (s_105 : Sl) (H_212 : Hp), Hle H H_212 → SlH H_212 1 cs_int64 s_105 ccr_113j3_0 → s_105.n ≤ s_105.c →
 (0 : Int) ≤ (cr_1j3.fVars.n : Int) ∧ ((cr_1j3.fVars.n : Int) : Int) ≤ (cr_1j3.fVars.n : Int) ∧ ((cr_1j3.fVars.n : Int) : Int) ≤ s_105.c ∧ 
 ∀ (scr_169j3_3 : Sl) (H_229 : Hp), Hle H_212 H_229 → SlH H_229 3 cs_api_Event scr_169j3_3 ccr_169j3_3 → scr_169j3_3.n ≤ scr_169j3_3.c →
 ∀ (scr_113j2_1 : Sl) (H_234 : Hp), Hle H_229 H_234 → SlHH H_234 1 cs_int64 scr_113j2_1 ccr_113j3_1 → scr_113j2_1.n ≤ scr_113j2_1.c →
 K (Tapi_Outcome.mk cr_169j3_0 cr_169j3_1 cr_169j3_2 scr_169j3_3 (s_105.cut 0 ((cr_1j3.fVars.n : Int) : Int).toNat ((cr_1j3.fVars.n : Int) : Int).toNat 1) scr_113j2_1) s15j3 0 H_234
def T_gnomon_gnomonref10_Run_j6 (_s1j6 : Sl) (_s2j6 : Int) (_s10j6 : Sl) (s15j6 : Int) (s16j6 : Int) (s19j6 : Int) (cr_169j6_0 : Int) (cr_169j6_1 : Int) (cr_169j6_2 : Int) (ccr_169j6_3 : (List Tapi_Event)) (cr_169j6_4 : Sl) (cr_169j6_5 : Sl) (cr_367j6 : Tapi_Edge) (ccr_113j6_0 : (List Int)) (ccr_113j6_1 : (List (List Int))) (cr_6j6 : Tapi_Outcome) (cr_1j6 : Tapi_Cfg) (H : Hp) (n4 : (Int × Int × Int × Int × Int × (List Tapi_Event) × Sl × Sl × (List Int) × (List (List Int)) × Tapi_Outcome) → Hp → Prop) (K : Tapi_Outcome → Int → Int → Hp → Prop) : Prop :=
 C_gnomon_gnomonref10_state_does (Tgnomonref10_state.mk (Sl.mk none 0 0) (Sl.mk none 0 0)) ccr_113j6_0 ccr_113j6_1 cr_367j6 s19j6 H (fun (r0_427 : Int) (y0_0_427 : (List Int)) (y0_1_427 : (List (List Int))) (H_419 : Hp) => 
 (¬ (r0_427 = 0) →
 T_gnomon_gnomonref10_Run_j3 s15j6 3 r0_427 cr_169j6_2 ccr_169j6_3 cr_169j6_4 cr_169j6_5 y0_0_427 y0_1_427 cr_6j6 cr_1j6 H_419 K) ∧
 (r0_427 = 0 →
 n4 (cr_367j6.fTo, s16j6, cr_169j6_0, cr_169j6_1, cr_169j6_2, ccr_169j6_3, cr_169j6_4, cr_169j6_5, y0_0_427, y0_1_427, cr_6j6) H_419))
def T_gnomon_gnomonref10_Run_j5 (s1j5 : Sl) (s2j5 : Int) (s10j5 : Sl) (s15j5 : Int) (s16j5 : Int) (s19j5 : Int) (cr_169j5_0 : Int) (cr_169j5_1 : Int) (cr_169j5_2 : Int) (ccr_169j5_3 : (List Tapi_Event)) (cr_169j5_4 : Sl) (cr_169j5_5 : Sl) (cr_367j5 : Tapi_Edge) (ccr_113j5_0 : (List Int)) (ccr_113j5_1 : (List (List Int))) (cr_6j5 : Tapi_Outcome) (cr_1j5 : Tapi_Cfg) (H : Hp) (n4 : (Int × Int × Int × Int × Int × (List Tapi_Event) × Sl × Sl × (List Int) × (List (List Int)) × Tapi_Outcome) → Hp → Prop) (K : Tapi_Outcome → Int → Int → Hp → Prop) : Prop :=
 (((decide (cr_367j5.fKind = 13)) || (decide (cr_367j5.fKind = 14))) = true →
 (ccr_169j5_3.length + ([(Tapi_Event.mk false 0 (decide (cr_367j5.fKind = 13)))] : List Tapi_Event).length) * 25 ≤ 140737488355328 ∧
 T_gnomon_gnomonref10_Run_j6 s1j5 s2j5 s10j5 s15j5 s16j5 s19j5 cr_169j5_0 cr_169j5_1 cr_169j5_2 (ccr_169j5_3 ++ [(Tapi_Event.mk false 0 (decide (cr_367j5.fKind = 13)))]) cr_169j5_4 cr_169j5_5 cr_367j5 ccr_113j5_0 ccr_113j5_1 cr_6j5 cr_1j5 H n4 K) ∧
 (((decide (cr_367j5.fKind = 13)) || (decide (cr_367j5.fKind = 14))) = false →
 T_gnomon_gnomonref10_Run_j6 s1j5 s2j5 s10j5 s15j5 s16j5 s19j5 cr_169j5_0 cr_169j5_1 cr_169j5_2 ccr_169j5_3 cr_169j5_4 cr_169j5_5 cr_367j5 ccr_113j5_0 ccr_113j5_1 cr_6j5 cr_1j5 H n4 K)
def T_gnomon_gnomonref10_Run_l4 (s1l4 : Sl) (s2l4 : Int) (s10l4 : Sl) (cr_1l4 : Tapi_Cfg) (s15l4 : Int) (s16l4 : Int) (cr_169l4_0 : Int) (cr_169l4_1 : Int) (cr_169l4_2 : Int) (ccr_169l4_3 : (List Tapi_Event)) (cr_169l4_4 : Sl) (cr_169l4_5 : Sl) (ccr_113l4_0 : (List Int)) (ccr_113l4_1 : (List (List Int))) (cr_6l4 : Tapi_Outcome) (H : Hp) (n4 : (Int × Int × Int × Int × Int × (List Tapi_Event) × Sl × Sl × (List Int) × (List (List Int)) × Tapi_Outcome) → Hp → Prop) (K : Tapi_Outcome → Int → Int → Hp → Prop) : Prop :=
 (cr_169l4_0 = 1 →
 (0 : Int) ≤ s15l4 ∧ (s15l4 : Int) < s10l4.n ∧ ∃ x_334 : Sl, EltH H s10l4 s15l4 1 [(vs x_334)] ∧ 
 C_gnomon_gnomonref10_taken cr_1l4 (Tgnomonref10_state.mk (Sl.mk none 0 0) (Sl.mk none 0 0)) ccr_113l4_0 ccr_113l4_1 x_334 H (fun (r0_349 : Int) (H_341 : Hp) => 
 ∃ x_350 : Tapi_Edge, ((decide (r0_349 < 0)) = false → (0 : Int) ≤ r0_349 ∧ (r0_349 : Int) < cr_1l4.fEdges.n ∧ EltH H_341 cr_1l4.fEdges r0_349 10 (cs_api_Edge x_350)) ∧ 
 (((decide (r0_349 < 0)) || ((decide (x_350.fKind = 9)) && (decide (s16l4 = (s1l4.n : Int))))) = true →
 T_gnomon_gnomonref10_Run_j3 s15l4 2 cr_169l4_1 cr_169l4_2 ccr_169l4_3 cr_169l4_4 cr_169l4_5 ccr_113l4_0 ccr_113l4_1 cr_6l4 cr_1l4 H_341 K) ∧
 (((decide (r0_349 < 0)) || ((decide (x_350.fKind = 9)) && (decide (s16l4 = (s1l4.n : Int))))) = false →
 (cr_169l4_2 = s2l4 →
 T_gnomon_gnomonref10_Run_j3 s15l4 cr_169l4_0 cr_169l4_1 cr_169l4_2 ccr_169l4_3 cr_169l4_4 cr_169l4_5 ccr_113l4_0 ccr_113l4_1 cr_6l4 cr_1l4 H_341 K) ∧
 (¬ (cr_169l4_2 = s2l4) →
 (0 : Int) ≤ r0_349 ∧ (r0_349 : Int) < cr_1l4.fEdges.n ∧ ∃ x_360 : Tapi_Edge, EltH H_341 cr_1l4.fEdges r0_349 10 (cs_api_Edge x_360) ∧ 
 (x_360.fKind = 9 →
 (0 : Int) ≤ s16l4 ∧ (s16l4 : Int) < s1l4.n ∧ ∃ x_378 : Int, EltH H_341 s1l4 s16l4 1 [(vi x_378)] ∧ 
 (ccr_169l4_3.length + ([(Tapi_Event.mk true x_378 false)] : List Tapi_Event).length) * 25 ≤ 140737488355328 ∧
 T_gnomon_gnomonref10_Run_j5 s1l4 s2l4 s10l4 s15l4 (IntKind.wrap .i64 (s16l4 + 1)) x_378 cr_169l4_0 cr_169l4_1 (IntKind.wrap .i64 (cr_169l4_2 + 1)) (ccr_169l4_3 ++ [(Tapi_Event.mk true x_378 false)]) cr_169l4_4 cr_169l4_5 x_360 ccr_113l4_0 ccr_113l4_1 cr_6l4 cr_1l4 H_341 n4 K) ∧
 (¬ (x_360.fKind = 9) →
 T_gnomon_gnomonref10_Run_j5 s1l4 s2l4 s10l4 s15l4 s16l4 0 cr_169l4_0 cr_169l4_1 (IntKind.wrap .i64 (cr_169l4_2 + 1)) ccr_169l4_3 cr_169l4_4 cr_169l4_5 x_360 ccr_113l4_0 ccr_113l4_1 cr_6l4 cr_1l4 H_341 n4 K))))) ∧
 (¬ (cr_169l4_0 = 1) →
 T_gnomon_gnomonref10_Run_j3 s15l4 cr_169l4_0 cr_169l4_1 cr_169l4_2 ccr_169l4_3 cr_169l4_4 cr_169l4_5 ccr_113l4_0 ccr_113l4_1 cr_6l4 cr_1l4 H K)
def T_gnomon_gnomonref10_Run_j2 (s1j2 : Sl) (s2j2 : Int) (cs10j2 : (List (List Int))) (ccr_113j2_0 : (List Int)) (ccr_113j2_1 : (List (List Int))) (cr_6j2 : Tapi_Outcome) (cr_1j2 : Tapi_Cfg) (H : Hp) (K : Tapi_Outcome → Int → Int → Hp → Prop) : Prop :=
 ∀ (s_27 : Sl) (H_327 : Hp), Hle H H_327 → SlHH H_327 1 cs_int s_27 cs10j2 → s_27.n ≤ s_27.c →
 TL ((0, 0, 1, 0, 0, [], (Sl.mk none 0 0), (Sl.mk none 0 0), ccr_113j2_0, ccr_113j2_1, cr_6j2) : Int × Int × Int × Int × Int × (List Tapi_Event) × Sl × Sl × (List Int) × (List (List Int)) × Tapi_Outcome) H_327 fun (s : Int × Int × Int × Int × Int × (List Tapi_Event) × Sl × Sl × (List Int) × (List (List Int)) × Tapi_Outcome) H n4 => T_gnomon_gnomonref10_Run_l4 s1j2 s2j2 s_27 cr_1j2 s.1 s.2.1 s.2.2.1 s.2.2.2.1 s.2.2.2.2.1 s.2.2.2.2.2.1 s.2.2.2.2.2.2.1 s.2.2.2.2.2.2.2.1 s.2.2.2.2.2.2.2.2.1 s.2.2.2.2.2.2.2.2.2.1 s.2.2.2.2.2.2.2.2.2.2 H n4 K
def T_gnomon_gnomonref10_Run_l7 (s1l7 : Sl) (s2l7 : Int) (cs10l7 : (List (List Int))) (ccr_113l7_0 : (List Int)) (cr_1l7 : Tapi_Cfg) (s13l7 : Int) (ccr_113l7_1 : (List (List Int))) (cr_6l7 : Tapi_Outcome) (H : Hp) (n7 : (Int × (List (List Int)) × Tapi_Outcome) → Hp → Prop) (K : Tapi_Outcome → Int → Int → Hp → Prop) : Prop :=
 (s13l7 < (cr_1l7.fArrays.n : Int) →
 (0 : Int) ≤ s13l7 ∧ (s13l7 : Int) < cr_1l7.fArrays.n ∧ ∃ x_459 : Tapi_Decl, EltH H cr_1l7.fArrays s13l7 2 (cs_api_Decl x_459) ∧ 
 (0 : Int) ≤ x_459.fSize ∧ x_459.fSize * 9 ≤ 140737488355328 ∧
 ((ccr_113l7_1 : List (List Int)).length + ([List.replicate (x_459.fSize : Int).toNat 0] : List (List Int)).length) * 25 ≤ 140737488355328 ∧
 n7 ((IntKind.wrap .i64 (s13l7 + 1)), (ccr_113l7_1 ++ [List.replicate (x_459.fSize : Int).toNat 0]), cr_6l7) H) ∧
 (¬ (s13l7 < (cr_1l7.fArrays.n : Int)) →
 T_gnomon_gnomonref10_Run_j2 s1l7 s2l7 cs10l7 ccr_113l7_0 ccr_113l7_1 cr_6l7 cr_1l7 H K)
def T_gnomon_gnomonref10_Run_j1 (s1j1 : Sl) (s2j1 : Int) (cs10j1 : (List (List Int))) (cr_6j1 : Tapi_Outcome) (cr_1j1 : Tapi_Cfg) (H : Hp) (K : Tapi_Outcome → Int → Int → Hp → Prop) : Prop :=
 C_gnomon_gnomonref9_All cr_1j1 H (fun (r0_103 : Int) (H_95 : Hp) => 
 (0 : Int) ≤ r0_103 ∧ r0_103 * 9 ≤ 140737488355328 ∧
 TL ((0, [], cr_6j1) : Int × (List (List Int)) × Tapi_Outcome) H_95 fun (s : Int × (List (List Int)) × Tapi_Outcome) H n7 => T_gnomon_gnomonref10_Run_l7 s1j1 s2j1 cs10j1 (List.replicate (r0_103 : Int).toNat 0) cr_1j1 s.1 s.2.1 s.2.2 H n7 K)
def T_gnomon_gnomonref10_Run_l8 (s1l8 : Sl) (s2l8 : Int) (cr_1l8 : Tapi_Cfg) (cs10l8 : (List (List Int))) (s11l8 : Int) (cr_6l8 : Tapi_Outcome) (H : Hp) (n8 : ((List (List Int)) × Int × Tapi_Outcome) → Hp → Prop) (K : Tapi_Outcome → Int → Int → Hp → Prop) : Prop :=
 (s11l8 < (cr_1l8.fEdges.n : Int) →
 (0 : Int) ≤ s11l8 ∧ (s11l8 : Int) < cr_1l8.fEdges.n ∧ ∃ x_528 : Tapi_Edge, EltH H cr_1l8.fEdges s11l8 10 (cs_api_Edge x_528) ∧ 
 (0 : Int) ≤ x_528.fFrom ∧ ∃ xs_543 : List Int, (cs10l8)[(x_528.fFrom : Int).toNat]? = some xs_543 ∧
 (xs_543.length + ([s11l8] : List Int).length) * 9 ≤ 140737488355328 ∧
 n8 (((cs10l8).set (x_528.fFrom : Int).toNat (xs_543 ++ [s11l8])), (IntKind.wrap .i64 (s11l8 + 1)), cr_6l8) H) ∧
 (¬ (s11l8 < (cr_1l8.fEdges.n : Int)) →
 T_gnomon_gnomonref10_Run_j1 s1l8 s2l8 cs10l8 cr_6l8 cr_1l8 H K)
def T_gnomon_gnomonref10_Run (x0 : Tapi_Cfg) (x1 : Sl) (x2 : Int) (H : Hp) (K : Tapi_Outcome → Int → Int → Hp → Prop) : Prop :=
 C_gnomon_gnomonref9_Check x0 H (fun (r0_19 : Int) (H_11 : Hp) => 
 (¬ (r0_19 = 0) →
 K (Tapi_Outcome.mk 0 0 0 (Sl.mk none 0 0) (Sl.mk none 0 0) (Sl.mk none 0 0)) 0 r0_19 H_11) ∧
 (r0_19 = 0 →
 ((((decide (x2 < 0)) || (decide (65536 < x2))) || (decide (65536 < (x1.n : Int)))) = true →
 K (Tapi_Outcome.mk 0 0 0 (Sl.mk none 0 0) (Sl.mk none 0 0) (Sl.mk none 0 0)) 0 80 H_11) ∧
 ((((decide (x2 < 0)) || (decide (65536 < x2))) || (decide (65536 < (x1.n : Int)))) = false →
 (0 : Int) ≤ x0.fPoints ∧ x0.fPoints * 25 ≤ 140737488355328 ∧
 TL (((List.replicate (x0.fPoints : Int).toNat ([] : List Int)), 0, (Tapi_Outcome.mk 0 0 0 (Sl.mk none 0 0) (Sl.mk none 0 0) (Sl.mk none 0 0))) : (List (List Int)) × Int × Tapi_Outcome) H_11 fun (s : (List (List Int)) × Int × Tapi_Outcome) H n8 => T_gnomon_gnomonref10_Run_l8 x1 x2 x0 s.1 s.2.1 s.2.2 H n8 K)))
theorem LF_gnomon_gnomonref10_Run (x0 : Tapi_Cfg) (x1 : Sl) (x2 : Int) {w0 w : World} {ps0 : Nat → Prop} {H0 H : Hp} {K : Tapi_Outcome → Int → Int → Hp → Prop} {R : Value → World → Prop} {E : Pan} (I : Inv w0 ps0 H0 H [] w) (hR : ∀ (r0 : Tapi_Outcome) (r1 : Int) (r2 : Int) (H' : Hp) (w' : World) (_ : Inv w0 ps0 H0 H' [] w') (_ : K r0 r1 r2 H'), R (Value.tuple #[(Value.agg (cs_api_Outcome r0).toArray), (vi r1), (vi r2)]) w') (h : T_gnomon_gnomonref10_Run x0 x1 x2 H K) : F9 (Value.agg (cs_api_Cfg x0).toArray) (vs x1) (vi x2) w R E := by
 unfold T_gnomon_gnomonref10_Run at h
 unfold F9
 refine s_box I (cs := (cs_api_Cfg x0)) rfl fun g_2 w_3 I_4 k_5 => ?_
 refine s_alloc I_4 Try.zeroValue34 (cs := [(vi 0), (vi 0), (vi 0), (Value.slice none 0 0), (Value.slice none 0 0), (Value.slice none 0 0)]) rfl fun g_7 w_8 I_9 k_10 => ?_
 refine opK_ld (ldA Try.isAgg26 Try.sizeOf26 rfl ((I_9.bring 1).at1 (o := 0) (vs := (cs_api_Cfg x0)) (nb rfl) rfl)) ?_
 refine opK_calls (cap := []) (fun args w => Try.call19 args w) ?_
 refine Cv_ct (Fi := []) (Fr := [bx g_7 34 [(vi 0), (vi 0), (vi 0), (Value.slice none 0 0), (Value.slice none 0 0), (Value.slice none 0 0)], bx g_2 26 (cs_api_Cfg x0)]) I_9 (h) (fun v_15 H_11 F_16 w_12 I_13 l_18 k_14 q_17 => ?_) (fun _ _ _ _ _ q => q.elim)
 obtain ⟨r0_19, rfl, rfl, h⟩ := q_17
 refine opK_pu (pu_neq _ _ _ _ _ _) ?_
 refine xcond_n (fun c_596 => ?_) (fun c_596 => ?_)
 ·replace h := h.1 c_596
  refine opK_pu (pu_bld_34 ) ?_
  refine s_store I_13 Try.sizeOf34 (vs := [(vi 0), (vi 0), (vi 0), (Value.slice none 0 0), (Value.slice none 0 0), (Value.slice none 0 0)]) (cs' := [(vi 0), (vi 0), (vi 0), (Value.slice none 0 0), (Value.slice none 0 0), (Value.slice none 0 0)]) rfl rfl (nb rfl) rfl rfl fun w_20 I_21 k_22 => ?_
  refine xcell_A Try.isAgg34 Try.sizeOf34 rfl (I_21.at1 (o := 0) (vs := [(vi 0), (vi 0), (vi 0), (Value.slice none 0 0), (Value.slice none 0 0), (Value.slice none 0 0)]) (nb rfl) rfl) ?_
  exact hR (Tapi_Outcome.mk 0 0 0 (Sl.mk none 0 0) (Sl.mk none 0 0) (Sl.mk none 0 0)) 0 r0_19 H_11 _ I_21.drop.drop h
 ·replace h := h.2 c_596
  refine opK_pu (pu_lss _ _ _ _ _ _) ?_
  try simp only [gval_b]
  refine opK_pu (Pu.g fun hb => by have hb_0 := hb; first | exact (pu_gtr _ _ _ _ _ _) | (simp only [gv_t hb_0]; exact (pu_gtr _ _ _ _ _ _)) | (simp only [gval_t hb_0, gv_t hb_0, gv_t hb, gva_ff hb_0, gv_n]; exact (pu_gtr _ _ _ _ _ _))) ?_
  refine opK_pu (pu_or _ _) ?_
  try simp only [gval_b]
  refine opK_pu (Pu.g fun hb => by have hb_0 := hb; first | exact (pu_len_27 _ _ _) | (simp only [gv_t hb_0]; exact (pu_len_27 _ _ _)) | (simp only [gval_t hb_0, gv_t hb_0, gv_t hb, gva_ff hb_0, gv_n]; exact (pu_len_27 _ _ _))) ?_
  refine opK_pu (Pu.g fun hb => by have hb_0 := hb; first | exact (pu_gtr _ _ _ _ _ _) | (simp only [gv_t hb_0]; exact (pu_gtr _ _ _ _ _ _)) | (simp only [gval_t hb_0, gv_t hb_0, gv_t hb, gva_ff hb_0, gv_n]; exact (pu_gtr _ _ _ _ _ _))) ?_
  refine opK_pu (pu_or _ _) ?_
  refine xcond_b (fun c_595 => ?_) (fun c_595 => ?_)
  ·replace h := h.1 c_595
   refine opK_pu (pu_bld_34 ) ?_
   refine s_store I_13 Try.sizeOf34 (vs := [(vi 0), (vi 0), (vi 0), (Value.slice none 0 0), (Value.slice none 0 0), (Value.slice none 0 0)]) (cs' := [(vi 0), (vi 0), (vi 0), (Value.slice none 0 0), (Value.slice none 0 0), (Value.slice none 0 0)]) rfl rfl (nb rfl) rfl rfl fun w_23 I_24 k_25 => ?_
   refine xcell_A Try.isAgg34 Try.sizeOf34 rfl (I_24.at1 (o := 0) (vs := [(vi 0), (vi 0), (vi 0), (Value.slice none 0 0), (Value.slice none 0 0), (Value.slice none 0 0)]) (nb rfl) rfl) ?_
   exact hR (Tapi_Outcome.mk 0 0 0 (Sl.mk none 0 0) (Sl.mk none 0 0) (Sl.mk none 0 0)) 0 80 H_11 _ I_24.drop.drop h
  ·replace h := h.2 c_595
   refine opK_pu pu_fa_26_3 ?_
   refine opK_ld (ld1 Try.isAgg3 ((I_13.bring 1).at1 (o := 3) (vs := [(vi x0.fPoints)]) (nb rfl) rfl)) ?_
   obtain ⟨h_33, h_34, h⟩ := h
   refine mks_55 I_13 h_33 h_34 fun s_27 F_28 w_29 h_30 I_31 k_32 => ?_
   have hj1 : ∀ (cs10j1 : (List (List Int))) (cr_6j1 : Tapi_Outcome) (Fs10j1 : Frag) (H : Hp) (w : World) (_ : RowsL 68 3 1 cs_int s_27 cs10j1 Fs10j1) (_ : Inv w0 ps0 H0 H [bx g_7 34 (cs_api_Outcome cr_6j1), bx g_2 26 (cs_api_Cfg x0), Fs10j1] w) (_ : T_gnomon_gnomonref10_Run_j1 x1 x2 cs10j1 cr_6j1 x0 H K), F9_j1 (vs x1) (vi x2) (Value.pointer (some ⟨g_2, 0, none⟩)) (Value.pointer (some ⟨g_7, 0, none⟩)) (vs s_27) w R E := by
    intro cs10j1 cr_6j1 Fs10j1 H w hs10j1 I h
    unfold F9_j1
    intro _
    unfold T_gnomon_gnomonref10_Run_j1 at h
    refine opK_ld (ldA Try.isAgg26 Try.sizeOf26 rfl ((I.bring 1).at1 (o := 0) (vs := (cs_api_Cfg x0)) (nb rfl) rfl)) ?_
    refine opK_calls (cap := []) (fun args w => Try.call20 args w) ?_
    refine Cv_ct (Fi := []) (Fr := [bx g_7 34 (cs_api_Outcome cr_6j1), bx g_2 26 (cs_api_Cfg x0), Fs10j1]) I (h) (fun v_99 H_95 F_100 w_96 I_97 l_102 k_98 q_101 => ?_) (fun _ _ _ _ _ q => q.elim)
    obtain ⟨r0_103, rfl, rfl, h⟩ := q_101
    obtain ⟨h_111, h_112, h⟩ := h
    refine mks_27 I_97 h_111 h_112 fun s_105 F_106 w_107 h_108 I_109 k_110 => ?_
    refine opK_pu (pu_bld_71_0 _ _ _) ?_
    refine s_box I_109 (cs := [(vs s_105), (Value.slice none 0 0)]) rfl fun g_114 w_115 I_116 k_117 => ?_
    have hj2 : ∀ (cs10j2 : (List (List Int))) (ccr_113j2_1 : (List (List Int))) (cr_6j2 : Tapi_Outcome) (Fs10j2 : Frag) (scr_113j2_1 : Sl) (Fcr_113j2_1 : Frag) (H : Hp) (w : World) (_ : RowsL 68 3 1 cs_int s_27 cs10j2 Fs10j2) (_ : RowsL 27 2 1 cs_int64 scr_113j2_1 ccr_113j2_1 Fcr_113j2_1) (_ : Inv w0 ps0 H0 H [bx g_114 71 [(vs s_105), (vs scr_113j2_1)], bx g_7 34 (cs_api_Outcome cr_6j2), bx g_2 26 (cs_api_Cfg x0), F_106, Fs10j2, Fcr_113j2_1] w) (_ : T_gnomon_gnomonref10_Run_j2 x1 x2 cs10j2 (List.replicate (r0_103 : Int).toNat 0) ccr_113j2_1 cr_6j2 x0 H K), F9_j2 (vs x1) (vi x2) (Value.pointer (some ⟨g_2, 0, none⟩)) (Value.pointer (some ⟨g_7, 0, none⟩)) (vs s_27) (Value.pointer (some ⟨g_114, 0, none⟩)) w R E := by
     intro cs10j2 ccr_113j2_1 cr_6j2 Fs10j2 scr_113j2_1 Fcr_113j2_1 H w hs10j2 hcr_113j2_1 I h
     unfold F9_j2
     intro _
     unfold T_gnomon_gnomonref10_Run_j2 at h
     refine opK_pu (pu_bld_34_0 _) ?_
     refine s_alloc I Try.zeroValue34 (cs := [(vi 0), (vi 0), (vi 0), (Value.slice none 0 0), (Value.slice none 0 0), (Value.slice none 0 0)]) rfl fun g_170 w_171 I_172 k_173 => ?_
     refine s_store I_172 Try.sizeOf34 (vs := [(vi 1), (vi 0), (vi 0), (Value.slice none 0 0), (Value.slice none 0 0), (Value.slice none 0 0)]) (cs' := [(vi 1), (vi 0), (vi 0), (Value.slice none 0 0), (Value.slice none 0 0), (Value.slice none 0 0)]) rfl rfl (nb rfl) rfl rfl fun w_174 I_175 k_176 => ?_
     have hj3 : ∀ (s15j3 : Int) (cr_169j3_0 : Int) (cr_169j3_1 : Int) (cr_169j3_2 : Int) (ccr_169j3_3 : (List Tapi_Event)) (cr_169j3_4 : Sl) (cr_169j3_5 : Sl) (ccr_113j3_0 : (List Int)) (ccr_113j3_1 : (List (List Int))) (cr_6j3 : Tapi_Outcome) (scr_169j3_3 : Sl) (Fcr_169j3_3 : Frag) (Fcr_113j3_0 : Frag) (Fcr_113j3_1 : Frag) (H : Hp) (w : World) (_ : RowL 74 3 cs_api_Event scr_169j3_3 ccr_169j3_3 Fcr_169j3_3) (_ : RowL 2 1 cs_int64 s_105 ccr_113j3_0 Fcr_113j3_0) (_ : RowsL 27 2 1 cs_int64 scr_113j2_1 ccr_113j3_1 Fcr_113j3_1) (_ : Inv w0 ps0 H0 H [bx g_170 34 [(vi cr_169j3_0), (vi cr_169j3_1), (vi cr_169j3_2), (vs scr_169j3_3), (vs cr_169j3_4), (vs cr_169j3_5)], bx g_114 71 [(vs s_105), (vs scr_113j2_1)], bx g_7 34 (cs_api_Outcome cr_6j3), bx g_2 26 (cs_api_Cfg x0), Fcr_169j3_3, Fcr_113j3_0, Fcr_113j3_1] w) (_ : T_gnomon_gnomonref10_Run_j3 s15j3 cr_169j3_0 cr_169j3_1 cr_169j3_2 ccr_169j3_3 cr_169j3_4 cr_169j3_5 ccr_113j3_0 ccr_113j3_1 cr_6j3 x0 H K), F9_j3 (Value.pointer (some ⟨g_2, 0, none⟩)) (Value.pointer (some ⟨g_7, 0, none⟩)) (Value.pointer (some ⟨g_114, 0, none⟩)) (Value.pointer (some ⟨g_170, 0, none⟩)) (vi s15j3) w R E := by
      intro s15j3 cr_169j3_0 cr_169j3_1 cr_169j3_2 ccr_169j3_3 cr_169j3_4 cr_169j3_5 ccr_113j3_0 ccr_113j3_1 cr_6j3 scr_169j3_3 Fcr_169j3_3 Fcr_113j3_0 Fcr_113j3_1 H w hcr_169j3_3 hcr_113j3_0 hcr_113j3_1 I h
      unfold F9_j3
      intro _
      unfold T_gnomon_gnomonref10_Run_j3 at h
      refine s_dX I fun w_210 I_211 => ?_
      refine qP_pu (pu_nilp _) ?_
      refine qP_pu pu_fa_71_0 ?_
      refine qP_pu pu_fa_26_0 ?_
      refine qP_pu pu_fa_26_0 ?_
      refine qL_ld (ld1 Try.isAgg27 ((I_211.bring 1).at1 (o := 0) (vs := [(vs s_105)]) (nb rfl) rfl)) ?_
      refine qL_ld (ld1 Try.isAgg22 ((I_211.bring 3).at1 (o := 0) (vs := [(vs x0.fVars)]) (nb rfl) rfl)) ?_
      refine qP_pu (pu_len_22 _ _ _) ?_
      refine qL_ld (ld1 Try.isAgg22 ((I_211.bring 3).at1 (o := 0) (vs := [(vs x0.fVars)]) (nb rfl) rfl)) ?_
      refine qP_pu (pu_len_22 _ _ _) ?_
      obtain ⟨H_212, I_213, l_214, h_215, h_216⟩ := Inv.freezeC (I_211.bring 5) hcr_113j3_0 (by decide)
      replace h := h s_105 H_212 l_214 h_215 h_216
      obtain ⟨h_217, h_218, h_219, h⟩ := h
      refine qP_pu (pu_cut_hm Try.underlying27 Try.sizeOf2 s_105 h_217 h_218 h_219) ?_
      refine qP_pu pu_fa_34_4 ?_
      refine s_store I_213 Try.sizeOf27 (vs := [(Value.slice (s_105.cut 0 ((x0.fVars.n : Int) : Int).toNat ((x0.fVars.n : Int) : Int).toNat 1).a (s_105.cut 0 ((x0.fVars.n : Int) : Int).toNat ((x0.fVars.n : Int) : Int).toNat 1).n (s_105.cut 0 ((x0.fVars.n : Int) : Int).toNat ((x0.fVars.n : Int) : Int).toNat 1).c)]) (cs' := [(vi cr_169j3_0), (vi cr_169j3_1), (vi cr_169j3_2), (vs scr_169j3_3), (Value.slice (s_105.cut 0 ((x0.fVars.n : Int) : Int).toNat ((x0.fVars.n : Int) : Int).toNat 1).a (s_105.cut 0 ((x0.fVars.n : Int) : Int).toNat ((x0.fVars.n : Int) : Int).toNat 1).n (s_105.cut 0 ((x0.fVars.n : Int) : Int).toNat ((x0.fVars.n : Int) : Int).toNat 1).c), (vs cr_169j3_5)]) rfl rfl (nb rfl) rfl rfl fun w_220 I_221 k_222 => ?_
      refine opK_pu (pu_nilp _) ?_
      refine opK_pu pu_fa_71_1 ?_
      refine opK_ld (ld1 Try.isAgg32 ((I_221.bring 1).at1 (o := 1) (vs := [(vs scr_113j2_1)]) (nb rfl) rfl)) ?_
      refine opK_pu pu_fa_34_5 ?_
      refine s_store I_221 Try.sizeOf32 (vs := [(vs scr_113j2_1)]) (cs' := [(vi cr_169j3_0), (vi cr_169j3_1), (vi cr_169j3_2), (vs scr_169j3_3), (Value.slice (s_105.cut 0 ((x0.fVars.n : Int) : Int).toNat ((x0.fVars.n : Int) : Int).toNat 1).a (s_105.cut 0 ((x0.fVars.n : Int) : Int).toNat ((x0.fVars.n : Int) : Int).toNat 1).n (s_105.cut 0 ((x0.fVars.n : Int) : Int).toNat ((x0.fVars.n : Int) : Int).toNat 1).c), (vs scr_113j2_1)]) rfl rfl (nb rfl) rfl rfl fun w_223 I_224 k_225 => ?_
      refine opK_ld (ldA Try.isAgg34 Try.sizeOf34 rfl (I_224.at1 (o := 0) (vs := [(vi cr_169j3_0), (vi cr_169j3_1), (vi cr_169j3_2), (vs scr_169j3_3), (Value.slice (s_105.cut 0 ((x0.fVars.n : Int) : Int).toNat ((x0.fVars.n : Int) : Int).toNat 1).a (s_105.cut 0 ((x0.fVars.n : Int) : Int).toNat ((x0.fVars.n : Int) : Int).toNat 1).n (s_105.cut 0 ((x0.fVars.n : Int) : Int).toNat ((x0.fVars.n : Int) : Int).toNat 1).c), (vs scr_113j2_1)]) (nb rfl) rfl)) ?_
      refine s_store (I_224.bring 2) Try.sizeOf34 (vs := [(vi cr_169j3_0), (vi cr_169j3_1), (vi cr_169j3_2), (vs scr_169j3_3), (Value.slice (s_105.cut 0 ((x0.fVars.n : Int) : Int).toNat ((x0.fVars.n : Int) : Int).toNat 1).a (s_105.cut 0 ((x0.fVars.n : Int) : Int).toNat ((x0.fVars.n : Int) : Int).toNat 1).n (s_105.cut 0 ((x0.fVars.n : Int) : Int).toNat ((x0.fVars.n : Int) : Int).toNat 1).c), (vs scr_113j2_1)]) (cs' := [(vi cr_169j3_0), (vi cr_169j3_1), (vi cr_169j3_2), (vs scr_169j3_3), (Value.slice (s_105.cut 0 ((x0.fVars.n : Int) : Int).toNat ((x0.fVars.n : Int) : Int).toNat 1).a (s_105.cut 0 ((x0.fVars.n : Int) : Int).toNat ((x0.fVars.n : Int) : Int).toNat 1).n (s_105.cut 0 ((x0.fVars.n : Int) : Int).toNat ((x0.fVars.n : Int) : Int).toNat 1).c), (vs scr_113j2_1)]) rfl rfl (nb rfl) rfl rfl fun w_226 I_227 k_228 => ?_
      refine xcell_A Try.isAgg34 Try.sizeOf34 rfl (I_227.at1 (o := 0) (vs := [(vi cr_169j3_0), (vi cr_169j3_1), (vi cr_169j3_2), (vs scr_169j3_3), (Value.slice (s_105.cut 0 ((x0.fVars.n : Int) : Int).toNat ((x0.fVars.n : Int) : Int).toNat 1).a (s_105.cut 0 ((x0.fVars.n : Int) : Int).toNat ((x0.fVars.n : Int) : Int).toNat 1).n (s_105.cut 0 ((x0.fVars.n : Int) : Int).toNat ((x0.fVars.n : Int) : Int).toNat 1).c), (vs scr_113j2_1)]) (nb rfl) rfl) ?_
      obtain ⟨H_229, I_230, l_231, h_232, h_233⟩ := Inv.freezeC (I_227.bring 4) hcr_169j3_3 (by decide)
      replace h := h scr_169j3_3 H_229 l_231 h_232 h_233
      obtain ⟨H_234, I_235, l_236, h_237, h_238⟩ := Inv.freezeLL (I_230.bring 4) hcr_113j3_1 (by decide)
      replace h := h scr_113j2_1 H_234 l_236 h_237 h_238
      exact hR (Tapi_Outcome.mk cr_169j3_0 cr_169j3_1 cr_169j3_2 scr_169j3_3 (s_105.cut 0 ((x0.fVars.n : Int) : Int).toNat ((x0.fVars.n : Int) : Int).toNat 1) scr_113j2_1) s15j3 0 H_234 _ I_235.drop.drop.drop.drop h
     refine xcut_i fun j3 hx3 => ?_
     obtain ⟨H_327, I_328, l_329, h_330, h_331⟩ := Inv.freezeLL (I_175.bring 5) hs10j2 (by decide)
     replace h := h s_27 H_327 l_329 h_330 h_331
     obtain ⟨J_440, m_441, i_442, b_443⟩ := h
     refine xloop_J (J := fun n l w => ∃ (s : Int × Int × Int × Int × Int × (List Tapi_Event) × Sl × Sl × (List Int) × (List (List Int)) × Tapi_Outcome) (H : Hp) (scr_169l4_3 : Sl) (Fcr_169l4_3 : Frag) (Fcr_113l4_0 : Frag) (Fcr_113l4_1 : Frag) , n = m_441 s ∧ l = (match s with | (s15l4, s16l4, cr_169l4_0, cr_169l4_1, cr_169l4_2, ccr_169l4_3, cr_169l4_4, cr_169l4_5, ccr_113l4_0, ccr_113l4_1, cr_6l4) => [(vi s15l4), (vi s16l4)]) ∧ (match s with | (s15l4, s16l4, cr_169l4_0, cr_169l4_1, cr_169l4_2, ccr_169l4_3, cr_169l4_4, cr_169l4_5, ccr_113l4_0, ccr_113l4_1, cr_6l4) => RowL 74 3 cs_api_Event scr_169l4_3 ccr_169l4_3 Fcr_169l4_3) ∧ (match s with | (s15l4, s16l4, cr_169l4_0, cr_169l4_1, cr_169l4_2, ccr_169l4_3, cr_169l4_4, cr_169l4_5, ccr_113l4_0, ccr_113l4_1, cr_6l4) => RowL 2 1 cs_int64 s_105 ccr_113l4_0 Fcr_113l4_0) ∧ (match s with | (s15l4, s16l4, cr_169l4_0, cr_169l4_1, cr_169l4_2, ccr_169l4_3, cr_169l4_4, cr_169l4_5, ccr_113l4_0, ccr_113l4_1, cr_6l4) => RowsL 27 2 1 cs_int64 scr_113j2_1 ccr_113l4_1 Fcr_113l4_1) ∧ (match s with | (s15l4, s16l4, cr_169l4_0, cr_169l4_1, cr_169l4_2, ccr_169l4_3, cr_169l4_4, cr_169l4_5, ccr_113l4_0, ccr_113l4_1, cr_6l4) => Inv w0 ps0 H0 H [bx g_170 34 [(vi cr_169l4_0), (vi cr_169l4_1), (vi cr_169l4_2), (vs scr_169l4_3), (vs cr_169l4_4), (vs cr_169l4_5)], bx g_114 71 [(vs s_105), (vs scr_113j2_1)], bx g_7 34 (cs_api_Outcome cr_6l4), bx g_2 26 (cs_api_Cfg x0), Fcr_169l4_3, Fcr_113l4_0, Fcr_113l4_1] w) ∧ J_440 s H) ⟨_, (0, 0, 1, 0, 0, [], (Sl.mk none 0 0), (Sl.mk none 0 0), (List.replicate (r0_103 : Int).toNat 0), ccr_113j2_1, cr_6j2), H_327, (Sl.mk none 0 0), [], F_106, Fcr_113j2_1, rfl, rfl, (RowL.nil cs_api_Event_l cs_api_Event_o), h_108, hcr_113j2_1, (((((((I_328.nil.bring 6).bring 6).bring 2).bring 6).bring 6).bring 6).bring 6), i_442⟩ ?_
     rintro n_444 τ_445 w next4 ⟨⟨s15l4, s16l4, cr_169l4_0, cr_169l4_1, cr_169l4_2, ccr_169l4_3, cr_169l4_4, cr_169l4_5, ccr_113l4_0, ccr_113l4_1, cr_6l4⟩, H, scr_169l4_3, Fcr_169l4_3, Fcr_113l4_0, Fcr_113l4_1, rfl, l_446, hcr_169l4_3, hcr_113l4_0, hcr_113l4_1, I, s_447⟩ hn4
     dsimp only at l_446 I hcr_169l4_3 hcr_113l4_0 hcr_113l4_1
     simp only [List.map_cons, List.map_nil, List.cons.injEq, and_true] at l_446
     obtain ⟨e15, e16⟩ := l_446
     simp only [e15, e16]
     obtain ⟨n4, hm4, h⟩ : ∃ n4 : (Int × Int × Int × Int × Int × (List Tapi_Event) × Sl × Sl × (List Int) × (List (List Int)) × Tapi_Outcome) → Hp → Prop, (∀ s' H', n4 s' H' → J_440 s' H' ∧ m_441 s' < m_441 (s15l4, s16l4, cr_169l4_0, cr_169l4_1, cr_169l4_2, ccr_169l4_3, cr_169l4_4, cr_169l4_5, ccr_113l4_0, ccr_113l4_1, cr_6l4)) ∧ T_gnomon_gnomonref10_Run_l4 x1 x2 s_27 x0 s15l4 s16l4 cr_169l4_0 cr_169l4_1 cr_169l4_2 ccr_169l4_3 cr_169l4_4 cr_169l4_5 ccr_113l4_0 ccr_113l4_1 cr_6l4 H n4 K := ⟨_, fun _ _ h => h, b_443 (s15l4, s16l4, cr_169l4_0, cr_169l4_1, cr_169l4_2, ccr_169l4_3, cr_169l4_4, cr_169l4_5, ccr_113l4_0, ccr_113l4_1, cr_6l4) H (fun s' H' => J_440 s' H' ∧ m_441 s' < m_441 (s15l4, s16l4, cr_169l4_0, cr_169l4_1, cr_169l4_2, ccr_169l4_3, cr_169l4_4, cr_169l4_5, ccr_113l4_0, ccr_113l4_1, cr_6l4)) s_447 (fun _ _ a b => ⟨a, b⟩)⟩
     unfold F9_l4
     unfold T_gnomon_gnomonref10_Run_l4 at h
     refine opK_pu pu_fa_34_0 ?_
     refine opK_ld (ld1 Try.isAgg3 (I.at1 (o := 0) (vs := [(vi cr_169l4_0)]) (nb rfl) rfl)) ?_
     refine opK_pu (pu_eql _ _ _ _ _ _) ?_
     refine xcond_p (fun c_439 => ?_) (fun c_439 => ?_)
     ·replace h := h.1 c_439
      refine s_dX I fun w_332 I_333 => ?_
      obtain ⟨h_337, h_338, x_334, h_340, h⟩ := h
      obtain ⟨g_335, o_336, h_339, h_340⟩ := h_340
      refine qP_pu (pu_ix_55 h_339 _ _ _ _ h_337 h_338) ?_
      refine qL_ld (ldA Try.isAgg26 Try.sizeOf26 rfl ((I_333.bring 3).at1 (o := 0) (vs := (cs_api_Cfg x0)) (nb rfl) rfl)) ?_
      refine qL_ld (ld1 (v := (vs x_334)) Try.isAgg68 (I_333.atH h_340)) ?_
      refine opK_calls (cap := []) (fun args w => Try.call21 args w) ?_
      refine Cv_ct (Fi := [bx g_114 71 [(vs s_105), (vs scr_113j2_1)], Fcr_113l4_0, Fcr_113l4_1]) (Fr := [bx g_170 34 [(vi cr_169l4_0), (vi cr_169l4_1), (vi cr_169l4_2), (vs scr_169l4_3), (vs cr_169l4_4), (vs cr_169l4_5)], bx g_7 34 (cs_api_Outcome cr_6l4), bx g_2 26 (cs_api_Cfg x0), Fcr_169l4_3]) (((I_333.bring 6).bring 6).bring 3) (h g_114 s_105 Fcr_113l4_0 scr_113j2_1 Fcr_113l4_1 hcr_113l4_0 hcr_113l4_1) (fun v_345 H_341 F_346 w_342 I_343 l_348 k_344 q_347 => ?_) (fun _ _ _ _ _ q => q.elim)
      obtain ⟨r0_349, rfl, rfl, h⟩ := q_347
      refine opK_pu (pu_lss _ _ _ _ _ _) ?_
      refine opK_pu (Pu.g fun hb => by have hb_0 := hb; first | exact pu_fa_26_5 | (simp only [gval_t hb_0, gv_t hb_0, gv_t hb, gva_ft hb_0]; exact pu_fa_26_5) | (simp only [gval_t hb_0, gv_t hb_0, gv_t hb, gva_ff hb_0, gv_n]; exact pu_fa_26_5)) ?_
      refine opK_ld (Ld.g fun hb => by have hb_0 := hb; first | exact (ld1 Try.isAgg24 ((I_343.bring 5).at1 (o := 5) (vs := [(vs x0.fEdges)]) (nb rfl) rfl)) | (simp only [gv_t hb_0]; exact (ld1 Try.isAgg24 ((I_343.bring 5).at1 (o := 5) (vs := [(vs x0.fEdges)]) (nb rfl) rfl))) | (simp only [gval_t hb_0, gv_t hb_0, gv_t hb, gva_ff hb_0, gv_n]; exact (ld1 Try.isAgg24 ((I_343.bring 5).at1 (o := 5) (vs := [(vs x0.fEdges)]) (nb rfl) rfl)))) ?_
      try simp only [gval_b]
      obtain ⟨x_350, h_356, h⟩ := h
      obtain ⟨g_351, o_352, h_356⟩ := elt_g h_356
      refine opK_pu (Pu.g fun hb => by have hb_0 := hb; first | exact (pu_ix_24 (h_356 hb).2.2.1 _ _ _ _ (h_356 hb).1 (h_356 hb).2.1) | (simp only [gv_t hb_0]; exact (pu_ix_24 (h_356 hb).2.2.1 _ _ _ _ (h_356 hb).1 (h_356 hb).2.1)) | (simp only [gval_t hb_0, gv_t hb_0, gv_t hb, gva_ff hb_0, gv_n]; exact (pu_ix_24 (h_356 hb).2.2.1 _ _ _ _ (h_356 hb).1 (h_356 hb).2.1))) ?_
      refine opK_pu (Pu.g fun hb => by have hb_0 := hb; first | exact pu_fa_52_2 | (simp only [gv_t hb_0]; exact pu_fa_52_2) | (simp only [gval_t hb_0, gv_t hb_0, gv_t hb, gva_ff hb_0, gv_n]; exact pu_fa_52_2)) ?_
      refine opK_ld (Ld.g fun hb => by have hb_0 := hb; first | exact (ld1 (v := (vi x_350.fKind)) Try.isAgg3 ((I_343.atH (h_356 hb).2.2.2).sub (k := 2) (n := 1) (nb rfl))) | (simp only [gv_t hb_0]; exact (ld1 (v := (vi x_350.fKind)) Try.isAgg3 ((I_343.atH (h_356 hb).2.2.2).sub (k := 2) (n := 1) (nb rfl)))) | (simp only [gval_t hb_0, gv_t hb_0, gv_t hb, gva_ff hb_0, gv_n]; exact (ld1 (v := (vi x_350.fKind)) Try.isAgg3 ((I_343.atH (h_356 hb).2.2.2).sub (k := 2) (n := 1) (nb rfl))))) ?_
      refine opK_pu (Pu.g fun hb => by have hb_0 := hb; first | exact (pu_eql _ _ _ _ _ _) | (simp only [gv_t hb_0]; exact (pu_eql _ _ _ _ _ _)) | (simp only [gval_t hb_0, gv_t hb_0, gv_t hb, gva_ff hb_0, gv_n]; exact (pu_eql _ _ _ _ _ _))) ?_
      try simp only [gv_gv, gvl_ft]
      try simp only [gval_b, gv_gv, gvl_tt, gvl_tf, gvl_ft, gvl_ff, gvg_tt, gvg_tf, gvg_ft, gvg_ff]
      try simp only [gval_b, gv_gv, gvl_tt, gvl_tf, gvl_ft, gvl_ff, gvg_tt, gvg_tf, gvg_ft, gvg_ff]
      refine opK_pu (Pu.e (gsgg_ft _ _ _) (Pu.g fun hb => by obtain ⟨hb_0, hb_1⟩ := gg_ft hb; first | exact (pu_len_27 _ _ _) | (simp only [gv_t hb]; exact (pu_len_27 _ _ _)))) ?_
      refine opK_pu (Pu.e (gsgg_ft _ _ _) (Pu.g fun hb => by obtain ⟨hb_0, hb_1⟩ := gg_ft hb; first | exact (pu_eql _ _ _ _ _ _) | (simp only [gv_t hb]; exact (pu_eql _ _ _ _ _ _)))) ?_
      refine opK_pu (Pu.g fun hb => by have hb_0 := hb; first | exact (pu_and _ _) | (simp only [gv_t hb_0, gva_ft hb_0]; exact (pu_and _ _)) | (simp only [gval_t hb_0, gv_t hb_0, gv_t hb, gva_ff hb_0, gv_n]; exact (pu_and _ _))) ?_
      refine opK_pu (pu_or _ _) ?_
      refine xcond_b (fun c_438 => ?_) (fun c_438 => ?_)
      ·replace h := h.1 c_438
       refine opK_pu pu_fa_34_0 ?_
       refine s_store (I_343.bring 3) Try.sizeOf3 (vs := [(vi 2)]) (cs' := [(vi 2), (vi cr_169l4_1), (vi cr_169l4_2), (vs scr_169l4_3), (vs cr_169l4_4), (vs cr_169l4_5)]) rfl rfl (nb rfl) rfl rfl fun w_357 I_358 k_359 => ?_
       exact hx3 _ _ (hj3 s15l4 2 cr_169l4_1 cr_169l4_2 ccr_169l4_3 cr_169l4_4 cr_169l4_5 ccr_113l4_0 ccr_113l4_1 cr_6l4 scr_169l4_3 Fcr_169l4_3 Fcr_113l4_0 Fcr_113l4_1 H_341 _ hcr_169l4_3 hcr_113l4_0 hcr_113l4_1 (((((((I_358.bring 3).bring 3).bring 6).bring 6).bring 6).bring 6).bring 6) h)
      ·replace h := h.2 c_438
       refine opK_pu pu_fa_34_2 ?_
       refine opK_ld (ld1 Try.isAgg3 ((I_343.bring 3).at1 (o := 2) (vs := [(vi cr_169l4_2)]) (nb rfl) rfl)) ?_
       refine opK_pu (pu_eql _ _ _ _ _ _) ?_
       refine xcond_p (fun c_437 => ?_) (fun c_437 => ?_)
       ·replace h := h.1 c_437
        exact hx3 _ _ (hj3 s15l4 cr_169l4_0 cr_169l4_1 cr_169l4_2 ccr_169l4_3 cr_169l4_4 cr_169l4_5 ccr_113l4_0 ccr_113l4_1 cr_6l4 scr_169l4_3 Fcr_169l4_3 Fcr_113l4_0 Fcr_113l4_1 H_341 _ hcr_169l4_3 hcr_113l4_0 hcr_113l4_1 (((((((I_343.bring 2).bring 2).bring 6).bring 6).bring 6).bring 5).bring 6) h)
       ·replace h := h.2 c_437
        refine opK_pu pu_fa_26_5 ?_
        refine opK_ld (ld1 Try.isAgg24 ((I_343.bring 5).at1 (o := 5) (vs := [(vs x0.fEdges)]) (nb rfl) rfl)) ?_
        obtain ⟨h_363, h_364, x_360, h_366, h⟩ := h
        obtain ⟨g_361, o_362, h_365, h_366⟩ := h_366
        refine opK_pu (pu_ix_24 h_365 _ _ _ _ h_363 h_364) ?_
        refine opK_ld (ldA (vs := (cs_api_Edge x_360)) Try.isAgg52 Try.sizeOf52 rfl (I_343.atH h_366)) ?_
        refine s_alloc I_343 Try.zeroValue52 (cs := [(vi 0), (vi 0), (vi 0), (vi 0), (vi 0), (vi 0), (vi 0), (vi 0), (vi 0), (vi 0)]) rfl fun g_368 w_369 I_370 k_371 => ?_
        refine s_store I_370 Try.sizeOf52 (vs := (cs_api_Edge x_360)) (cs' := (cs_api_Edge x_360)) rfl rfl (nb rfl) rfl rfl fun w_372 I_373 k_374 => ?_
        refine opK_pu pu_fa_34_2 ?_
        refine opK_ld (ld1 Try.isAgg3 ((I_373.bring 4).at1 (o := 2) (vs := [(vi cr_169l4_2)]) (nb rfl) rfl)) ?_
        refine opK_pu (pu_add _ _ _ _ _ _) ?_
        refine opK_pu pu_fa_34_2 ?_
        refine s_store (I_373.bring 4) Try.sizeOf3 (vs := [(vi (IntKind.wrap .i64 (cr_169l4_2 + 1)))]) (cs' := [(vi cr_169l4_0), (vi cr_169l4_1), (vi (IntKind.wrap .i64 (cr_169l4_2 + 1))), (vs scr_169l4_3), (vs cr_169l4_4), (vs cr_169l4_5)]) rfl rfl (nb rfl) rfl rfl fun w_375 I_376 k_377 => ?_
        have hj5 : ∀ (s16j5 : Int) (s19j5 : Int) (cr_169j5_0 : Int) (cr_169j5_1 : Int) (cr_169j5_2 : Int) (ccr_169j5_3 : (List Tapi_Event)) (cr_169j5_4 : Sl) (cr_169j5_5 : Sl) (scr_169j5_3 : Sl) (Fcr_169j5_3 : Frag) (H : Hp) (w : World) (_ : RowL 74 3 cs_api_Event scr_169j5_3 ccr_169j5_3 Fcr_169j5_3) (_ : Inv w0 ps0 H0 H [bx g_170 34 [(vi cr_169j5_0), (vi cr_169j5_1), (vi cr_169j5_2), (vs scr_169j5_3), (vs cr_169j5_4), (vs cr_169j5_5)], bx g_368 52 (cs_api_Edge x_360), bx g_114 71 [(vs s_105), (vs scr_113j2_1)], bx g_7 34 (cs_api_Outcome cr_6l4), bx g_2 26 (cs_api_Cfg x0), Fcr_113l4_0, Fcr_113l4_1, Fcr_169j5_3] w) (_ : T_gnomon_gnomonref10_Run_j5 x1 x2 s_27 s15l4 s16j5 s19j5 cr_169j5_0 cr_169j5_1 cr_169j5_2 ccr_169j5_3 cr_169j5_4 cr_169j5_5 x_360 ccr_113l4_0 ccr_113l4_1 cr_6l4 x0 H n4 K), F9_j5 (vs x1) (vi x2) (Value.pointer (some ⟨g_2, 0, none⟩)) (Value.pointer (some ⟨g_7, 0, none⟩)) (vs s_27) (Value.pointer (some ⟨g_114, 0, none⟩)) (Value.pointer (some ⟨g_170, 0, none⟩)) (vi s15l4) (vi s16j5) (Value.pointer (some ⟨g_368, 0, none⟩)) (vi s19j5) w j3 next4 R E := by
         intro s16j5 s19j5 cr_169j5_0 cr_169j5_1 cr_169j5_2 ccr_169j5_3 cr_169j5_4 cr_169j5_5 scr_169j5_3 Fcr_169j5_3 H w hcr_169j5_3 I h
         unfold F9_j5
         intro _
         unfold T_gnomon_gnomonref10_Run_j5 at h
         have hj6 : ∀ (cr_169j6_0 : Int) (cr_169j6_1 : Int) (cr_169j6_2 : Int) (ccr_169j6_3 : (List Tapi_Event)) (cr_169j6_4 : Sl) (cr_169j6_5 : Sl) (scr_169j6_3 : Sl) (Fcr_169j6_3 : Frag) (H : Hp) (w : World) (_ : RowL 74 3 cs_api_Event scr_169j6_3 ccr_169j6_3 Fcr_169j6_3) (_ : Inv w0 ps0 H0 H [bx g_170 34 [(vi cr_169j6_0), (vi cr_169j6_1), (vi cr_169j6_2), (vs scr_169j6_3), (vs cr_169j6_4), (vs cr_169j6_5)], bx g_368 52 (cs_api_Edge x_360), bx g_114 71 [(vs s_105), (vs scr_113j2_1)], bx g_7 34 (cs_api_Outcome cr_6l4), bx g_2 26 (cs_api_Cfg x0), Fcr_113l4_0, Fcr_113l4_1, Fcr_169j6_3] w) (_ : T_gnomon_gnomonref10_Run_j6 x1 x2 s_27 s15l4 s16j5 s19j5 cr_169j6_0 cr_169j6_1 cr_169j6_2 ccr_169j6_3 cr_169j6_4 cr_169j6_5 x_360 ccr_113l4_0 ccr_113l4_1 cr_6l4 x0 H n4 K), F9_j6 (vs x1) (vi x2) (Value.pointer (some ⟨g_2, 0, none⟩)) (Value.pointer (some ⟨g_7, 0, none⟩)) (vs s_27) (Value.pointer (some ⟨g_114, 0, none⟩)) (Value.pointer (some ⟨g_170, 0, none⟩)) (vi s15l4) (vi s16j5) (Value.pointer (some ⟨g_368, 0, none⟩)) (vi s19j5) w j3 next4 R E := by
          intro cr_169j6_0 cr_169j6_1 cr_169j6_2 ccr_169j6_3 cr_169j6_4 cr_169j6_5 scr_169j6_3 Fcr_169j6_3 H w hcr_169j6_3 I h
          unfold F9_j6
          intro _
          unfold T_gnomon_gnomonref10_Run_j6 at h
          refine opK_ld (ldA Try.isAgg52 Try.sizeOf52 rfl ((I.bring 1).at1 (o := 0) (vs := (cs_api_Edge x_360)) (nb rfl) rfl)) ?_
          refine opK_calls (cap := []) (fun args w => Try.call22 args w) ?_
          refine Cv_ct (Fi := [bx g_114 71 [(vs s_105), (vs scr_113j2_1)], Fcr_113l4_0, Fcr_113l4_1]) (Fr := [bx g_170 34 [(vi cr_169j6_0), (vi cr_169j6_1), (vi cr_169j6_2), (vs scr_169j6_3), (vs cr_169j6_4), (vs cr_169j6_5)], bx g_368 52 (cs_api_Edge x_360), bx g_7 34 (cs_api_Outcome cr_6l4), bx g_2 26 (cs_api_Cfg x0), Fcr_169j6_3]) (((I.bring 6).bring 6).bring 4) (h g_114 s_105 Fcr_113l4_0 scr_113j2_1 Fcr_113l4_1 hcr_113l4_0 hcr_113l4_1) (fun v_423 H_419 F_424 w_420 I_421 l_426 k_422 q_425 => ?_) (fun _ _ _ _ _ q => q.elim)
          obtain ⟨r0_427, y0_0_427, y0_1_427, Fy0_0_427, Fy0_1_427, rfl, rfl, hy0_0_427, hy0_1_427, h⟩ := q_425
          refine opK_pu (pu_neq _ _ _ _ _ _) ?_
          refine xcond_n (fun c_434 => ?_) (fun c_434 => ?_)
          ·replace h := h.1 c_434
           refine opK_pu pu_fa_34_0 ?_
           refine s_store (I_421.bring 3) Try.sizeOf3 (vs := [(vi 3)]) (cs' := [(vi 3), (vi cr_169j6_1), (vi cr_169j6_2), (vs scr_169j6_3), (vs cr_169j6_4), (vs cr_169j6_5)]) rfl rfl (nb rfl) rfl rfl fun w_428 I_429 k_430 => ?_
           refine opK_pu pu_fa_34_1 ?_
           refine s_store I_429 Try.sizeOf3 (vs := [(vi r0_427)]) (cs' := [(vi 3), (vi r0_427), (vi cr_169j6_2), (vs scr_169j6_3), (vs cr_169j6_4), (vs cr_169j6_5)]) rfl rfl (nb rfl) rfl rfl fun w_431 I_432 k_433 => ?_
           exact hx3 _ _ (hj3 s15l4 3 r0_427 cr_169j6_2 ccr_169j6_3 cr_169j6_4 cr_169j6_5 y0_0_427 y0_1_427 cr_6l4 scr_169j6_3 Fcr_169j6_3 Fy0_0_427 Fy0_1_427 H_419 _ hcr_169j6_3 hy0_0_427 hy0_1_427 ((((((((I_432.bring 4).drop.bring 3).bring 3).bring 6).bring 6).bring 6).bring 6).bring 6) h)
          ·replace h := h.2 c_434
           refine opK_pu pu_fa_52_1 ?_
           refine opK_ld (ld1 Try.isAgg3 ((I_421.bring 4).at1 (o := 1) (vs := [(vi x_360.fTo)]) (nb rfl) rfl)) ?_
           exact hn4 _ _ _ (hm4 _ _ h).2 ⟨(x_360.fTo, s16j5, cr_169j6_0, cr_169j6_1, cr_169j6_2, ccr_169j6_3, cr_169j6_4, cr_169j6_5, y0_0_427, y0_1_427, cr_6l4), H_419, scr_169j6_3, Fcr_169j6_3, Fy0_0_427, Fy0_1_427, rfl, rfl, hcr_169j6_3, hy0_0_427, hy0_1_427, ((((((((I_421.bring 4).drop.bring 2).bring 2).bring 6).bring 6).bring 6).bring 5).bring 6), (hm4 _ _ h).1⟩
         refine xcut_i fun j6 hx6 => ?_
         refine opK_pu pu_fa_52_2 ?_
         refine opK_ld (ld1 Try.isAgg3 ((I.bring 1).at1 (o := 2) (vs := [(vi x_360.fKind)]) (nb rfl) rfl)) ?_
         refine opK_pu (pu_eql _ _ _ _ _ _) ?_
         refine opK_pu (Pu.g fun hb => by have hb_0 := hb; first | exact pu_fa_52_2 | (simp only [gval_t hb_0, gv_t hb_0, gv_t hb, gva_ft hb_0]; exact pu_fa_52_2) | (simp only [gval_t hb_0, gv_t hb_0, gv_t hb, gva_ff hb_0, gv_n]; exact pu_fa_52_2)) ?_
         refine opK_ld (Ld.g fun hb => by have hb_0 := hb; first | exact (ld1 Try.isAgg3 ((I.bring 1).at1 (o := 2) (vs := [(vi x_360.fKind)]) (nb rfl) rfl)) | (simp only [gv_t hb_0]; exact (ld1 Try.isAgg3 ((I.bring 1).at1 (o := 2) (vs := [(vi x_360.fKind)]) (nb rfl) rfl))) | (simp only [gval_t hb_0, gv_t hb_0, gv_t hb, gva_ff hb_0, gv_n]; exact (ld1 Try.isAgg3 ((I.bring 1).at1 (o := 2) (vs := [(vi x_360.fKind)]) (nb rfl) rfl)))) ?_
         refine opK_pu (Pu.g fun hb => by have hb_0 := hb; first | exact (pu_eql _ _ _ _ _ _) | (simp only [gv_t hb_0]; exact (pu_eql _ _ _ _ _ _)) | (simp only [gval_t hb_0, gv_t hb_0, gv_t hb, gva_ff hb_0, gv_n]; exact (pu_eql _ _ _ _ _ _))) ?_
         refine opK_pu (pu_or _ _) ?_
         refine xcond_b (fun c_435 => ?_) (fun c_435 => ?_)
         ·replace h := h.1 c_435
          refine opK_pu pu_fa_34_3 ?_
          refine opK_ld (ld1 Try.isAgg31 (I.at1 (o := 3) (vs := [(vs scr_169j5_3)]) (nb rfl) rfl)) ?_
          refine opK_pu pu_fa_52_2 ?_
          refine opK_ld (ld1 Try.isAgg3 ((I.bring 1).at1 (o := 2) (vs := [(vi x_360.fKind)]) (nb rfl) rfl)) ?_
          refine opK_pu (pu_eql _ _ _ _ _ _) ?_
          refine opK_pu (pu_bld_74_2 _) ?_
          refine s_bs (e := 74) (c := cs_api_Event) (xs := [(Tapi_Event.mk false 0 (decide (x_360.fKind = 13)))]) I (bs_31_1 _ _ _) rfl rfl cs_api_Event_l cs_api_Event_o (nb rfl) fun s_403 F_404 w_405 h_406 I_407 k_408 => ?_
          obtain ⟨h_415, h⟩ := h
          refine app_31 (s := scr_169j5_3) (xs := ccr_169j5_3) (I_407.bring 8) hcr_169j5_3 (h_406.srcO ((I_407.bring 8).bring 1)) h_415 fun s_409 F_410 w_411 h_412 I_413 k_414 => ?_
          refine opK_pu pu_fa_34_3 ?_
          refine s_store ((I_413.bring 1).drop.bring 1) Try.sizeOf31 (vs := [(vs s_409)]) (cs' := [(vi cr_169j5_0), (vi cr_169j5_1), (vi cr_169j5_2), (vs s_409), (vs cr_169j5_4), (vs cr_169j5_5)]) rfl rfl (nb rfl) rfl rfl fun w_416 I_417 k_418 => ?_
          exact hx6 _ _ (hj6 cr_169j5_0 cr_169j5_1 cr_169j5_2 (ccr_169j5_3 ++ [(Tapi_Event.mk false 0 (decide (x_360.fKind = 13)))]) cr_169j5_4 cr_169j5_5 s_409 F_410 H _ h_412 ((((((((I_417.bring 1).bring 7).bring 7).bring 7).bring 7).bring 7).bring 7).bring 7) h)
         ·replace h := h.2 c_435
          exact hx6 _ _ (hj6 cr_169j5_0 cr_169j5_1 cr_169j5_2 ccr_169j5_3 cr_169j5_4 cr_169j5_5 scr_169j5_3 Fcr_169j5_3 H _ hcr_169j5_3 ((((((((I.bring 7).bring 7).bring 7).bring 7).bring 7).bring 7).bring 7).bring 7) h)
        refine xcut_i fun j5 hx5 => ?_
        refine opK_pu pu_fa_52_2 ?_
        refine opK_ld (ld1 Try.isAgg3 ((I_376.bring 1).at1 (o := 2) (vs := [(vi x_360.fKind)]) (nb rfl) rfl)) ?_
        refine opK_pu (pu_eql _ _ _ _ _ _) ?_
        refine xcond_p (fun c_436 => ?_) (fun c_436 => ?_)
        ·replace h := h.1 c_436
         obtain ⟨h_381, h_382, x_378, h_384, h⟩ := h
         obtain ⟨g_379, o_380, h_383, h_384⟩ := h_384
         refine opK_pu (pu_ix_27 h_383 _ _ _ _ h_381 h_382) ?_
         refine opK_ld (ld1 (v := (vi x_378)) Try.isAgg2 (I_376.atH h_384)) ?_
         refine opK_pu (pu_add _ _ _ _ _ _) ?_
         refine opK_pu pu_fa_34_3 ?_
         refine opK_ld (ld1 Try.isAgg31 (I_376.at1 (o := 3) (vs := [(vs scr_169l4_3)]) (nb rfl) rfl)) ?_
         refine opK_pu (pu_bld_74_0_1 _ _) ?_
         refine s_bs (e := 74) (c := cs_api_Event) (xs := [(Tapi_Event.mk true x_378 false)]) I_376 (bs_31_1 _ _ _) rfl rfl cs_api_Event_l cs_api_Event_o (nb rfl) fun s_386 F_387 w_388 h_389 I_390 k_391 => ?_
         obtain ⟨h_398, h⟩ := h
         refine app_31 (s := scr_169l4_3) (xs := ccr_169l4_3) (I_390.bring 8) hcr_169l4_3 (h_389.srcO ((I_390.bring 8).bring 1)) h_398 fun s_392 F_393 w_394 h_395 I_396 k_397 => ?_
         refine opK_pu pu_fa_34_3 ?_
         refine s_store ((I_396.bring 1).drop.bring 1) Try.sizeOf31 (vs := [(vs s_392)]) (cs' := [(vi cr_169l4_0), (vi cr_169l4_1), (vi (IntKind.wrap .i64 (cr_169l4_2 + 1))), (vs s_392), (vs cr_169l4_4), (vs cr_169l4_5)]) rfl rfl (nb rfl) rfl rfl fun w_399 I_400 k_401 => ?_
         exact hx5 _ _ (hj5 (IntKind.wrap .i64 (s16l4 + 1)) x_378 cr_169l4_0 cr_169l4_1 (IntKind.wrap .i64 (cr_169l4_2 + 1)) (ccr_169l4_3 ++ [(Tapi_Event.mk true x_378 false)]) cr_169l4_4 cr_169l4_5 s_392 F_393 H_341 _ h_395 ((((((((I_400.bring 1).bring 5).bring 5).bring 7).bring 7).bring 7).bring 7).bring 7) h)
        ·replace h := h.2 c_436
         exact hx5 _ _ (hj5 s16l4 0 cr_169l4_0 cr_169l4_1 (IntKind.wrap .i64 (cr_169l4_2 + 1)) ccr_169l4_3 cr_169l4_4 cr_169l4_5 scr_169l4_3 Fcr_169l4_3 H_341 _ hcr_169l4_3 ((((((((I_376.bring 7).bring 5).bring 5).bring 7).bring 7).bring 7).bring 7).bring 7) h)
     ·replace h := h.2 c_439
      exact hx3 _ _ (hj3 s15l4 cr_169l4_0 cr_169l4_1 cr_169l4_2 ccr_169l4_3 cr_169l4_4 cr_169l4_5 ccr_113l4_0 ccr_113l4_1 cr_6l4 scr_169l4_3 Fcr_169l4_3 Fcr_113l4_0 Fcr_113l4_1 H _ hcr_169l4_3 hcr_113l4_0 hcr_113l4_1 (((((((I.bring 6).bring 6).bring 6).bring 6).bring 6).bring 6).bring 6) h)
    refine xcut_i fun j2 hx2 => ?_
    obtain ⟨J_509, m_510, i_511, b_512⟩ := h
    refine xloop_J (J := fun n l w => ∃ (s : Int × (List (List Int)) × Tapi_Outcome) (H : Hp) (scr_113l7_1 : Sl) (Fcr_113l7_1 : Frag) , n = m_510 s ∧ l = (match s with | (s13l7, ccr_113l7_1, cr_6l7) => [(vi s13l7)]) ∧ (match s with | (s13l7, ccr_113l7_1, cr_6l7) => RowsL 27 2 1 cs_int64 scr_113l7_1 ccr_113l7_1 Fcr_113l7_1) ∧ (match s with | (s13l7, ccr_113l7_1, cr_6l7) => Inv w0 ps0 H0 H [bx g_114 71 [(vs s_105), (vs scr_113l7_1)], bx g_7 34 (cs_api_Outcome cr_6l7), bx g_2 26 (cs_api_Cfg x0), Fs10j1, F_106, Fcr_113l7_1] w) ∧ J_509 s H) ⟨_, (0, [], cr_6j1), H_95, (Sl.mk none 0 0), [], rfl, rfl, (RowsL.nil cs_int64_l cs_int64_o), (((((I_116.nil.bring 2).bring 5).bring 5).bring 5).bring 5), i_511⟩ ?_
    rintro n_513 τ_514 w next7 ⟨⟨s13l7, ccr_113l7_1, cr_6l7⟩, H, scr_113l7_1, Fcr_113l7_1, rfl, l_515, hcr_113l7_1, I, s_516⟩ hn7
    dsimp only at l_515 I hcr_113l7_1
    simp only [List.map_cons, List.map_nil, List.cons.injEq, and_true] at l_515
    have e13 := l_515
    simp only [e13]
    obtain ⟨n7, hm7, h⟩ : ∃ n7 : (Int × (List (List Int)) × Tapi_Outcome) → Hp → Prop, (∀ s' H', n7 s' H' → J_509 s' H' ∧ m_510 s' < m_510 (s13l7, ccr_113l7_1, cr_6l7)) ∧ T_gnomon_gnomonref10_Run_l7 x1 x2 cs10j1 (List.replicate (r0_103 : Int).toNat 0) x0 s13l7 ccr_113l7_1 cr_6l7 H n7 K := ⟨_, fun _ _ h => h, b_512 (s13l7, ccr_113l7_1, cr_6l7) H (fun s' H' => J_509 s' H' ∧ m_510 s' < m_510 (s13l7, ccr_113l7_1, cr_6l7)) s_516 (fun _ _ a b => ⟨a, b⟩)⟩
    unfold F9_l7
    unfold T_gnomon_gnomonref10_Run_l7 at h
    refine opK_pu pu_fa_26_2 ?_
    refine opK_ld (ld1 Try.isAgg23 ((I.bring 2).at1 (o := 2) (vs := [(vs x0.fArrays)]) (nb rfl) rfl)) ?_
    refine opK_pu (pu_len_23 _ _ _) ?_
    refine opK_pu (pu_lss _ _ _ _ _ _) ?_
    refine xcond_p (fun c_508 => ?_) (fun c_508 => ?_)
    ·replace h := h.1 c_508
     refine s_dX I fun w_457 I_458 => ?_
     refine qP_pu (pu_nilp _) ?_
     refine qP_pu pu_fa_71_1 ?_
     refine qP_pu pu_fa_26_2 ?_
     refine qL_ld (ld1 Try.isAgg32 (I_458.at1 (o := 1) (vs := [(vs scr_113l7_1)]) (nb rfl) rfl)) ?_
     refine qL_ld (ld1 Try.isAgg23 ((I_458.bring 2).at1 (o := 2) (vs := [(vs x0.fArrays)]) (nb rfl) rfl)) ?_
     obtain ⟨h_462, h_463, x_459, h_465, h⟩ := h
     obtain ⟨g_460, o_461, h_464, h_465⟩ := h_465
     refine qP_pu (pu_ix_23 h_464 _ _ _ _ h_462 h_463) ?_
     refine qP_pu pu_fa_60_1 ?_
     refine qL_ld (ld1 (v := (vi x_459.fSize)) Try.isAgg3 ((I_458.atH h_465).sub (k := 1) (n := 1) (nb rfl))) ?_
     obtain ⟨h_473, h_474, h⟩ := h
     refine mks_27 I_458 h_473 h_474 fun s_467 F_468 w_469 h_470 I_471 k_472 => ?_
     refine ⟨(k_472 _ I_458.lt1), ?_⟩
     refine s_bs (e := 27) (c := csl) (xs := [s_467]) I_471 (bs_32_1 _ _ _) rfl rfl csl_l csl_o (nb rfl) fun s_476 F_477 w_478 h_479 I_480 k_481 => ?_
     refine ⟨(k_481 _ (I_471.bring 1).lt1), ?_⟩
     obtain ⟨h_504, h⟩ := h
     obtain ⟨ss_482, F_483, F_484, h_485, h_486, I_487⟩ := RowsL.split hcr_113l7_1 (((I_480.bring 1).bring 1).join2.bring 6)
     obtain ⟨ss_490, F_491, F_492, h_493, h_494, I_495⟩ := RowsL.split (RowsL.one h_479 h_470) (I_487.bring 2)
     refine app_32 (s := scr_113l7_1) (xs := ss_482) (I_495.bring 2) h_485 (h_493.srcO ((I_495.bring 2).bring 1)) (by rw [h_486.len, h_494.len]; exact h_504) fun s_498 F_499 w_500 h_501 I_502 k_503 => ?_
     refine qP_pu (pu_nilp _) ?_
     refine qP_pu pu_fa_71_1 ?_
     refine s_store (((((I_502.bring 1).drop.bring 1).bring 2).bring 2).join3.bring 1) Try.sizeOf32 (vs := [(vs s_498)]) (cs' := [(vs s_105), (vs s_498)]) rfl rfl (nb rfl) rfl rfl fun w_505 I_506 k_507 => ?_
     refine opK_pu (pu_add _ _ _ _ _ _) ?_
     exact hn7 _ _ _ (hm7 _ _ h).2 ⟨((IntKind.wrap .i64 (s13l7 + 1)), (ccr_113l7_1 ++ [List.replicate (x_459.fSize : Int).toNat 0]), cr_6l7), H, s_498, (F_499 ++ (F_484 ++ F_492)), rfl, rfl, (RowsL.app h_501 h_486 h_494), ((((((I_506.bring 1).bring 5).bring 5).bring 5).bring 5).bring 5), (hm7 _ _ h).1⟩
    ·replace h := h.2 c_508
     exact hx2 _ _ (hj2 cs10j1 ccr_113l7_1 cr_6l7 Fs10j1 scr_113l7_1 Fcr_113l7_1 H _ hs10j1 hcr_113l7_1 ((((((I.bring 5).bring 4).bring 5).bring 5).bring 5).bring 5) h)
   refine xcut_i fun j1 hx1 => ?_
   obtain ⟨J_587, m_588, i_589, b_590⟩ := h
   refine xloop_J (J := fun n l w => ∃ (s : (List (List Int)) × Int × Tapi_Outcome) (H : Hp) (Fs10l8 : Frag) , n = m_588 s ∧ l = (match s with | (cs10l8, s11l8, cr_6l8) => [(vi s11l8)]) ∧ (match s with | (cs10l8, s11l8, cr_6l8) => RowsL 68 3 1 cs_int s_27 cs10l8 Fs10l8) ∧ (match s with | (cs10l8, s11l8, cr_6l8) => Inv w0 ps0 H0 H [bx g_7 34 (cs_api_Outcome cr_6l8), bx g_2 26 (cs_api_Cfg x0), Fs10l8] w) ∧ J_587 s H) ⟨_, ((List.replicate (x0.fPoints : Int).toNat ([] : List Int)), 0, (Tapi_Outcome.mk 0 0 0 (Sl.mk none 0 0) (Sl.mk none 0 0) (Sl.mk none 0 0))), H_11, F_28, rfl, rfl, (RowsL.made (e := 3) cs_int_l cs_int_o h_30), ((I_31.bring 2).bring 2), i_589⟩ ?_
   rintro n_591 τ_592 w next8 ⟨⟨cs10l8, s11l8, cr_6l8⟩, H, Fs10l8, rfl, l_593, hs10l8, I, s_594⟩ hn8
   dsimp only at l_593 I hs10l8
   simp only [List.map_cons, List.map_nil, List.cons.injEq, and_true] at l_593
   have e11 := l_593
   simp only [e11]
   obtain ⟨n8, hm8, h⟩ : ∃ n8 : ((List (List Int)) × Int × Tapi_Outcome) → Hp → Prop, (∀ s' H', n8 s' H' → J_587 s' H' ∧ m_588 s' < m_588 (cs10l8, s11l8, cr_6l8)) ∧ T_gnomon_gnomonref10_Run_l8 x1 x2 x0 cs10l8 s11l8 cr_6l8 H n8 K := ⟨_, fun _ _ h => h, b_590 (cs10l8, s11l8, cr_6l8) H (fun s' H' => J_587 s' H' ∧ m_588 s' < m_588 (cs10l8, s11l8, cr_6l8)) s_594 (fun _ _ a b => ⟨a, b⟩)⟩
   unfold F9_l8
   unfold T_gnomon_gnomonref10_Run_l8 at h
   refine opK_pu pu_fa_26_5 ?_
   refine opK_ld (ld1 Try.isAgg24 ((I.bring 1).at1 (o := 5) (vs := [(vs x0.fEdges)]) (nb rfl) rfl)) ?_
   refine opK_pu (pu_len_24 _ _ _) ?_
   refine opK_pu (pu_lss _ _ _ _ _ _) ?_
   refine xcond_p (fun c_586 => ?_) (fun c_586 => ?_)
   ·replace h := h.1 c_586
    refine s_dX I fun w_526 I_527 => ?_
    refine qP_pu pu_fa_26_5 ?_
    refine qP_pu pu_fa_26_5 ?_
    refine qL_ld (ld1 Try.isAgg24 ((I_527.bring 1).at1 (o := 5) (vs := [(vs x0.fEdges)]) (nb rfl) rfl)) ?_
    obtain ⟨h_531, h_532, x_528, h_534, h⟩ := h
    obtain ⟨g_529, o_530, h_533, h_534⟩ := h_534
    refine qP_pu (pu_ix_24 h_533 _ _ _ _ h_531 h_532) ?_
    refine qP_pu pu_fa_52_0 ?_
    refine qL_ld (ld1 (v := (vi x_528.fFrom)) Try.isAgg3 ((I_527.atH h_534).sub (k := 0) (n := 1) (nb rfl))) ?_
    refine qL_ld (ld1 Try.isAgg24 ((I_527.bring 1).at1 (o := 5) (vs := [(vs x0.fEdges)]) (nb rfl) rfl)) ?_
    refine qP_pu (pu_ix_24 h_533 _ _ _ _ h_531 h_532) ?_
    refine qP_pu pu_fa_52_0 ?_
    refine qL_ld (ld1 (v := (vi x_528.fFrom)) Try.isAgg3 ((I_527.atH h_534).sub (k := 0) (n := 1) (nb rfl))) ?_
    obtain ⟨h_542, xs_543, h_544, h⟩ := h
    obtain ⟨ss_545, s_546, F_547, F_548, F_549, h_550, h_551, h_552, h_553, h_554, I_555⟩ := RowsL.open_ hs10l8 (I_527.bring 2) h_544
    obtain ⟨g_559, a_561, h_560, h_562⟩ := h_550.addr h_551
    refine qP_pu (pu_ix_55 h_560 _ _ _ _ h_542 (h_550.lt h_542 h_551)) ?_
    refine qL_ld (ld1 (v := (vs s_546)) Try.isAgg68 (h_550.atW I_555 h_560 h_551)) ?_
    refine s_bs (e := 3) (c := cs_int) (xs := [s11l8]) I_555 (bs_68_1 _) rfl rfl cs_int_l cs_int_o (nb rfl) fun s_564 F_565 w_566 h_567 I_568 k_569 => ?_
    refine ⟨(k_569 _ (RowL.lt_blk h_550 I_555 h_560)), (k_569 _ (I_555.atH_lt h_534)), (k_569 _ (I_555.bring 4).lt1), (k_569 _ (I_555.atH_lt h_534)), (k_569 _ (I_555.bring 4).lt1), ?_⟩
    obtain ⟨h_576, h⟩ := h
    refine app_68 (s := s_546) (xs := xs_543) (I_568.bring 2) h_552 (h_567.srcO ((I_568.bring 2).bring 1)) h_576 fun s_570 F_571 w_572 h_573 I_574 k_575 => ?_
    refine ⟨(k_575 _ (I_568.atH_lt h_534) (Inv.row_ne_H (I_568.bring 2) h_534)), (k_575 _ ((I_568.bring 2).bring 5).lt1 (Inv.row_ne_b (((I_568.bring 2).bring 5).bring 1))), ?_⟩
    obtain ⟨g_577, a_579, h_578, h_580⟩ := h_550.addr h_551
    refine qP_pu (pu_ix_55 h_578 _ _ _ _ h_542 (h_550.lt h_542 h_551)) ?_
    refine s_rowst (x := s_570) ((I_574.bring 1).drop.bring 1) h_550 h_578 (List.getElem?_eq_some_iff.1 h_551).1 Try.sizeOf68 rfl fun F_581 w_582 h_583 I_584 k_585 => ?_
    refine opK_pu (pu_add _ _ _ _ _ _) ?_
    exact hn8 _ _ _ (hm8 _ _ h).2 ⟨(((cs10l8).set (x_528.fFrom : Int).toNat (xs_543 ++ [s11l8])), (IntKind.wrap .i64 (s11l8 + 1)), cr_6l8), H, (F_581 ++ (F_571 ++ F_549)), rfl, rfl, (RowsL.close1 h_583 h_573 h_553), (((((I_584.bring 2).bring 2).bring 2).join3.bring 2).bring 2), (hm8 _ _ h).1⟩
   ·replace h := h.2 c_586
    exact hx1 _ _ (hj1 cs10l8 cr_6l8 Fs10l8 H _ hs10l8 (((I.bring 2).bring 2).bring 2) h)
theorem L_gnomon_gnomonref10_Run (x0 : Tapi_Cfg) (x1 : Sl) (x2 : Int) {H : Hp} {K : Tapi_Outcome → Int → Int → Hp → Prop} (h : T_gnomon_gnomonref10_Run x0 x1 x2 H K) : C_gnomon_gnomonref10_Run x0 x1 x2 H K := by
 intro w I
 refine F9_ok ?_
 refine LF_gnomon_gnomonref10_Run x0 x1 x2 I (fun r0 r1 r2 H' w' I' hk => ⟨H', _, I', r0, r1, r2, rfl, rfl, hk⟩) h


/- function 10: gnomon/gnomonhelp.Outcome -/
def T_gnomon_gnomonhelp_Outcome_j2 (_cr_6j2 : Tapi_Outcome) (_cr_1j2 : Tapi_Outcome) (H : Hp) (K : Bool → Hp → Prop) : Prop :=
 K true H
def T_gnomon_gnomonhelp_Outcome_l3 (cr_6l3 : Tapi_Outcome) (cr_1l3 : Tapi_Outcome) (s6l3 : Int) (H : Hp) (n3 : Int → Hp → Prop) (K : Bool → Hp → Prop) : Prop :=
 (s6l3 < (cr_1l3.fArrays.n : Int) →
 (0 : Int) ≤ s6l3 ∧ (s6l3 : Int) < cr_1l3.fArrays.n ∧ ∃ x_39 : Sl, EltH H cr_1l3.fArrays s6l3 1 [(vs x_39)] ∧ 
 (0 : Int) ≤ s6l3 ∧ (s6l3 : Int) < cr_6l3.fArrays.n ∧ ∃ x_46 : Sl, EltH H cr_6l3.fArrays s6l3 1 [(vs x_46)] ∧ 
 C_gnomon_gnomonhelp_Longs x_39 x_46 H (fun (r0_61 : Bool) (H_53 : Hp) => 
 ((!r0_61) = true →
 K false H_53) ∧
 ((!r0_61) = false →
 n3 (IntKind.wrap .i64 (s6l3 + 1)) H_53))) ∧
 (¬ (s6l3 < (cr_1l3.fArrays.n : Int)) →
 T_gnomon_gnomonhelp_Outcome_j2 cr_6l3 cr_1l3 H K)
def T_gnomon_gnomonhelp_Outcome_j1 (cr_6j1 : Tapi_Outcome) (cr_1j1 : Tapi_Outcome) (H : Hp) (K : Bool → Hp → Prop) : Prop :=
 TL (0 : Int) H fun (s : Int) H n3 => T_gnomon_gnomonhelp_Outcome_l3 cr_6j1 cr_1j1 s H n3 K
def T_gnomon_gnomonhelp_Outcome_l4 (cr_6l4 : Tapi_Outcome) (cr_1l4 : Tapi_Outcome) (s5l4 : Int) (H : Hp) (n4 : Int → Hp → Prop) (K : Bool → Hp → Prop) : Prop :=
 (s5l4 < (cr_1l4.fEvents.n : Int) →
 (0 : Int) ≤ s5l4 ∧ (s5l4 : Int) < cr_1l4.fEvents.n ∧ ∃ x_22 : Tapi_Event, EltH H cr_1l4.fEvents s5l4 3 (cs_api_Event x_22) ∧ 
 (0 : Int) ≤ s5l4 ∧ (s5l4 : Int) < cr_6l4.fEvents.n ∧ ∃ x_29 : Tapi_Event, EltH H cr_6l4.fEvents s5l4 3 (cs_api_Event x_29) ∧ 
 (¬ (x_22.fInput = x_29.fInput ∧ x_22.fNum = x_29.fNum ∧ x_22.fHeld = x_29.fHeld) →
 K false H) ∧
 (x_22.fInput = x_29.fInput ∧ x_22.fNum = x_29.fNum ∧ x_22.fHeld = x_29.fHeld →
 n4 (IntKind.wrap .i64 (s5l4 + 1)) H)) ∧
 (¬ (s5l4 < (cr_1l4.fEvents.n : Int)) →
 T_gnomon_gnomonhelp_Outcome_j1 cr_6l4 cr_1l4 H K)
def T_gnomon_gnomonhelp_Outcome (x0 : Tapi_Outcome) (x1 : Tapi_Outcome) (H : Hp) (K : Bool → Hp → Prop) : Prop :=
 TG (((((!decide (x0.fStatus = x1.fStatus)) || (!decide (x0.fWrong = x1.fWrong))) || (!decide (x0.fSteps = x1.fSteps))) || (!decide ((x0.fEvents.n : Int) = (x1.fEvents.n : Int)))) = false) (C_gnomon_gnomonhelp_Longs x0.fVars x1.fVars H) false H (fun (r0_19 : Bool) (H_11 : Hp) =>
 (((((((!decide (x0.fStatus = x1.fStatus)) || (!decide (x0.fWrong = x1.fWrong))) || (!decide (x0.fSteps = x1.fSteps))) || (!decide ((x0.fEvents.n : Int) = (x1.fEvents.n : Int)))) || (!r0_19)) || (!decide ((x0.fArrays.n : Int) = (x1.fArrays.n : Int)))) = true →
 K false H_11) ∧
 (((((((!decide (x0.fStatus = x1.fStatus)) || (!decide (x0.fWrong = x1.fWrong))) || (!decide (x0.fSteps = x1.fSteps))) || (!decide ((x0.fEvents.n : Int) = (x1.fEvents.n : Int)))) || (!r0_19)) || (!decide ((x0.fArrays.n : Int) = (x1.fArrays.n : Int)))) = false →
 TL (0 : Int) H_11 fun (s : Int) H n4 => T_gnomon_gnomonhelp_Outcome_l4 x1 x0 s H n4 K))
theorem LF_gnomon_gnomonhelp_Outcome (x0 : Tapi_Outcome) (x1 : Tapi_Outcome) {w0 w : World} {ps0 : Nat → Prop} {H0 H : Hp} {K : Bool → Hp → Prop} {R : Value → World → Prop} {E : Pan} (I : Inv w0 ps0 H0 H [] w) (hR : ∀ (r0 : Bool) (H' : Hp) (w' : World) (_ : Inv w0 ps0 H0 H' [] w') (_ : K r0 H'), R (Value.bool r0) w') (h : T_gnomon_gnomonhelp_Outcome x0 x1 H K) : F10 (Value.agg (cs_api_Outcome x0).toArray) (Value.agg (cs_api_Outcome x1).toArray) w R E := by
 unfold T_gnomon_gnomonhelp_Outcome at h
 unfold F10
 refine s_box I (cs := (cs_api_Outcome x0)) rfl fun g_2 w_3 I_4 k_5 => ?_
 refine s_box I_4 (cs := (cs_api_Outcome x1)) rfl fun g_7 w_8 I_9 k_10 => ?_
 refine opK_pu pu_fa_34_0 ?_
 refine opK_ld (ld1 Try.isAgg3 ((I_9.bring 1).at1 (o := 0) (vs := [(vi x0.fStatus)]) (nb rfl) rfl)) ?_
 refine opK_pu pu_fa_34_0 ?_
 refine opK_ld (ld1 Try.isAgg3 (I_9.at1 (o := 0) (vs := [(vi x1.fStatus)]) (nb rfl) rfl)) ?_
 refine opK_pu (pu_neq _ _ _ _ _ _) ?_
 refine opK_pu (Pu.g fun hb => by have hb_0 := hb; first | exact pu_fa_34_1 | (simp only [gval_t hb_0, gv_t hb_0, gv_t hb, gva_ft hb_0]; exact pu_fa_34_1) | (simp only [gval_t hb_0, gv_t hb_0, gv_t hb, gva_ff hb_0, gv_n]; exact pu_fa_34_1)) ?_
 refine opK_ld (Ld.g fun hb => by have hb_0 := hb; first | exact (ld1 Try.isAgg3 ((I_9.bring 1).at1 (o := 1) (vs := [(vi x0.fWrong)]) (nb rfl) rfl)) | (simp only [gv_t hb_0]; exact (ld1 Try.isAgg3 ((I_9.bring 1).at1 (o := 1) (vs := [(vi x0.fWrong)]) (nb rfl) rfl))) | (simp only [gval_t hb_0, gv_t hb_0, gv_t hb, gva_ff hb_0, gv_n]; exact (ld1 Try.isAgg3 ((I_9.bring 1).at1 (o := 1) (vs := [(vi x0.fWrong)]) (nb rfl) rfl)))) ?_
 refine opK_pu (Pu.g fun hb => by have hb_0 := hb; first | exact pu_fa_34_1 | (simp only [gval_t hb_0, gv_t hb_0, gv_t hb, gva_ft hb_0]; exact pu_fa_34_1) | (simp only [gval_t hb_0, gv_t hb_0, gv_t hb, gva_ff hb_0, gv_n]; exact pu_fa_34_1)) ?_
 refine opK_ld (Ld.g fun hb => by have hb_0 := hb; first | exact (ld1 Try.isAgg3 (I_9.at1 (o := 1) (vs := [(vi x1.fWrong)]) (nb rfl) rfl)) | (simp only [gv_t hb_0]; exact (ld1 Try.isAgg3 (I_9.at1 (o := 1) (vs := [(vi x1.fWrong)]) (nb rfl) rfl))) | (simp only [gval_t hb_0, gv_t hb_0, gv_t hb, gva_ff hb_0, gv_n]; exact (ld1 Try.isAgg3 (I_9.at1 (o := 1) (vs := [(vi x1.fWrong)]) (nb rfl) rfl)))) ?_
 refine opK_pu (Pu.g fun hb => by have hb_0 := hb; first | exact (pu_neq _ _ _ _ _ _) | (simp only [gv_t hb_0]; exact (pu_neq _ _ _ _ _ _)) | (simp only [gval_t hb_0, gv_t hb_0, gv_t hb, gva_ff hb_0, gv_n]; exact (pu_neq _ _ _ _ _ _))) ?_
 refine opK_pu (pu_or _ _) ?_
 refine opK_pu (Pu.g fun hb => by have hb_0 := hb; first | exact pu_fa_34_2 | (simp only [gval_t hb_0, gv_t hb_0, gv_t hb, gva_ft hb_0]; exact pu_fa_34_2) | (simp only [gval_t hb_0, gv_t hb_0, gv_t hb, gva_ff hb_0, gv_n]; exact pu_fa_34_2)) ?_
 refine opK_ld (Ld.g fun hb => by have hb_0 := hb; first | exact (ld1 Try.isAgg3 ((I_9.bring 1).at1 (o := 2) (vs := [(vi x0.fSteps)]) (nb rfl) rfl)) | (simp only [gv_t hb_0]; exact (ld1 Try.isAgg3 ((I_9.bring 1).at1 (o := 2) (vs := [(vi x0.fSteps)]) (nb rfl) rfl))) | (simp only [gval_t hb_0, gv_t hb_0, gv_t hb, gva_ff hb_0, gv_n]; exact (ld1 Try.isAgg3 ((I_9.bring 1).at1 (o := 2) (vs := [(vi x0.fSteps)]) (nb rfl) rfl)))) ?_
 refine opK_pu (Pu.g fun hb => by have hb_0 := hb; first | exact pu_fa_34_2 | (simp only [gval_t hb_0, gv_t hb_0, gv_t hb, gva_ft hb_0]; exact pu_fa_34_2) | (simp only [gval_t hb_0, gv_t hb_0, gv_t hb, gva_ff hb_0, gv_n]; exact pu_fa_34_2)) ?_
 refine opK_ld (Ld.g fun hb => by have hb_0 := hb; first | exact (ld1 Try.isAgg3 (I_9.at1 (o := 2) (vs := [(vi x1.fSteps)]) (nb rfl) rfl)) | (simp only [gv_t hb_0]; exact (ld1 Try.isAgg3 (I_9.at1 (o := 2) (vs := [(vi x1.fSteps)]) (nb rfl) rfl))) | (simp only [gval_t hb_0, gv_t hb_0, gv_t hb, gva_ff hb_0, gv_n]; exact (ld1 Try.isAgg3 (I_9.at1 (o := 2) (vs := [(vi x1.fSteps)]) (nb rfl) rfl)))) ?_
 refine opK_pu (Pu.g fun hb => by have hb_0 := hb; first | exact (pu_neq _ _ _ _ _ _) | (simp only [gv_t hb_0]; exact (pu_neq _ _ _ _ _ _)) | (simp only [gval_t hb_0, gv_t hb_0, gv_t hb, gva_ff hb_0, gv_n]; exact (pu_neq _ _ _ _ _ _))) ?_
 refine opK_pu (pu_or _ _) ?_
 refine opK_pu (Pu.g fun hb => by have hb_0 := hb; first | exact pu_fa_34_3 | (simp only [gval_t hb_0, gv_t hb_0, gv_t hb, gva_ft hb_0]; exact pu_fa_34_3) | (simp only [gval_t hb_0, gv_t hb_0, gv_t hb, gva_ff hb_0, gv_n]; exact pu_fa_34_3)) ?_
 refine opK_ld (Ld.g fun hb => by have hb_0 := hb; first | exact (ld1 Try.isAgg31 ((I_9.bring 1).at1 (o := 3) (vs := [(vs x0.fEvents)]) (nb rfl) rfl)) | (simp only [gv_t hb_0]; exact (ld1 Try.isAgg31 ((I_9.bring 1).at1 (o := 3) (vs := [(vs x0.fEvents)]) (nb rfl) rfl))) | (simp only [gval_t hb_0, gv_t hb_0, gv_t hb, gva_ff hb_0, gv_n]; exact (ld1 Try.isAgg31 ((I_9.bring 1).at1 (o := 3) (vs := [(vs x0.fEvents)]) (nb rfl) rfl)))) ?_
 refine opK_pu (Pu.g fun hb => by have hb_0 := hb; first | exact (pu_len_31 _ _ _) | (simp only [gv_t hb_0]; exact (pu_len_31 _ _ _)) | (simp only [gval_t hb_0, gv_t hb_0, gv_t hb, gva_ff hb_0, gv_n]; exact (pu_len_31 _ _ _))) ?_
 refine opK_pu (Pu.g fun hb => by have hb_0 := hb; first | exact pu_fa_34_3 | (simp only [gval_t hb_0, gv_t hb_0, gv_t hb, gva_ft hb_0]; exact pu_fa_34_3) | (simp only [gval_t hb_0, gv_t hb_0, gv_t hb, gva_ff hb_0, gv_n]; exact pu_fa_34_3)) ?_
 refine opK_ld (Ld.g fun hb => by have hb_0 := hb; first | exact (ld1 Try.isAgg31 (I_9.at1 (o := 3) (vs := [(vs x1.fEvents)]) (nb rfl) rfl)) | (simp only [gv_t hb_0]; exact (ld1 Try.isAgg31 (I_9.at1 (o := 3) (vs := [(vs x1.fEvents)]) (nb rfl) rfl))) | (simp only [gval_t hb_0, gv_t hb_0, gv_t hb, gva_ff hb_0, gv_n]; exact (ld1 Try.isAgg31 (I_9.at1 (o := 3) (vs := [(vs x1.fEvents)]) (nb rfl) rfl)))) ?_
 refine opK_pu (Pu.g fun hb => by have hb_0 := hb; first | exact (pu_len_31 _ _ _) | (simp only [gv_t hb_0]; exact (pu_len_31 _ _ _)) | (simp only [gval_t hb_0, gv_t hb_0, gv_t hb, gva_ff hb_0, gv_n]; exact (pu_len_31 _ _ _))) ?_
 refine opK_pu (Pu.g fun hb => by have hb_0 := hb; first | exact (pu_neq _ _ _ _ _ _) | (simp only [gv_t hb_0]; exact (pu_neq _ _ _ _ _ _)) | (simp only [gval_t hb_0, gv_t hb_0, gv_t hb, gva_ff hb_0, gv_n]; exact (pu_neq _ _ _ _ _ _))) ?_
 refine opK_pu (pu_or _ _) ?_
 refine opK_pu (Pu.g fun hb => by have hb_0 := hb; first | exact pu_fa_34_4 | (simp only [gval_t hb_0, gv_t hb_0, gv_t hb, gva_ft hb_0]; exact pu_fa_34_4) | (simp only [gval_t hb_0, gv_t hb_0, gv_t hb, gva_ff hb_0, gv_n]; exact pu_fa_34_4)) ?_
 refine opK_ld (Ld.g fun hb => by have hb_0 := hb; first | exact (ld1 Try.isAgg27 ((I_9.bring 1).at1 (o := 4) (vs := [(vs x0.fVars)]) (nb rfl) rfl)) | (simp only [gv_t hb_0]; exact (ld1 Try.isAgg27 ((I_9.bring 1).at1 (o := 4) (vs := [(vs x0.fVars)]) (nb rfl) rfl))) | (simp only [gval_t hb_0, gv_t hb_0, gv_t hb, gva_ff hb_0, gv_n]; exact (ld1 Try.isAgg27 ((I_9.bring 1).at1 (o := 4) (vs := [(vs x0.fVars)]) (nb rfl) rfl)))) ?_
 refine opK_pu (Pu.g fun hb => by have hb_0 := hb; first | exact pu_fa_34_4 | (simp only [gval_t hb_0, gv_t hb_0, gv_t hb, gva_ft hb_0]; exact pu_fa_34_4) | (simp only [gval_t hb_0, gv_t hb_0, gv_t hb, gva_ff hb_0, gv_n]; exact pu_fa_34_4)) ?_
 refine opK_ld (Ld.g fun hb => by have hb_0 := hb; first | exact (ld1 Try.isAgg27 (I_9.at1 (o := 4) (vs := [(vs x1.fVars)]) (nb rfl) rfl)) | (simp only [gv_t hb_0]; exact (ld1 Try.isAgg27 (I_9.at1 (o := 4) (vs := [(vs x1.fVars)]) (nb rfl) rfl))) | (simp only [gval_t hb_0, gv_t hb_0, gv_t hb, gva_ff hb_0, gv_n]; exact (ld1 Try.isAgg27 (I_9.at1 (o := 4) (vs := [(vs x1.fVars)]) (nb rfl) rfl)))) ?_
 refine opK_g2 (D := fun v_15 w_12 => ∃ (r0_19 : Bool) (H_11 : Hp), v_15 = (gv ((((!decide (x0.fStatus = x1.fStatus)) || (!decide (x0.fWrong = x1.fWrong))) || (!decide (x0.fSteps = x1.fSteps))) || (!decide ((x0.fEvents.n : Int) = (x1.fEvents.n : Int)))) false (Value.bool r0_19)) ∧ (Inv w0 ps0 H0 H_11 [bx g_7 34 (cs_api_Outcome x1), bx g_2 34 (cs_api_Outcome x0)] w_12) ∧ (∀ i, i < w_8.heap.size → ¬ inF [] i → w_12.heap[i]? = w_8.heap[i]?) ∧ Hle H H_11 ∧ ((((((((!decide (x0.fStatus = x1.fStatus)) || (!decide (x0.fWrong = x1.fWrong))) || (!decide (x0.fSteps = x1.fSteps))) || (!decide ((x0.fEvents.n : Int) = (x1.fEvents.n : Int)))) || (!r0_19)) || (!decide ((x0.fArrays.n : Int) = (x1.fArrays.n : Int)))) = true →
 K false H_11) ∧
 (((((((!decide (x0.fStatus = x1.fStatus)) || (!decide (x0.fWrong = x1.fWrong))) || (!decide (x0.fSteps = x1.fSteps))) || (!decide ((x0.fEvents.n : Int) = (x1.fEvents.n : Int)))) || (!r0_19)) || (!decide ((x0.fArrays.n : Int) = (x1.fArrays.n : Int)))) = false →
 TL (0 : Int) H_11 fun (s : Int) H n4 => T_gnomon_gnomonhelp_Outcome_l4 x1 x0 s H n4 K))) (fun b_82 => ?_) (fun b_82 => ?_) ?_
 ·replace h := h.1 b_82
  have hb_0 := b_82
  try simp only [gv_t hb_0]
  refine opK_calls (cap := []) (fun args w => Try.call12 args w) ?_
  refine Cv_ct (Fi := []) (Fr := [bx g_7 34 (cs_api_Outcome x1), bx g_2 34 (cs_api_Outcome x0)]) I_9 (h) (fun v_15 H_11 F_16 w_12 I_13 l_18 k_14 q_17 => ?_) (fun _ _ _ _ _ q => q.elim)
  obtain ⟨r0_19, rfl, rfl, h⟩ := q_17
  exact ⟨r0_19, H_11, by first | rfl | rw [gv_t b_82], I_13, k_14, l_18, h⟩
 ·exact ⟨false, H, by first | rfl | rw [gv_f b_82], I_9, fun _ _ _ => rfl, Hle.refl _, h.2 b_82⟩
 ·clear h
  rintro v_15 w_12 ⟨r0_19, H_11, rfl, I_13, k_14, l_18, h⟩
  refine opK_pu (Pu.g fun hb => by have hb_0 := hb; first | exact (pu_not _) | (simp only [gv_t hb_0]; exact (pu_not _)) | (simp only [gval_t hb_0, gv_t hb_0, gv_t hb, gva_ff hb_0, gv_n]; exact (pu_not _))) ?_
  refine opK_pu (pu_or _ _) ?_
  refine opK_pu (Pu.g fun hb => by have hb_0 := hb; first | exact pu_fa_34_5 | (simp only [gval_t hb_0, gv_t hb_0, gv_t hb, gva_ft hb_0]; exact pu_fa_34_5) | (simp only [gval_t hb_0, gv_t hb_0, gv_t hb, gva_ff hb_0, gv_n]; exact pu_fa_34_5)) ?_
  refine opK_ld (Ld.g fun hb => by have hb_0 := hb; first | exact (ld1 Try.isAgg32 ((I_13.bring 1).at1 (o := 5) (vs := [(vs x0.fArrays)]) (nb rfl) rfl)) | (simp only [gv_t hb_0]; exact (ld1 Try.isAgg32 ((I_13.bring 1).at1 (o := 5) (vs := [(vs x0.fArrays)]) (nb rfl) rfl))) | (simp only [gval_t hb_0, gv_t hb_0, gv_t hb, gva_ff hb_0, gv_n]; exact (ld1 Try.isAgg32 ((I_13.bring 1).at1 (o := 5) (vs := [(vs x0.fArrays)]) (nb rfl) rfl)))) ?_
  refine opK_pu (Pu.g fun hb => by have hb_0 := hb; first | exact (pu_len_32 _ _ _) | (simp only [gv_t hb_0]; exact (pu_len_32 _ _ _)) | (simp only [gval_t hb_0, gv_t hb_0, gv_t hb, gva_ff hb_0, gv_n]; exact (pu_len_32 _ _ _))) ?_
  refine opK_pu (Pu.g fun hb => by have hb_0 := hb; first | exact pu_fa_34_5 | (simp only [gval_t hb_0, gv_t hb_0, gv_t hb, gva_ft hb_0]; exact pu_fa_34_5) | (simp only [gval_t hb_0, gv_t hb_0, gv_t hb, gva_ff hb_0, gv_n]; exact pu_fa_34_5)) ?_
  refine opK_ld (Ld.g fun hb => by have hb_0 := hb; first | exact (ld1 Try.isAgg32 (I_13.at1 (o := 5) (vs := [(vs x1.fArrays)]) (nb rfl) rfl)) | (simp only [gv_t hb_0]; exact (ld1 Try.isAgg32 (I_13.at1 (o := 5) (vs := [(vs x1.fArrays)]) (nb rfl) rfl))) | (simp only [gval_t hb_0, gv_t hb_0, gv_t hb, gva_ff hb_0, gv_n]; exact (ld1 Try.isAgg32 (I_13.at1 (o := 5) (vs := [(vs x1.fArrays)]) (nb rfl) rfl)))) ?_
  refine opK_pu (Pu.g fun hb => by have hb_0 := hb; first | exact (pu_len_32 _ _ _) | (simp only [gv_t hb_0]; exact (pu_len_32 _ _ _)) | (simp only [gval_t hb_0, gv_t hb_0, gv_t hb, gva_ff hb_0, gv_n]; exact (pu_len_32 _ _ _))) ?_
  refine opK_pu (Pu.g fun hb => by have hb_0 := hb; first | exact (pu_neq _ _ _ _ _ _) | (simp only [gv_t hb_0]; exact (pu_neq _ _ _ _ _ _)) | (simp only [gval_t hb_0, gv_t hb_0, gv_t hb, gva_ff hb_0, gv_n]; exact (pu_neq _ _ _ _ _ _))) ?_
  refine opK_pu (pu_or _ _) ?_
  refine xcond_b (fun c_81 => ?_) (fun c_81 => ?_)
  ·replace h := h.1 c_81
   exact hR false H_11 _ I_13.drop.drop h
  ·replace h := h.2 c_81
   have hj1 : ∀ (H : Hp) (w : World) (_ : Inv w0 ps0 H0 H [bx g_7 34 (cs_api_Outcome x1), bx g_2 34 (cs_api_Outcome x0)] w) (_ : T_gnomon_gnomonhelp_Outcome_j1 x1 x0 H K), F10_j1 (Value.pointer (some ⟨g_2, 0, none⟩)) (Value.pointer (some ⟨g_7, 0, none⟩)) w R E := by
    intro H w I h
    unfold F10_j1
    intro _
    unfold T_gnomon_gnomonhelp_Outcome_j1 at h
    have hj2 : ∀ (H : Hp) (w : World) (_ : Inv w0 ps0 H0 H [bx g_7 34 (cs_api_Outcome x1), bx g_2 34 (cs_api_Outcome x0)] w) (_ : T_gnomon_gnomonhelp_Outcome_j2 x1 x0 H K), F10_j2 w R E := by
     intro H w I h
     unfold F10_j2
     intro _
     unfold T_gnomon_gnomonhelp_Outcome_j2 at h
     exact hR true H _ I.drop.drop h
    refine xcut_i fun j2 hx2 => ?_
    obtain ⟨J_64, m_65, i_66, b_67⟩ := h
    refine xloop_J (J := fun n l w => ∃ (s : Int) (H : Hp) , n = m_65 s ∧ l = [(vi s)] ∧ Inv w0 ps0 H0 H [bx g_7 34 (cs_api_Outcome x1), bx g_2 34 (cs_api_Outcome x0)] w ∧ J_64 s H) ⟨_, 0, H, rfl, rfl, ((I.bring 1).bring 1), i_66⟩ ?_
    rintro n_68 τ_69 w next3 ⟨s6l3, H, rfl, l_70, I, s_71⟩ hn3
    simp only [List.map_cons, List.map_nil, List.cons.injEq, and_true] at l_70
    have e6 := l_70
    simp only [e6]
    obtain ⟨n3, hm3, h⟩ : ∃ n3 : Int → Hp → Prop, (∀ s' H', n3 s' H' → J_64 s' H' ∧ m_65 s' < m_65 s6l3) ∧ T_gnomon_gnomonhelp_Outcome_l3 x1 x0 s6l3 H n3 K := ⟨_, fun _ _ h => h, b_67 s6l3 H (fun s' H' => J_64 s' H' ∧ m_65 s' < m_65 s6l3) s_71 (fun _ _ a b => ⟨a, b⟩)⟩
    unfold F10_l3
    unfold T_gnomon_gnomonhelp_Outcome_l3 at h
    refine opK_pu pu_fa_34_5 ?_
    refine opK_ld (ld1 Try.isAgg32 ((I.bring 1).at1 (o := 5) (vs := [(vs x0.fArrays)]) (nb rfl) rfl)) ?_
    refine opK_pu (pu_len_32 _ _ _) ?_
    refine opK_pu (pu_lss _ _ _ _ _ _) ?_
    refine xcond_p (fun c_63 => ?_) (fun c_63 => ?_)
    ·replace h := h.1 c_63
     refine s_dX I fun w_37 I_38 => ?_
     refine qP_pu pu_fa_34_5 ?_
     refine qP_pu pu_fa_34_5 ?_
     refine qL_ld (ld1 Try.isAgg32 ((I_38.bring 1).at1 (o := 5) (vs := [(vs x0.fArrays)]) (nb rfl) rfl)) ?_
     obtain ⟨h_42, h_43, x_39, h_45, h⟩ := h
     obtain ⟨g_40, o_41, h_44, h_45⟩ := h_45
     refine qP_pu (pu_ix_32 h_44 _ _ _ _ h_42 h_43) ?_
     refine qL_ld (ld1 (v := (vs x_39)) Try.isAgg27 (I_38.atH h_45)) ?_
     refine qL_ld (ld1 Try.isAgg32 (I_38.at1 (o := 5) (vs := [(vs x1.fArrays)]) (nb rfl) rfl)) ?_
     obtain ⟨h_49, h_50, x_46, h_52, h⟩ := h
     obtain ⟨g_47, o_48, h_51, h_52⟩ := h_52
     refine qP_pu (pu_ix_32 h_51 _ _ _ _ h_49 h_50) ?_
     refine qL_ld (ld1 (v := (vs x_46)) Try.isAgg27 (I_38.atH h_52)) ?_
     refine opK_calls (cap := []) (fun args w => Try.call12 args w) ?_
     refine Cv_ct (Fi := []) (Fr := [bx g_7 34 (cs_api_Outcome x1), bx g_2 34 (cs_api_Outcome x0)]) I_38 (h) (fun v_57 H_53 F_58 w_54 I_55 l_60 k_56 q_59 => ?_) (fun _ _ _ _ _ q => q.elim)
     obtain ⟨r0_61, rfl, rfl, h⟩ := q_59
     refine qP_pu (pu_not _) ?_
     refine xcond_b (fun c_62 => ?_) (fun c_62 => ?_)
     ·replace h := h.1 c_62
      exact hR false H_53 _ I_55.drop.drop h
     ·replace h := h.2 c_62
      refine opK_pu (pu_add _ _ _ _ _ _) ?_
      exact hn3 _ _ _ (hm3 _ _ h).2 ⟨(IntKind.wrap .i64 (s6l3 + 1)), H_53, rfl, rfl, ((I_55.bring 1).bring 1), (hm3 _ _ h).1⟩
    ·replace h := h.2 c_63
     exact hx2 _ _ (hj2 H _ ((I.bring 1).bring 1) h)
   refine xcut_i fun j1 hx1 => ?_
   obtain ⟨J_73, m_74, i_75, b_76⟩ := h
   refine xloop_J (J := fun n l w => ∃ (s : Int) (H : Hp) , n = m_74 s ∧ l = [(vi s)] ∧ Inv w0 ps0 H0 H [bx g_7 34 (cs_api_Outcome x1), bx g_2 34 (cs_api_Outcome x0)] w ∧ J_73 s H) ⟨_, 0, H_11, rfl, rfl, ((I_13.bring 1).bring 1), i_75⟩ ?_
   rintro n_77 τ_78 w next4 ⟨s5l4, H, rfl, l_79, I, s_80⟩ hn4
   simp only [List.map_cons, List.map_nil, List.cons.injEq, and_true] at l_79
   have e5 := l_79
   simp only [e5]
   obtain ⟨n4, hm4, h⟩ : ∃ n4 : Int → Hp → Prop, (∀ s' H', n4 s' H' → J_73 s' H' ∧ m_74 s' < m_74 s5l4) ∧ T_gnomon_gnomonhelp_Outcome_l4 x1 x0 s5l4 H n4 K := ⟨_, fun _ _ h => h, b_76 s5l4 H (fun s' H' => J_73 s' H' ∧ m_74 s' < m_74 s5l4) s_80 (fun _ _ a b => ⟨a, b⟩)⟩
   unfold F10_l4
   unfold T_gnomon_gnomonhelp_Outcome_l4 at h
   refine opK_pu pu_fa_34_3 ?_
   refine opK_ld (ld1 Try.isAgg31 ((I.bring 1).at1 (o := 3) (vs := [(vs x0.fEvents)]) (nb rfl) rfl)) ?_
   refine opK_pu (pu_len_31 _ _ _) ?_
   refine opK_pu (pu_lss _ _ _ _ _ _) ?_
   refine xcond_p (fun c_72 => ?_) (fun c_72 => ?_)
   ·replace h := h.1 c_72
    refine s_dX I fun w_20 I_21 => ?_
    refine qP_pu pu_fa_34_3 ?_
    refine qP_pu pu_fa_34_3 ?_
    refine qL_ld (ld1 Try.isAgg31 ((I_21.bring 1).at1 (o := 3) (vs := [(vs x0.fEvents)]) (nb rfl) rfl)) ?_
    obtain ⟨h_25, h_26, x_22, h_28, h⟩ := h
    obtain ⟨g_23, o_24, h_27, h_28⟩ := h_28
    refine qP_pu (pu_ix_31 h_27 _ _ _ _ h_25 h_26) ?_
    refine qL_ld (ldA (vs := (cs_api_Event x_22)) Try.isAgg74 Try.sizeOf74 rfl (I_21.atH h_28)) ?_
    refine qL_ld (ld1 Try.isAgg31 (I_21.at1 (o := 3) (vs := [(vs x1.fEvents)]) (nb rfl) rfl)) ?_
    obtain ⟨h_32, h_33, x_29, h_35, h⟩ := h
    obtain ⟨g_30, o_31, h_34, h_35⟩ := h_35
    refine qP_pu (pu_ix_31 h_34 _ _ _ _ h_32 h_33) ?_
    refine qL_ld (ldA (vs := (cs_api_Event x_29)) Try.isAgg74 Try.sizeOf74 rfl (I_21.atH h_35)) ?_
    refine qP_pu (pu_ne_74 _ _ _ _ _ _ _ _) ?_
    refine xcond_n (fun c_36 => ?_) (fun c_36 => ?_)
    ·replace h := h.1 c_36
     exact hR false H _ I_21.drop.drop h
    ·replace h := h.2 c_36
     refine opK_pu (pu_add _ _ _ _ _ _) ?_
     exact hn4 _ _ _ (hm4 _ _ h).2 ⟨(IntKind.wrap .i64 (s5l4 + 1)), H, rfl, rfl, ((I_21.bring 1).bring 1), (hm4 _ _ h).1⟩
   ·replace h := h.2 c_72
    exact hx1 _ _ (hj1 H _ ((I.bring 1).bring 1) h)
theorem L_gnomon_gnomonhelp_Outcome (x0 : Tapi_Outcome) (x1 : Tapi_Outcome) {H : Hp} {K : Bool → Hp → Prop} (h : T_gnomon_gnomonhelp_Outcome x0 x1 H K) : C_gnomon_gnomonhelp_Outcome x0 x1 H K := by
 intro w I
 refine F10_ok ?_
 refine LF_gnomon_gnomonhelp_Outcome x0 x1 I (fun r0 H' w' I' hk => ⟨H', _, I', r0, rfl, rfl, hk⟩) h


/- function 23: gnomon/gnomonhelp.Texts -/
def T_gnomon_gnomonhelp_Texts_j1 (H : Hp) (K : Bool → Hp → Prop) : Prop :=
 K true H
def T_gnomon_gnomonhelp_Texts_l2 (s0l2 : Sl) (s1l2 : Sl) (s5l2 : Int) (H : Hp) (n2 : Int → Hp → Prop) (K : Bool → Hp → Prop) : Prop :=
 (s5l2 < (s0l2.n : Int) →
 (0 : Int) ≤ s5l2 ∧ (s5l2 : Int) < s0l2.n ∧ ∃ x_3 : ByteArray, EltH H s0l2 s5l2 1 [(Value.string x_3)] ∧ 
 (0 : Int) ≤ s5l2 ∧ (s5l2 : Int) < s1l2.n ∧ ∃ x_10 : ByteArray, EltH H s1l2 s5l2 1 [(Value.string x_10)] ∧ 
 (¬ (x_3 = x_10) →
 K false H) ∧
 (x_3 = x_10 →
 n2 (IntKind.wrap .i64 (s5l2 + 1)) H)) ∧
 (¬ (s5l2 < (s0l2.n : Int)) →
 T_gnomon_gnomonhelp_Texts_j1 H K)
def T_gnomon_gnomonhelp_Texts (x0 : Sl) (x1 : Sl) (H : Hp) (K : Bool → Hp → Prop) : Prop :=
 (¬ ((x0.n : Int) = (x1.n : Int)) →
 K false H) ∧
 ((x0.n : Int) = (x1.n : Int) →
 TL (0 : Int) H fun (s : Int) H n2 => T_gnomon_gnomonhelp_Texts_l2 x0 x1 s H n2 K)
theorem LF_gnomon_gnomonhelp_Texts (x0 : Sl) (x1 : Sl) {w0 w : World} {ps0 : Nat → Prop} {H0 H : Hp} {K : Bool → Hp → Prop} {R : Value → World → Prop} {E : Pan} (I : Inv w0 ps0 H0 H [] w) (hR : ∀ (r0 : Bool) (H' : Hp) (w' : World) (_ : Inv w0 ps0 H0 H' [] w') (_ : K r0 H'), R (Value.bool r0) w') (h : T_gnomon_gnomonhelp_Texts x0 x1 H K) : F23 (vs x0) (vs x1) w R E := by
 unfold T_gnomon_gnomonhelp_Texts at h
 unfold F23
 refine opK_pu (pu_len_22 _ _ _) ?_
 refine opK_pu (pu_len_22 _ _ _) ?_
 refine opK_pu (pu_neq _ _ _ _ _ _) ?_
 refine xcond_n (fun c_27 => ?_) (fun c_27 => ?_)
 ·replace h := h.1 c_27
  exact hR false H _ I h
 ·replace h := h.2 c_27
  have hj1 : ∀ (H : Hp) (w : World) (_ : Inv w0 ps0 H0 H [] w) (_ : T_gnomon_gnomonhelp_Texts_j1 H K), F23_j1 w R E := by
   intro H w I h
   unfold F23_j1
   intro _
   unfold T_gnomon_gnomonhelp_Texts_j1 at h
   exact hR true H _ I h
  refine xcut_i fun j1 hx1 => ?_
  obtain ⟨J_19, m_20, i_21, b_22⟩ := h
  refine xloop_J (J := fun n l w => ∃ (s : Int) (H : Hp) , n = m_20 s ∧ l = [(vi s)] ∧ Inv w0 ps0 H0 H [] w ∧ J_19 s H) ⟨_, 0, H, rfl, rfl, I, i_21⟩ ?_
  rintro n_23 τ_24 w next2 ⟨s5l2, H, rfl, l_25, I, s_26⟩ hn2
  simp only [List.map_cons, List.map_nil, List.cons.injEq, and_true] at l_25
  have e5 := l_25
  simp only [e5]
  obtain ⟨n2, hm2, h⟩ : ∃ n2 : Int → Hp → Prop, (∀ s' H', n2 s' H' → J_19 s' H' ∧ m_20 s' < m_20 s5l2) ∧ T_gnomon_gnomonhelp_Texts_l2 x0 x1 s5l2 H n2 K := ⟨_, fun _ _ h => h, b_22 s5l2 H (fun s' H' => J_19 s' H' ∧ m_20 s' < m_20 s5l2) s_26 (fun _ _ a b => ⟨a, b⟩)⟩
  unfold F23_l2
  unfold T_gnomon_gnomonhelp_Texts_l2 at h
  refine opK_pu (pu_len_22 _ _ _) ?_
  refine opK_pu (pu_lss _ _ _ _ _ _) ?_
  refine xcond_p (fun c_18 => ?_) (fun c_18 => ?_)
  ·replace h := h.1 c_18
   refine s_dX I fun w_1 I_2 => ?_
   obtain ⟨h_6, h_7, x_3, h_9, h⟩ := h
   obtain ⟨g_4, o_5, h_8, h_9⟩ := h_9
   refine qP_pu (pu_ix_22 h_8 _ _ _ _ h_6 h_7) ?_
   obtain ⟨h_13, h_14, x_10, h_16, h⟩ := h
   obtain ⟨g_11, o_12, h_15, h_16⟩ := h_16
   refine qP_pu (pu_ix_22 h_15 _ _ _ _ h_13 h_14) ?_
   refine qL_ld (ld1 (v := (Value.string x_3)) Try.isAgg9 (I_2.atH h_9)) ?_
   refine qL_ld (ld1 (v := (Value.string x_10)) Try.isAgg9 (I_2.atH h_16)) ?_
   refine qP_pu (pu_nes _ _ _ _ _) ?_
   refine xcond_n (fun c_17 => ?_) (fun c_17 => ?_)
   ·replace h := h.1 c_17
    exact hR false H _ I_2 h
   ·replace h := h.2 c_17
    refine opK_pu (pu_add _ _ _ _ _ _) ?_
    exact hn2 _ _ _ (hm2 _ _ h).2 ⟨(IntKind.wrap .i64 (s5l2 + 1)), H, rfl, rfl, I_2, (hm2 _ _ h).1⟩
  ·replace h := h.2 c_18
   exact hx1 _ _ (hj1 H _ I h)
theorem L_gnomon_gnomonhelp_Texts (x0 : Sl) (x1 : Sl) {H : Hp} {K : Bool → Hp → Prop} (h : T_gnomon_gnomonhelp_Texts x0 x1 H K) : C_gnomon_gnomonhelp_Texts x0 x1 H K := by
 intro w I
 refine F23_ok ?_
 refine LF_gnomon_gnomonhelp_Texts x0 x1 I (fun r0 H' w' I' hk => ⟨H', _, I', r0, rfl, rfl, hk⟩) h


/- function 24: gnomon/gnomonhelp.Decls -/
def T_gnomon_gnomonhelp_Decls_j1 (H : Hp) (K : Bool → Hp → Prop) : Prop :=
 K true H
def T_gnomon_gnomonhelp_Decls_l2 (s0l2 : Sl) (s1l2 : Sl) (s5l2 : Int) (H : Hp) (n2 : Int → Hp → Prop) (K : Bool → Hp → Prop) : Prop :=
 (s5l2 < (s0l2.n : Int) →
 (0 : Int) ≤ s5l2 ∧ (s5l2 : Int) < s0l2.n ∧ ∃ x_3 : Tapi_Decl, EltH H s0l2 s5l2 2 (cs_api_Decl x_3) ∧ 
 (0 : Int) ≤ s5l2 ∧ (s5l2 : Int) < s1l2.n ∧ ∃ x_10 : Tapi_Decl, EltH H s1l2 s5l2 2 (cs_api_Decl x_10) ∧ 
 (¬ (x_3.fName = x_10.fName ∧ x_3.fSize = x_10.fSize) →
 K false H) ∧
 (x_3.fName = x_10.fName ∧ x_3.fSize = x_10.fSize →
 n2 (IntKind.wrap .i64 (s5l2 + 1)) H)) ∧
 (¬ (s5l2 < (s0l2.n : Int)) →
 T_gnomon_gnomonhelp_Decls_j1 H K)
def T_gnomon_gnomonhelp_Decls (x0 : Sl) (x1 : Sl) (H : Hp) (K : Bool → Hp → Prop) : Prop :=
 (¬ ((x0.n : Int) = (x1.n : Int)) →
 K false H) ∧
 ((x0.n : Int) = (x1.n : Int) →
 TL (0 : Int) H fun (s : Int) H n2 => T_gnomon_gnomonhelp_Decls_l2 x0 x1 s H n2 K)
theorem LF_gnomon_gnomonhelp_Decls (x0 : Sl) (x1 : Sl) {w0 w : World} {ps0 : Nat → Prop} {H0 H : Hp} {K : Bool → Hp → Prop} {R : Value → World → Prop} {E : Pan} (I : Inv w0 ps0 H0 H [] w) (hR : ∀ (r0 : Bool) (H' : Hp) (w' : World) (_ : Inv w0 ps0 H0 H' [] w') (_ : K r0 H'), R (Value.bool r0) w') (h : T_gnomon_gnomonhelp_Decls x0 x1 H K) : F24 (vs x0) (vs x1) w R E := by
 unfold T_gnomon_gnomonhelp_Decls at h
 unfold F24
 refine opK_pu (pu_len_23 _ _ _) ?_
 refine opK_pu (pu_len_23 _ _ _) ?_
 refine opK_pu (pu_neq _ _ _ _ _ _) ?_
 refine xcond_n (fun c_27 => ?_) (fun c_27 => ?_)
 ·replace h := h.1 c_27
  exact hR false H _ I h
 ·replace h := h.2 c_27
  have hj1 : ∀ (H : Hp) (w : World) (_ : Inv w0 ps0 H0 H [] w) (_ : T_gnomon_gnomonhelp_Decls_j1 H K), F24_j1 w R E := by
   intro H w I h
   unfold F24_j1
   intro _
   unfold T_gnomon_gnomonhelp_Decls_j1 at h
   exact hR true H _ I h
  refine xcut_i fun j1 hx1 => ?_
  obtain ⟨J_19, m_20, i_21, b_22⟩ := h
  refine xloop_J (J := fun n l w => ∃ (s : Int) (H : Hp) , n = m_20 s ∧ l = [(vi s)] ∧ Inv w0 ps0 H0 H [] w ∧ J_19 s H) ⟨_, 0, H, rfl, rfl, I, i_21⟩ ?_
  rintro n_23 τ_24 w next2 ⟨s5l2, H, rfl, l_25, I, s_26⟩ hn2
  simp only [List.map_cons, List.map_nil, List.cons.injEq, and_true] at l_25
  have e5 := l_25
  simp only [e5]
  obtain ⟨n2, hm2, h⟩ : ∃ n2 : Int → Hp → Prop, (∀ s' H', n2 s' H' → J_19 s' H' ∧ m_20 s' < m_20 s5l2) ∧ T_gnomon_gnomonhelp_Decls_l2 x0 x1 s5l2 H n2 K := ⟨_, fun _ _ h => h, b_22 s5l2 H (fun s' H' => J_19 s' H' ∧ m_20 s' < m_20 s5l2) s_26 (fun _ _ a b => ⟨a, b⟩)⟩
  unfold F24_l2
  unfold T_gnomon_gnomonhelp_Decls_l2 at h
  refine opK_pu (pu_len_23 _ _ _) ?_
  refine opK_pu (pu_lss _ _ _ _ _ _) ?_
  refine xcond_p (fun c_18 => ?_) (fun c_18 => ?_)
  ·replace h := h.1 c_18
   refine s_dX I fun w_1 I_2 => ?_
   obtain ⟨h_6, h_7, x_3, h_9, h⟩ := h
   obtain ⟨g_4, o_5, h_8, h_9⟩ := h_9
   refine qP_pu (pu_ix_23 h_8 _ _ _ _ h_6 h_7) ?_
   obtain ⟨h_13, h_14, x_10, h_16, h⟩ := h
   obtain ⟨g_11, o_12, h_15, h_16⟩ := h_16
   refine qP_pu (pu_ix_23 h_15 _ _ _ _ h_13 h_14) ?_
   refine qL_ld (ldA (vs := (cs_api_Decl x_3)) Try.isAgg60 Try.sizeOf60 rfl (I_2.atH h_9)) ?_
   refine qL_ld (ldA (vs := (cs_api_Decl x_10)) Try.isAgg60 Try.sizeOf60 rfl (I_2.atH h_16)) ?_
   refine qP_pu (pu_ne_60 _ _ _ _ _ _) ?_
   refine xcond_n (fun c_17 => ?_) (fun c_17 => ?_)
   ·replace h := h.1 c_17
    exact hR false H _ I_2 h
   ·replace h := h.2 c_17
    refine opK_pu (pu_add _ _ _ _ _ _) ?_
    exact hn2 _ _ _ (hm2 _ _ h).2 ⟨(IntKind.wrap .i64 (s5l2 + 1)), H, rfl, rfl, I_2, (hm2 _ _ h).1⟩
  ·replace h := h.2 c_18
   exact hx1 _ _ (hj1 H _ I h)
theorem L_gnomon_gnomonhelp_Decls (x0 : Sl) (x1 : Sl) {H : Hp} {K : Bool → Hp → Prop} (h : T_gnomon_gnomonhelp_Decls x0 x1 H K) : C_gnomon_gnomonhelp_Decls x0 x1 H K := by
 intro w I
 refine F24_ok ?_
 refine LF_gnomon_gnomonhelp_Decls x0 x1 I (fun r0 H' w' I' hk => ⟨H', _, I', r0, rfl, rfl, hk⟩) h


/- function 11: gnomon/gnomonhelp.Cfg -/
def T_gnomon_gnomonhelp_Cfg_j1 (_cr_6j1 : Tapi_Cfg) (_cr_1j1 : Tapi_Cfg) (H : Hp) (K : Bool → Hp → Prop) : Prop :=
 K true H
def T_gnomon_gnomonhelp_Cfg_l2 (cr_6l2 : Tapi_Cfg) (cr_1l2 : Tapi_Cfg) (s5l2 : Int) (H : Hp) (n2 : Int → Hp → Prop) (K : Bool → Hp → Prop) : Prop :=
 (s5l2 < (cr_1l2.fEdges.n : Int) →
 (0 : Int) ≤ s5l2 ∧ (s5l2 : Int) < cr_1l2.fEdges.n ∧ ∃ x_31 : Tapi_Edge, EltH H cr_1l2.fEdges s5l2 10 (cs_api_Edge x_31) ∧ 
 (0 : Int) ≤ s5l2 ∧ (s5l2 : Int) < cr_6l2.fEdges.n ∧ ∃ x_38 : Tapi_Edge, EltH H cr_6l2.fEdges s5l2 10 (cs_api_Edge x_38) ∧ 
 (¬ (x_31.fFrom = x_38.fFrom ∧ x_31.fTo = x_38.fTo ∧ x_31.fKind = x_38.fKind ∧ x_31.fDst = x_38.fDst ∧ x_31.fArr = x_38.fArr ∧ x_31.fOp = x_38.fOp ∧ x_31.fA.fVar = x_38.fA.fVar ∧ x_31.fA.fNum = x_38.fA.fNum ∧ x_31.fB.fVar = x_38.fB.fVar ∧ x_31.fB.fNum = x_38.fB.fNum) →
 K false H) ∧
 (x_31.fFrom = x_38.fFrom ∧ x_31.fTo = x_38.fTo ∧ x_31.fKind = x_38.fKind ∧ x_31.fDst = x_38.fDst ∧ x_31.fArr = x_38.fArr ∧ x_31.fOp = x_38.fOp ∧ x_31.fA.fVar = x_38.fA.fVar ∧ x_31.fA.fNum = x_38.fA.fNum ∧ x_31.fB.fVar = x_38.fB.fVar ∧ x_31.fB.fNum = x_38.fB.fNum →
 n2 (IntKind.wrap .i64 (s5l2 + 1)) H)) ∧
 (¬ (s5l2 < (cr_1l2.fEdges.n : Int)) →
 T_gnomon_gnomonhelp_Cfg_j1 cr_6l2 cr_1l2 H K)
def T_gnomon_gnomonhelp_Cfg (x0 : Tapi_Cfg) (x1 : Tapi_Cfg) (H : Hp) (K : Bool → Hp → Prop) : Prop :=
 C_gnomon_gnomonhelp_Texts x0.fVars x1.fVars H (fun (r0_19 : Bool) (H_11 : Hp) => 
 TG (((!r0_19) || (!decide (x0.fTemps = x1.fTemps))) = false) (C_gnomon_gnomonhelp_Decls x0.fArrays x1.fArrays H_11) false H_11 (fun (r0_28 : Bool) (H_20 : Hp) =>
 (((((((!r0_19) || (!decide (x0.fTemps = x1.fTemps))) || (!r0_28)) || (!decide (x0.fPoints = x1.fPoints))) || (!decide (x0.fExit = x1.fExit))) || (!decide ((x0.fEdges.n : Int) = (x1.fEdges.n : Int)))) = true →
 K false H_20) ∧
 (((((((!r0_19) || (!decide (x0.fTemps = x1.fTemps))) || (!r0_28)) || (!decide (x0.fPoints = x1.fPoints))) || (!decide (x0.fExit = x1.fExit))) || (!decide ((x0.fEdges.n : Int) = (x1.fEdges.n : Int)))) = false →
 TL (0 : Int) H_20 fun (s : Int) H n2 => T_gnomon_gnomonhelp_Cfg_l2 x1 x0 s H n2 K)))
theorem LF_gnomon_gnomonhelp_Cfg (x0 : Tapi_Cfg) (x1 : Tapi_Cfg) {w0 w : World} {ps0 : Nat → Prop} {H0 H : Hp} {K : Bool → Hp → Prop} {R : Value → World → Prop} {E : Pan} (I : Inv w0 ps0 H0 H [] w) (hR : ∀ (r0 : Bool) (H' : Hp) (w' : World) (_ : Inv w0 ps0 H0 H' [] w') (_ : K r0 H'), R (Value.bool r0) w') (h : T_gnomon_gnomonhelp_Cfg x0 x1 H K) : F11 (Value.agg (cs_api_Cfg x0).toArray) (Value.agg (cs_api_Cfg x1).toArray) w R E := by
 unfold T_gnomon_gnomonhelp_Cfg at h
 unfold F11
 refine s_box I (cs := (cs_api_Cfg x0)) rfl fun g_2 w_3 I_4 k_5 => ?_
 refine s_box I_4 (cs := (cs_api_Cfg x1)) rfl fun g_7 w_8 I_9 k_10 => ?_
 refine opK_pu pu_fa_26_0 ?_
 refine opK_ld (ld1 Try.isAgg22 ((I_9.bring 1).at1 (o := 0) (vs := [(vs x0.fVars)]) (nb rfl) rfl)) ?_
 refine opK_pu pu_fa_26_0 ?_
 refine opK_ld (ld1 Try.isAgg22 (I_9.at1 (o := 0) (vs := [(vs x1.fVars)]) (nb rfl) rfl)) ?_
 refine opK_calls (cap := []) (fun args w => Try.call23 args w) ?_
 refine Cv_ct (Fi := []) (Fr := [bx g_7 26 (cs_api_Cfg x1), bx g_2 26 (cs_api_Cfg x0)]) I_9 (h) (fun v_15 H_11 F_16 w_12 I_13 l_18 k_14 q_17 => ?_) (fun _ _ _ _ _ q => q.elim)
 obtain ⟨r0_19, rfl, rfl, h⟩ := q_17
 refine opK_pu (pu_not _) ?_
 refine opK_pu (Pu.g fun hb => by have hb_0 := hb; first | exact pu_fa_26_1 | (simp only [gval_t hb_0, gv_t hb_0, gv_t hb, gva_ft hb_0]; exact pu_fa_26_1) | (simp only [gval_t hb_0, gv_t hb_0, gv_t hb, gva_ff hb_0, gv_n]; exact pu_fa_26_1)) ?_
 refine opK_ld (Ld.g fun hb => by have hb_0 := hb; first | exact (ld1 Try.isAgg3 ((I_13.bring 1).at1 (o := 1) (vs := [(vi x0.fTemps)]) (nb rfl) rfl)) | (simp only [gv_t hb_0]; exact (ld1 Try.isAgg3 ((I_13.bring 1).at1 (o := 1) (vs := [(vi x0.fTemps)]) (nb rfl) rfl))) | (simp only [gval_t hb_0, gv_t hb_0, gv_t hb, gva_ff hb_0, gv_n]; exact (ld1 Try.isAgg3 ((I_13.bring 1).at1 (o := 1) (vs := [(vi x0.fTemps)]) (nb rfl) rfl)))) ?_
 refine opK_pu (Pu.g fun hb => by have hb_0 := hb; first | exact pu_fa_26_1 | (simp only [gval_t hb_0, gv_t hb_0, gv_t hb, gva_ft hb_0]; exact pu_fa_26_1) | (simp only [gval_t hb_0, gv_t hb_0, gv_t hb, gva_ff hb_0, gv_n]; exact pu_fa_26_1)) ?_
 refine opK_ld (Ld.g fun hb => by have hb_0 := hb; first | exact (ld1 Try.isAgg3 (I_13.at1 (o := 1) (vs := [(vi x1.fTemps)]) (nb rfl) rfl)) | (simp only [gv_t hb_0]; exact (ld1 Try.isAgg3 (I_13.at1 (o := 1) (vs := [(vi x1.fTemps)]) (nb rfl) rfl))) | (simp only [gval_t hb_0, gv_t hb_0, gv_t hb, gva_ff hb_0, gv_n]; exact (ld1 Try.isAgg3 (I_13.at1 (o := 1) (vs := [(vi x1.fTemps)]) (nb rfl) rfl)))) ?_
 refine opK_pu (Pu.g fun hb => by have hb_0 := hb; first | exact (pu_neq _ _ _ _ _ _) | (simp only [gv_t hb_0]; exact (pu_neq _ _ _ _ _ _)) | (simp only [gval_t hb_0, gv_t hb_0, gv_t hb, gva_ff hb_0, gv_n]; exact (pu_neq _ _ _ _ _ _))) ?_
 refine opK_pu (pu_or _ _) ?_
 refine opK_pu (Pu.g fun hb => by have hb_0 := hb; first | exact pu_fa_26_2 | (simp only [gval_t hb_0, gv_t hb_0, gv_t hb, gva_ft hb_0]; exact pu_fa_26_2) | (simp only [gval_t hb_0, gv_t hb_0, gv_t hb, gva_ff hb_0, gv_n]; exact pu_fa_26_2)) ?_
 refine opK_ld (Ld.g fun hb => by have hb_0 := hb; first | exact (ld1 Try.isAgg23 ((I_13.bring 1).at1 (o := 2) (vs := [(vs x0.fArrays)]) (nb rfl) rfl)) | (simp only [gv_t hb_0]; exact (ld1 Try.isAgg23 ((I_13.bring 1).at1 (o := 2) (vs := [(vs x0.fArrays)]) (nb rfl) rfl))) | (simp only [gval_t hb_0, gv_t hb_0, gv_t hb, gva_ff hb_0, gv_n]; exact (ld1 Try.isAgg23 ((I_13.bring 1).at1 (o := 2) (vs := [(vs x0.fArrays)]) (nb rfl) rfl)))) ?_
 refine opK_pu (Pu.g fun hb => by have hb_0 := hb; first | exact pu_fa_26_2 | (simp only [gval_t hb_0, gv_t hb_0, gv_t hb, gva_ft hb_0]; exact pu_fa_26_2) | (simp only [gval_t hb_0, gv_t hb_0, gv_t hb, gva_ff hb_0, gv_n]; exact pu_fa_26_2)) ?_
 refine opK_ld (Ld.g fun hb => by have hb_0 := hb; first | exact (ld1 Try.isAgg23 (I_13.at1 (o := 2) (vs := [(vs x1.fArrays)]) (nb rfl) rfl)) | (simp only [gv_t hb_0]; exact (ld1 Try.isAgg23 (I_13.at1 (o := 2) (vs := [(vs x1.fArrays)]) (nb rfl) rfl))) | (simp only [gval_t hb_0, gv_t hb_0, gv_t hb, gva_ff hb_0, gv_n]; exact (ld1 Try.isAgg23 (I_13.at1 (o := 2) (vs := [(vs x1.fArrays)]) (nb rfl) rfl)))) ?_
 refine opK_g2 (D := fun v_24 w_21 => ∃ (r0_28 : Bool) (H_20 : Hp), v_24 = (gv ((!r0_19) || (!decide (x0.fTemps = x1.fTemps))) false (Value.bool r0_28)) ∧ (Inv w0 ps0 H0 H_20 [bx g_7 26 (cs_api_Cfg x1), bx g_2 26 (cs_api_Cfg x0)] w_21) ∧ (∀ i, i < w_12.heap.size → ¬ inF [] i → w_21.heap[i]? = w_12.heap[i]?) ∧ Hle H_11 H_20 ∧ ((((((((!r0_19) || (!decide (x0.fTemps = x1.fTemps))) || (!r0_28)) || (!decide (x0.fPoints = x1.fPoints))) || (!decide (x0.fExit = x1.fExit))) || (!decide ((x0.fEdges.n : Int) = (x1.fEdges.n : Int)))) = true →
 K false H_20) ∧
 (((((((!r0_19) || (!decide (x0.fTemps = x1.fTemps))) || (!r0_28)) || (!decide (x0.fPoints = x1.fPoints))) || (!decide (x0.fExit = x1.fExit))) || (!decide ((x0.fEdges.n : Int) = (x1.fEdges.n : Int)))) = false →
 TL (0 : Int) H_20 fun (s : Int) H n2 => T_gnomon_gnomonhelp_Cfg_l2 x1 x0 s H n2 K))) (fun b_56 => ?_) (fun b_56 => ?_) ?_
 ·replace h := h.1 b_56
  have hb_0 := b_56
  try simp only [gv_t hb_0]
  refine opK_calls (cap := []) (fun args w => Try.call24 args w) ?_
  refine Cv_ct (Fi := []) (Fr := [bx g_7 26 (cs_api_Cfg x1), bx g_2 26 (cs_api_Cfg x0)]) I_13 (h) (fun v_24 H_20 F_25 w_21 I_22 l_27 k_23 q_26 => ?_) (fun _ _ _ _ _ q => q.elim)
  obtain ⟨r0_28, rfl, rfl, h⟩ := q_26
  exact ⟨r0_28, H_20, by first | rfl | rw [gv_t b_56], I_22, k_23, l_27, h⟩
 ·exact ⟨false, H_11, by first | rfl | rw [gv_f b_56], I_13, fun _ _ _ => rfl, Hle.refl _, h.2 b_56⟩
 ·clear h
  rintro v_24 w_21 ⟨r0_28, H_20, rfl, I_22, k_23, l_27, h⟩
  refine opK_pu (Pu.g fun hb => by have hb_0 := hb; first | exact (pu_not _) | (simp only [gv_t hb_0]; exact (pu_not _)) | (simp only [gval_t hb_0, gv_t hb_0, gv_t hb, gva_ff hb_0, gv_n]; exact (pu_not _))) ?_
  refine opK_pu (pu_or _ _) ?_
  refine opK_pu (Pu.g fun hb => by have hb_0 := hb; first | exact pu_fa_26_3 | (simp only [gval_t hb_0, gv_t hb_0, gv_t hb, gva_ft hb_0]; exact pu_fa_26_3) | (simp only [gval_t hb_0, gv_t hb_0, gv_t hb, gva_ff hb_0, gv_n]; exact pu_fa_26_3)) ?_
  refine opK_ld (Ld.g fun hb => by have hb_0 := hb; first | exact (ld1 Try.isAgg3 ((I_22.bring 1).at1 (o := 3) (vs := [(vi x0.fPoints)]) (nb rfl) rfl)) | (simp only [gv_t hb_0]; exact (ld1 Try.isAgg3 ((I_22.bring 1).at1 (o := 3) (vs := [(vi x0.fPoints)]) (nb rfl) rfl))) | (simp only [gval_t hb_0, gv_t hb_0, gv_t hb, gva_ff hb_0, gv_n]; exact (ld1 Try.isAgg3 ((I_22.bring 1).at1 (o := 3) (vs := [(vi x0.fPoints)]) (nb rfl) rfl)))) ?_
  refine opK_pu (Pu.g fun hb => by have hb_0 := hb; first | exact pu_fa_26_3 | (simp only [gval_t hb_0, gv_t hb_0, gv_t hb, gva_ft hb_0]; exact pu_fa_26_3) | (simp only [gval_t hb_0, gv_t hb_0, gv_t hb, gva_ff hb_0, gv_n]; exact pu_fa_26_3)) ?_
  refine opK_ld (Ld.g fun hb => by have hb_0 := hb; first | exact (ld1 Try.isAgg3 (I_22.at1 (o := 3) (vs := [(vi x1.fPoints)]) (nb rfl) rfl)) | (simp only [gv_t hb_0]; exact (ld1 Try.isAgg3 (I_22.at1 (o := 3) (vs := [(vi x1.fPoints)]) (nb rfl) rfl))) | (simp only [gval_t hb_0, gv_t hb_0, gv_t hb, gva_ff hb_0, gv_n]; exact (ld1 Try.isAgg3 (I_22.at1 (o := 3) (vs := [(vi x1.fPoints)]) (nb rfl) rfl)))) ?_
  refine opK_pu (Pu.g fun hb => by have hb_0 := hb; first | exact (pu_neq _ _ _ _ _ _) | (simp only [gv_t hb_0]; exact (pu_neq _ _ _ _ _ _)) | (simp only [gval_t hb_0, gv_t hb_0, gv_t hb, gva_ff hb_0, gv_n]; exact (pu_neq _ _ _ _ _ _))) ?_
  refine opK_pu (pu_or _ _) ?_
  refine opK_pu (Pu.g fun hb => by have hb_0 := hb; first | exact pu_fa_26_4 | (simp only [gval_t hb_0, gv_t hb_0, gv_t hb, gva_ft hb_0]; exact pu_fa_26_4) | (simp only [gval_t hb_0, gv_t hb_0, gv_t hb, gva_ff hb_0, gv_n]; exact pu_fa_26_4)) ?_
  refine opK_ld (Ld.g fun hb => by have hb_0 := hb; first | exact (ld1 Try.isAgg3 ((I_22.bring 1).at1 (o := 4) (vs := [(vi x0.fExit)]) (nb rfl) rfl)) | (simp only [gv_t hb_0]; exact (ld1 Try.isAgg3 ((I_22.bring 1).at1 (o := 4) (vs := [(vi x0.fExit)]) (nb rfl) rfl))) | (simp only [gval_t hb_0, gv_t hb_0, gv_t hb, gva_ff hb_0, gv_n]; exact (ld1 Try.isAgg3 ((I_22.bring 1).at1 (o := 4) (vs := [(vi x0.fExit)]) (nb rfl) rfl)))) ?_
  refine opK_pu (Pu.g fun hb => by have hb_0 := hb; first | exact pu_fa_26_4 | (simp only [gval_t hb_0, gv_t hb_0, gv_t hb, gva_ft hb_0]; exact pu_fa_26_4) | (simp only [gval_t hb_0, gv_t hb_0, gv_t hb, gva_ff hb_0, gv_n]; exact pu_fa_26_4)) ?_
  refine opK_ld (Ld.g fun hb => by have hb_0 := hb; first | exact (ld1 Try.isAgg3 (I_22.at1 (o := 4) (vs := [(vi x1.fExit)]) (nb rfl) rfl)) | (simp only [gv_t hb_0]; exact (ld1 Try.isAgg3 (I_22.at1 (o := 4) (vs := [(vi x1.fExit)]) (nb rfl) rfl))) | (simp only [gval_t hb_0, gv_t hb_0, gv_t hb, gva_ff hb_0, gv_n]; exact (ld1 Try.isAgg3 (I_22.at1 (o := 4) (vs := [(vi x1.fExit)]) (nb rfl) rfl)))) ?_
  refine opK_pu (Pu.g fun hb => by have hb_0 := hb; first | exact (pu_neq _ _ _ _ _ _) | (simp only [gv_t hb_0]; exact (pu_neq _ _ _ _ _ _)) | (simp only [gval_t hb_0, gv_t hb_0, gv_t hb, gva_ff hb_0, gv_n]; exact (pu_neq _ _ _ _ _ _))) ?_
  refine opK_pu (pu_or _ _) ?_
  refine opK_pu (Pu.g fun hb => by have hb_0 := hb; first | exact pu_fa_26_5 | (simp only [gval_t hb_0, gv_t hb_0, gv_t hb, gva_ft hb_0]; exact pu_fa_26_5) | (simp only [gval_t hb_0, gv_t hb_0, gv_t hb, gva_ff hb_0, gv_n]; exact pu_fa_26_5)) ?_
  refine opK_ld (Ld.g fun hb => by have hb_0 := hb; first | exact (ld1 Try.isAgg24 ((I_22.bring 1).at1 (o := 5) (vs := [(vs x0.fEdges)]) (nb rfl) rfl)) | (simp only [gv_t hb_0]; exact (ld1 Try.isAgg24 ((I_22.bring 1).at1 (o := 5) (vs := [(vs x0.fEdges)]) (nb rfl) rfl))) | (simp only [gval_t hb_0, gv_t hb_0, gv_t hb, gva_ff hb_0, gv_n]; exact (ld1 Try.isAgg24 ((I_22.bring 1).at1 (o := 5) (vs := [(vs x0.fEdges)]) (nb rfl) rfl)))) ?_
  refine opK_pu (Pu.g fun hb => by have hb_0 := hb; first | exact (pu_len_24 _ _ _) | (simp only [gv_t hb_0]; exact (pu_len_24 _ _ _)) | (simp only [gval_t hb_0, gv_t hb_0, gv_t hb, gva_ff hb_0, gv_n]; exact (pu_len_24 _ _ _))) ?_
  refine opK_pu (Pu.g fun hb => by have hb_0 := hb; first | exact pu_fa_26_5 | (simp only [gval_t hb_0, gv_t hb_0, gv_t hb, gva_ft hb_0]; exact pu_fa_26_5) | (simp only [gval_t hb_0, gv_t hb_0, gv_t hb, gva_ff hb_0, gv_n]; exact pu_fa_26_5)) ?_
  refine opK_ld (Ld.g fun hb => by have hb_0 := hb; first | exact (ld1 Try.isAgg24 (I_22.at1 (o := 5) (vs := [(vs x1.fEdges)]) (nb rfl) rfl)) | (simp only [gv_t hb_0]; exact (ld1 Try.isAgg24 (I_22.at1 (o := 5) (vs := [(vs x1.fEdges)]) (nb rfl) rfl))) | (simp only [gval_t hb_0, gv_t hb_0, gv_t hb, gva_ff hb_0, gv_n]; exact (ld1 Try.isAgg24 (I_22.at1 (o := 5) (vs := [(vs x1.fEdges)]) (nb rfl) rfl)))) ?_
  refine opK_pu (Pu.g fun hb => by have hb_0 := hb; first | exact (pu_len_24 _ _ _) | (simp only [gv_t hb_0]; exact (pu_len_24 _ _ _)) | (simp only [gval_t hb_0, gv_t hb_0, gv_t hb, gva_ff hb_0, gv_n]; exact (pu_len_24 _ _ _))) ?_
  refine opK_pu (Pu.g fun hb => by have hb_0 := hb; first | exact (pu_neq _ _ _ _ _ _) | (simp only [gv_t hb_0]; exact (pu_neq _ _ _ _ _ _)) | (simp only [gval_t hb_0, gv_t hb_0, gv_t hb, gva_ff hb_0, gv_n]; exact (pu_neq _ _ _ _ _ _))) ?_
  refine opK_pu (pu_or _ _) ?_
  refine xcond_b (fun c_55 => ?_) (fun c_55 => ?_)
  ·replace h := h.1 c_55
   exact hR false H_20 _ I_22.drop.drop h
  ·replace h := h.2 c_55
   have hj1 : ∀ (H : Hp) (w : World) (_ : Inv w0 ps0 H0 H [bx g_7 26 (cs_api_Cfg x1), bx g_2 26 (cs_api_Cfg x0)] w) (_ : T_gnomon_gnomonhelp_Cfg_j1 x1 x0 H K), F11_j1 w R E := by
    intro H w I h
    unfold F11_j1
    intro _
    unfold T_gnomon_gnomonhelp_Cfg_j1 at h
    exact hR true H _ I.drop.drop h
   refine xcut_i fun j1 hx1 => ?_
   obtain ⟨J_47, m_48, i_49, b_50⟩ := h
   refine xloop_J (J := fun n l w => ∃ (s : Int) (H : Hp) , n = m_48 s ∧ l = [(vi s)] ∧ Inv w0 ps0 H0 H [bx g_7 26 (cs_api_Cfg x1), bx g_2 26 (cs_api_Cfg x0)] w ∧ J_47 s H) ⟨_, 0, H_20, rfl, rfl, ((I_22.bring 1).bring 1), i_49⟩ ?_
   rintro n_51 τ_52 w next2 ⟨s5l2, H, rfl, l_53, I, s_54⟩ hn2
   simp only [List.map_cons, List.map_nil, List.cons.injEq, and_true] at l_53
   have e5 := l_53
   simp only [e5]
   obtain ⟨n2, hm2, h⟩ : ∃ n2 : Int → Hp → Prop, (∀ s' H', n2 s' H' → J_47 s' H' ∧ m_48 s' < m_48 s5l2) ∧ T_gnomon_gnomonhelp_Cfg_l2 x1 x0 s5l2 H n2 K := ⟨_, fun _ _ h => h, b_50 s5l2 H (fun s' H' => J_47 s' H' ∧ m_48 s' < m_48 s5l2) s_54 (fun _ _ a b => ⟨a, b⟩)⟩
   unfold F11_l2
   unfold T_gnomon_gnomonhelp_Cfg_l2 at h
   refine opK_pu pu_fa_26_5 ?_
   refine opK_ld (ld1 Try.isAgg24 ((I.bring 1).at1 (o := 5) (vs := [(vs x0.fEdges)]) (nb rfl) rfl)) ?_
   refine opK_pu (pu_len_24 _ _ _) ?_
   refine opK_pu (pu_lss _ _ _ _ _ _) ?_
   refine xcond_p (fun c_46 => ?_) (fun c_46 => ?_)
   ·replace h := h.1 c_46
    refine s_dX I fun w_29 I_30 => ?_
    refine qP_pu pu_fa_26_5 ?_
    refine qP_pu pu_fa_26_5 ?_
    refine qL_ld (ld1 Try.isAgg24 ((I_30.bring 1).at1 (o := 5) (vs := [(vs x0.fEdges)]) (nb rfl) rfl)) ?_
    obtain ⟨h_34, h_35, x_31, h_37, h⟩ := h
    obtain ⟨g_32, o_33, h_36, h_37⟩ := h_37
    refine qP_pu (pu_ix_24 h_36 _ _ _ _ h_34 h_35) ?_
    refine qL_ld (ldA (vs := (cs_api_Edge x_31)) Try.isAgg52 Try.sizeOf52 rfl (I_30.atH h_37)) ?_
    refine qL_ld (ld1 Try.isAgg24 (I_30.at1 (o := 5) (vs := [(vs x1.fEdges)]) (nb rfl) rfl)) ?_
    obtain ⟨h_41, h_42, x_38, h_44, h⟩ := h
    obtain ⟨g_39, o_40, h_43, h_44⟩ := h_44
    refine qP_pu (pu_ix_24 h_43 _ _ _ _ h_41 h_42) ?_
    refine qL_ld (ldA (vs := (cs_api_Edge x_38)) Try.isAgg52 Try.sizeOf52 rfl (I_30.atH h_44)) ?_
    refine qP_pu (pu_ne_52 _ _ _ _ _ _ _ _ _ _ _ _ _ _ _ _ _ _ _ _ _ _) ?_
    refine xcond_n (fun c_45 => ?_) (fun c_45 => ?_)
    ·replace h := h.1 c_45
     exact hR false H _ I_30.drop.drop h
    ·replace h := h.2 c_45
     refine opK_pu (pu_add _ _ _ _ _ _) ?_
     exact hn2 _ _ _ (hm2 _ _ h).2 ⟨(IntKind.wrap .i64 (s5l2 + 1)), H, rfl, rfl, ((I_30.bring 1).bring 1), (hm2 _ _ h).1⟩
   ·replace h := h.2 c_46
    exact hx1 _ _ (hj1 H _ ((I.bring 1).bring 1) h)
theorem L_gnomon_gnomonhelp_Cfg (x0 : Tapi_Cfg) (x1 : Tapi_Cfg) {H : Hp} {K : Bool → Hp → Prop} (h : T_gnomon_gnomonhelp_Cfg x0 x1 H K) : C_gnomon_gnomonhelp_Cfg x0 x1 H K := by
 intro w I
 refine F11_ok ?_
 refine LF_gnomon_gnomonhelp_Cfg x0 x1 I (fun r0 H' w' I' hk => ⟨H', _, I', r0, rfl, rfl, hk⟩) h


/- function 3: gnomon/gnomonlaw10.StepExact -/
def T_gnomon_gnomonlaw10_StepExact (x0 : Tapi_Cfg) (x1 : Sl) (x2 : Int) (H : Hp) (K : Bool → Hp → Prop) : Prop :=
 C_gnomon_gnomonlaw10_known H (fun (r0_14 : Bool) (H_6 : Hp) => 
 ((!r0_14) = true →
 K false H_6) ∧
 ((!r0_14) = false →
 C_gnomon_gnomonlaw10_few x1 x2 H_6 (fun (r0_23 : Bool) (H_15 : Hp) => 
 ((!r0_23) = true →
 K true H_15) ∧
 ((!r0_23) = false →
 C_gnomon_gnomonhelp_CopyCfg x0 H_15 (fun (r0_32 : Tapi_Cfg) (H_24 : Hp) => 
 ∃ ys_41 : List Int, SlH H_24 1 cs_int64 x1 ys_41 ∧ (([] : List Int).length + ys_41.length) * 9 ≤ 140737488355328 ∧
 ∀ (s_34 : Sl) (H_51 : Hp), Hle H_24 H_51 → SlH H_51 1 cs_int64 s_34 ys_41 → s_34.n ≤ s_34.c →
 C_gnomon_step_Run r0_32 s_34 x2 H_51 (fun (r0_64 : Tapi_Outcome) (r1_64 : Int) (r2_64 : Int) (H_56 : Hp) => 
 C_gnomon_gnomonref10_Run x0 x1 x2 H_56 (fun (r0_81 : Tapi_Outcome) (r1_81 : Int) (r2_81 : Int) (H_73 : Hp) => 
 TG (((decide (r2_64 = r2_81)) && (decide (r1_64 = r1_81))) = true) (C_gnomon_gnomonhelp_Outcome r0_64 r0_81 H_73) false H_73 (fun (r0_98 : Bool) (H_90 : Hp) =>
 TG ((((decide (r2_64 = r2_81)) && (decide (r1_64 = r1_81))) && r0_98) = true) (C_gnomon_gnomonhelp_Cfg r0_32 x0 H_90) false H_90 (fun (r0_107 : Bool) (H_99 : Hp) =>
 TG (((((decide (r2_64 = r2_81)) && (decide (r1_64 = r1_81))) && r0_98) && r0_107) = true) (C_gnomon_gnomonhelp_Longs s_34 x1 H_99) false H_99 (fun (r0_116 : Bool) (H_108 : Hp) =>
 K (((((decide (r2_64 = r2_81)) && (decide (r1_64 = r1_81))) && r0_98) && r0_107) && r0_116) H_108))))))))))
theorem LF_gnomon_gnomonlaw10_StepExact (x0 : Tapi_Cfg) (x1 : Sl) (x2 : Int) {w0 w : World} {ps0 : Nat → Prop} {H0 H : Hp} {K : Bool → Hp → Prop} {R : Value → World → Prop} {E : Pan} (I : Inv w0 ps0 H0 H [] w) (hR : ∀ (r0 : Bool) (H' : Hp) (w' : World) (_ : Inv w0 ps0 H0 H' [] w') (_ : K r0 H'), R (Value.bool r0) w') (h : T_gnomon_gnomonlaw10_StepExact x0 x1 x2 H K) : F3 (Value.agg (cs_api_Cfg x0).toArray) (vs x1) (vi x2) w R E := by
 unfold T_gnomon_gnomonlaw10_StepExact at h
 unfold F3
 refine s_box I (cs := (cs_api_Cfg x0)) rfl fun g_2 w_3 I_4 k_5 => ?_
 refine opK_calls (cap := []) (fun args w => Try.call5 args w) ?_
 refine Cv_ct (Fi := []) (Fr := [bx g_2 26 (cs_api_Cfg x0)]) I_4 (h) (fun v_10 H_6 F_11 w_7 I_8 l_13 k_9 q_12 => ?_) (fun _ _ _ _ _ q => q.elim)
 obtain ⟨r0_14, rfl, rfl, h⟩ := q_12
 refine opK_pu (pu_not _) ?_
 refine xcond_b (fun c_121 => ?_) (fun c_121 => ?_)
 ·replace h := h.1 c_121
  exact hR false H_6 _ I_8.drop h
 ·replace h := h.2 c_121
  refine opK_calls (cap := []) (fun args w => Try.call6 args w) ?_
  refine Cv_ct (Fi := []) (Fr := [bx g_2 26 (cs_api_Cfg x0)]) I_8 (h) (fun v_19 H_15 F_20 w_16 I_17 l_22 k_18 q_21 => ?_) (fun _ _ _ _ _ q => q.elim)
  obtain ⟨r0_23, rfl, rfl, h⟩ := q_21
  refine opK_pu (pu_not _) ?_
  refine xcond_b (fun c_120 => ?_) (fun c_120 => ?_)
  ·replace h := h.1 c_120
   exact hR true H_15 _ I_17.drop h
  ·replace h := h.2 c_120
   refine opK_ld (ldA Try.isAgg26 Try.sizeOf26 rfl (I_17.at1 (o := 0) (vs := (cs_api_Cfg x0)) (nb rfl) rfl)) ?_
   refine opK_calls (cap := []) (fun args w => Try.call7 args w) ?_
   refine Cv_ct (Fi := []) (Fr := [bx g_2 26 (cs_api_Cfg x0)]) I_17 (h) (fun v_28 H_24 F_29 w_25 I_26 l_31 k_27 q_30 => ?_) (fun _ _ _ _ _ q => q.elim)
   obtain ⟨r0_32, rfl, rfl, h⟩ := q_30
   obtain ⟨ys_41, h_42, h⟩ := h
   obtain ⟨h_40, h⟩ := h
   refine app_27 (s := ⟨none, 0, 0⟩) (xs := []) I_26.nil (RowL.nil cs_int64_l cs_int64_o) (SlH.src I_26.nil h_42 cs_int64_l) h_40 fun s_34 F_35 w_36 h_37 I_38 k_39 => ?_
   simp only [List.nil_append] at h_37
   refine s_alloc I_38 Try.zeroValue26 (cs := [(Value.slice none 0 0), (vi 0), (Value.slice none 0 0), (vi 0), (vi 0), (Value.slice none 0 0)]) rfl fun g_44 w_45 I_46 k_47 => ?_
   refine s_store I_46 Try.sizeOf26 (vs := (cs_api_Cfg r0_32)) (cs' := (cs_api_Cfg r0_32)) rfl rfl (nb rfl) rfl rfl fun w_48 I_49 k_50 => ?_
   refine opK_ld (ldA Try.isAgg26 Try.sizeOf26 rfl (I_49.at1 (o := 0) (vs := (cs_api_Cfg r0_32)) (nb rfl) rfl)) ?_
   obtain ⟨H_51, I_52, l_53, h_54, h_55⟩ := Inv.freezeC (I_49.bring 1) h_37 (by decide)
   replace h := h s_34 H_51 l_53 h_54 h_55
   refine opK_calls (cap := []) (fun args w => Try.call8 args w) ?_
   refine Cv_ct (Fi := []) (Fr := [bx g_44 26 (cs_api_Cfg r0_32), bx g_2 26 (cs_api_Cfg x0)]) I_52 (h) (fun v_60 H_56 F_61 w_57 I_58 l_63 k_59 q_62 => ?_) (fun _ _ _ _ _ q => q.elim)
   obtain ⟨r0_64, r1_64, r2_64, rfl, rfl, h⟩ := q_62
   refine opK_pu (pu_extract _ _ _ rfl) ?_
   refine opK_pu (pu_extract _ _ _ rfl) ?_
   refine opK_pu (pu_extract _ _ _ rfl) ?_
   refine s_alloc I_58 Try.zeroValue34 (cs := [(vi 0), (vi 0), (vi 0), (Value.slice none 0 0), (Value.slice none 0 0), (Value.slice none 0 0)]) rfl fun g_66 w_67 I_68 k_69 => ?_
   refine s_store I_68 Try.sizeOf34 (vs := (cs_api_Outcome r0_64)) (cs' := (cs_api_Outcome r0_64)) rfl rfl (nb rfl) rfl rfl fun w_70 I_71 k_72 => ?_
   refine opK_ld (ldA Try.isAgg26 Try.sizeOf26 rfl ((I_71.bring 2).at1 (o := 0) (vs := (cs_api_Cfg x0)) (nb rfl) rfl)) ?_
   refine opK_calls (cap := []) (fun args w => Try.call9 args w) ?_
   refine Cv_ct (Fi := []) (Fr := [bx g_66 34 (cs_api_Outcome r0_64), bx g_44 26 (cs_api_Cfg r0_32), bx g_2 26 (cs_api_Cfg x0)]) I_71 (h) (fun v_77 H_73 F_78 w_74 I_75 l_80 k_76 q_79 => ?_) (fun _ _ _ _ _ q => q.elim)
   obtain ⟨r0_81, r1_81, r2_81, rfl, rfl, h⟩ := q_79
   refine opK_pu (pu_extract _ _ _ rfl) ?_
   refine opK_pu (pu_extract _ _ _ rfl) ?_
   refine opK_pu (pu_extract _ _ _ rfl) ?_
   refine s_alloc I_75 Try.zeroValue34 (cs := [(vi 0), (vi 0), (vi 0), (Value.slice none 0 0), (Value.slice none 0 0), (Value.slice none 0 0)]) rfl fun g_83 w_84 I_85 k_86 => ?_
   refine s_store I_85 Try.sizeOf34 (vs := (cs_api_Outcome r0_81)) (cs' := (cs_api_Outcome r0_81)) rfl rfl (nb rfl) rfl rfl fun w_87 I_88 k_89 => ?_
   refine opK_pu (pu_eql _ _ _ _ _ _) ?_
   try simp only [gval_b]
   try simp only [gval_b, gv_gv, gvl_tt, gvl_tf, gvl_ft, gvl_ff, gvg_tt, gvg_tf, gvg_ft, gvg_ff]
   refine opK_pu (Pu.g fun hb => by have hb_0 := hb; first | exact (pu_eql _ _ _ _ _ _) | (simp only [gv_t hb_0]; exact (pu_eql _ _ _ _ _ _)) | (simp only [gval_t hb_0, gv_t hb_0, gv_t hb, gva_tf hb_0, gv_n]; exact (pu_eql _ _ _ _ _ _))) ?_
   refine opK_pu (pu_and _ _) ?_
   refine opK_ld (Ld.g fun hb => by have hb_0 := hb; first | exact (ldA Try.isAgg34 Try.sizeOf34 rfl ((I_88.bring 1).at1 (o := 0) (vs := (cs_api_Outcome r0_64)) (nb rfl) rfl)) | (simp only [gval_t hb_0, gv_t hb_0, gv_t hb, gva_tt hb_0]; exact (ldA Try.isAgg34 Try.sizeOf34 rfl ((I_88.bring 1).at1 (o := 0) (vs := (cs_api_Outcome r0_64)) (nb rfl) rfl))) | (simp only [gval_t hb_0, gv_t hb_0, gv_t hb, gva_tf hb_0, gv_n]; exact (ldA Try.isAgg34 Try.sizeOf34 rfl ((I_88.bring 1).at1 (o := 0) (vs := (cs_api_Outcome r0_64)) (nb rfl) rfl)))) ?_
   refine opK_ld (Ld.g fun hb => by have hb_0 := hb; first | exact (ldA Try.isAgg34 Try.sizeOf34 rfl (I_88.at1 (o := 0) (vs := (cs_api_Outcome r0_81)) (nb rfl) rfl)) | (simp only [gval_t hb_0, gv_t hb_0, gv_t hb, gva_tt hb_0]; exact (ldA Try.isAgg34 Try.sizeOf34 rfl (I_88.at1 (o := 0) (vs := (cs_api_Outcome r0_81)) (nb rfl) rfl))) | (simp only [gval_t hb_0, gv_t hb_0, gv_t hb, gva_tf hb_0, gv_n]; exact (ldA Try.isAgg34 Try.sizeOf34 rfl (I_88.at1 (o := 0) (vs := (cs_api_Outcome r0_81)) (nb rfl) rfl)))) ?_
   refine opK_g2 (D := fun v_94 w_91 => ∃ (r0_98 : Bool) (H_90 : Hp), v_94 = (gv ((decide (r2_64 = r2_81)) && (decide (r1_64 = r1_81))) true (Value.bool r0_98)) ∧ (Inv w0 ps0 H0 H_90 [bx g_83 34 (cs_api_Outcome r0_81), bx g_66 34 (cs_api_Outcome r0_64), bx g_44 26 (cs_api_Cfg r0_32), bx g_2 26 (cs_api_Cfg x0)] w_91) ∧ (∀ i, i < w_87.heap.size → ¬ inF [] i → w_91.heap[i]? = w_87.heap[i]?) ∧ Hle H_73 H_90 ∧ (TG ((((decide (r2_64 = r2_81)) && (decide (r1_64 = r1_81))) && r0_98) = true) (C_gnomon_gnomonhelp_Cfg r0_32 x0 H_90) false H_90 (fun (r0_107 : Bool) (H_99 : Hp) =>
 TG (((((decide (r2_64 = r2_81)) && (decide (r1_64 = r1_81))) && r0_98) && r0_107) = true) (C_gnomon_gnomonhelp_Longs s_34 x1 H_99) false H_99 (fun (r0_116 : Bool) (H_108 : Hp) =>
 K (((((decide (r2_64 = r2_81)) && (decide (r1_64 = r1_81))) && r0_98) && r0_107) && r0_116) H_108)))) (fun b_119 => ?_) (fun b_119 => ?_) ?_
   ·replace h := h.1 b_119
    have hb_0 := b_119
    try simp only [gv_t hb_0]
    refine opK_calls (cap := []) (fun args w => Try.call10 args w) ?_
    refine Cv_ct (Fi := []) (Fr := [bx g_83 34 (cs_api_Outcome r0_81), bx g_66 34 (cs_api_Outcome r0_64), bx g_44 26 (cs_api_Cfg r0_32), bx g_2 26 (cs_api_Cfg x0)]) I_88 (h) (fun v_94 H_90 F_95 w_91 I_92 l_97 k_93 q_96 => ?_) (fun _ _ _ _ _ q => q.elim)
    obtain ⟨r0_98, rfl, rfl, h⟩ := q_96
    exact ⟨r0_98, H_90, by first | rfl | rw [gv_t b_119], I_92, k_93, l_97, h⟩
   ·exact ⟨false, H_73, by first | rfl | rw [gv_f b_119], I_88, fun _ _ _ => rfl, Hle.refl _, h.2 b_119⟩
   ·clear h
    rintro v_94 w_91 ⟨r0_98, H_90, rfl, I_92, k_93, l_97, h⟩
    refine opK_pu (pu_and _ _) ?_
    refine opK_ld (Ld.g fun hb => by have hb_0 := hb; first | exact (ldA Try.isAgg26 Try.sizeOf26 rfl ((I_92.bring 2).at1 (o := 0) (vs := (cs_api_Cfg r0_32)) (nb rfl) rfl)) | (simp only [gval_t hb_0, gv_t hb_0, gv_t hb, gva_tt hb_0]; exact (ldA Try.isAgg26 Try.sizeOf26 rfl ((I_92.bring 2).at1 (o := 0) (vs := (cs_api_Cfg r0_32)) (nb rfl) rfl))) | (simp only [gval_t hb_0, gv_t hb_0, gv_t hb, gva_tf hb_0, gv_n]; exact (ldA Try.isAgg26 Try.sizeOf26 rfl ((I_92.bring 2).at1 (o := 0) (vs := (cs_api_Cfg r0_32)) (nb rfl) rfl)))) ?_
    refine opK_ld (Ld.g fun hb => by have hb_0 := hb; first | exact (ldA Try.isAgg26 Try.sizeOf26 rfl ((I_92.bring 3).at1 (o := 0) (vs := (cs_api_Cfg x0)) (nb rfl) rfl)) | (simp only [gval_t hb_0, gv_t hb_0, gv_t hb, gva_tt hb_0]; exact (ldA Try.isAgg26 Try.sizeOf26 rfl ((I_92.bring 3).at1 (o := 0) (vs := (cs_api_Cfg x0)) (nb rfl) rfl))) | (simp only [gval_t hb_0, gv_t hb_0, gv_t hb, gva_tf hb_0, gv_n]; exact (ldA Try.isAgg26 Try.sizeOf26 rfl ((I_92.bring 3).at1 (o := 0) (vs := (cs_api_Cfg x0)) (nb rfl) rfl)))) ?_
    refine opK_g2 (D := fun v_103 w_100 => ∃ (r0_107 : Bool) (H_99 : Hp), v_103 = (gv (((decide (r2_64 = r2_81)) && (decide (r1_64 = r1_81))) && r0_98) true (Value.bool r0_107)) ∧ (Inv w0 ps0 H0 H_99 [bx g_83 34 (cs_api_Outcome r0_81), bx g_66 34 (cs_api_Outcome r0_64), bx g_44 26 (cs_api_Cfg r0_32), bx g_2 26 (cs_api_Cfg x0)] w_100) ∧ (∀ i, i < w_91.heap.size → ¬ inF [] i → w_100.heap[i]? = w_91.heap[i]?) ∧ Hle H_90 H_99 ∧ (TG (((((decide (r2_64 = r2_81)) && (decide (r1_64 = r1_81))) && r0_98) && r0_107) = true) (C_gnomon_gnomonhelp_Longs s_34 x1 H_99) false H_99 (fun (r0_116 : Bool) (H_108 : Hp) =>
 K (((((decide (r2_64 = r2_81)) && (decide (r1_64 = r1_81))) && r0_98) && r0_107) && r0_116) H_108))) (fun b_118 => ?_) (fun b_118 => ?_) ?_
    ·replace h := h.1 b_118
     have hb_0 := b_118
     try simp only [gv_t hb_0]
     refine opK_calls (cap := []) (fun args w => Try.call11 args w) ?_
     refine Cv_ct (Fi := []) (Fr := [bx g_83 34 (cs_api_Outcome r0_81), bx g_66 34 (cs_api_Outcome r0_64), bx g_44 26 (cs_api_Cfg r0_32), bx g_2 26 (cs_api_Cfg x0)]) I_92 (h) (fun v_103 H_99 F_104 w_100 I_101 l_106 k_102 q_105 => ?_) (fun _ _ _ _ _ q => q.elim)
     obtain ⟨r0_107, rfl, rfl, h⟩ := q_105
     exact ⟨r0_107, H_99, by first | rfl | rw [gv_t b_118], I_101, k_102, l_106, h⟩
    ·exact ⟨false, H_90, by first | rfl | rw [gv_f b_118], I_92, fun _ _ _ => rfl, Hle.refl _, h.2 b_118⟩
    ·clear h
     rintro v_103 w_100 ⟨r0_107, H_99, rfl, I_101, k_102, l_106, h⟩
     refine opK_pu (pu_and _ _) ?_
     try simp only [gval_b]
     try simp only [gval_b, gv_gv, gvl_tt, gvl_tf, gvl_ft, gvl_ff, gvg_tt, gvg_tf, gvg_ft, gvg_ff]
     refine opK_g2 (D := fun v_112 w_109 => ∃ (r0_116 : Bool) (H_108 : Hp), v_112 = (gv ((((decide (r2_64 = r2_81)) && (decide (r1_64 = r1_81))) && r0_98) && r0_107) true (Value.bool r0_116)) ∧ (Inv w0 ps0 H0 H_108 [bx g_83 34 (cs_api_Outcome r0_81), bx g_66 34 (cs_api_Outcome r0_64), bx g_44 26 (cs_api_Cfg r0_32), bx g_2 26 (cs_api_Cfg x0)] w_109) ∧ (∀ i, i < w_100.heap.size → ¬ inF [] i → w_109.heap[i]? = w_100.heap[i]?) ∧ Hle H_99 H_108 ∧ (K (((((decide (r2_64 = r2_81)) && (decide (r1_64 = r1_81))) && r0_98) && r0_107) && r0_116) H_108)) (fun b_117 => ?_) (fun b_117 => ?_) ?_
     ·replace h := h.1 b_117
      have hb_0 := b_117
      try simp only [gv_t hb_0]
      refine opK_calls (cap := []) (fun args w => Try.call12 args w) ?_
      refine Cv_ct (Fi := []) (Fr := [bx g_83 34 (cs_api_Outcome r0_81), bx g_66 34 (cs_api_Outcome r0_64), bx g_44 26 (cs_api_Cfg r0_32), bx g_2 26 (cs_api_Cfg x0)]) I_101 (h) (fun v_112 H_108 F_113 w_109 I_110 l_115 k_111 q_114 => ?_) (fun _ _ _ _ _ q => q.elim)
      obtain ⟨r0_116, rfl, rfl, h⟩ := q_114
      exact ⟨r0_116, H_108, by first | rfl | rw [gv_t b_117], I_110, k_111, l_115, h⟩
     ·exact ⟨false, H_99, by first | rfl | rw [gv_f b_117], I_101, fun _ _ _ => rfl, Hle.refl _, h.2 b_117⟩
     ·clear h
      rintro v_112 w_109 ⟨r0_116, H_108, rfl, I_110, k_111, l_115, h⟩
      refine opK_pu (pu_and _ _) ?_
      exact hR (((((decide (r2_64 = r2_81)) && (decide (r1_64 = r1_81))) && r0_98) && r0_107) && r0_116) H_108 _ I_110.drop.drop.drop.drop h
theorem L_gnomon_gnomonlaw10_StepExact (x0 : Tapi_Cfg) (x1 : Sl) (x2 : Int) {H : Hp} {K : Bool → Hp → Prop} (h : T_gnomon_gnomonlaw10_StepExact x0 x1 x2 H K) : C_gnomon_gnomonlaw10_StepExact x0 x1 x2 H K := by
 intro w I
 refine F3_ok ?_
 refine LF_gnomon_gnomonlaw10_StepExact x0 x1 x2 I (fun r0 H' w' I' hk => ⟨H', _, I', r0, rfl, rfl, hk⟩) h


end Go.Proofs.Ytgapepdglhcglaa
