/-
  Typed formulas of the program's functions that few laws need; printed by lift.py off the code.
-/
import Derived.Test.YtgapepdglhcglaaV1
import Derived.Test.YtgapepdglhcglaaG1z
namespace Go.Proofs.Ytgapepdglhcglaa
open Go.RowKit
set_option maxRecDepth 100000
set_option maxHeartbeats 2000000

/- function 26: gnomon/gnomonref9.Out -/
def T_gnomon_gnomonref9_Out_j3 (_s1j3 : Int) (cs5j3 : (List Int)) (s6j3 : Int) (_cr_1j3 : Tapi_Cfg) (H : Hp) (n2 : ((List Int) × Int) → Hp → Prop) (_K : Sl → Hp → Prop) : Prop :=
 n2 (cs5j3, (IntKind.wrap .i64 (s6j3 + 1))) H
def T_gnomon_gnomonref9_Out_j1 (cs5j1 : (List Int)) (_cr_1j1 : Tapi_Cfg) (H : Hp) (K : Sl → Hp → Prop) : Prop :=
 ∀ (ss5j1 : Sl) (H_28 : Hp), Hle H H_28 → SlH H_28 1 cs_int ss5j1 cs5j1 → ss5j1.n ≤ ss5j1.c →
 K ss5j1 H_28
def T_gnomon_gnomonref9_Out_l2 (s1l2 : Int) (cr_1l2 : Tapi_Cfg) (cs5l2 : (List Int)) (s6l2 : Int) (H : Hp) (n2 : ((List Int) × Int) → Hp → Prop) (K : Sl → Hp → Prop) : Prop :=
 (s6l2 < (cr_1l2.fEdges.n : Int) →
 (0 : Int) ≤ s6l2 ∧ (s6l2 : Int) < cr_1l2.fEdges.n ∧ ∃ x_6 : Tapi_Edge, EltH H cr_1l2.fEdges s6l2 10 (cs_api_Edge x_6) ∧ 
 (x_6.fFrom = s1l2 →
 (cs5l2.length + ([s6l2] : List Int).length) * 9 ≤ 140737488355328 ∧
 T_gnomon_gnomonref9_Out_j3 s1l2 (cs5l2 ++ [s6l2]) s6l2 cr_1l2 H n2 K) ∧
 (¬ (x_6.fFrom = s1l2) →
 T_gnomon_gnomonref9_Out_j3 s1l2 cs5l2 s6l2 cr_1l2 H n2 K)) ∧
 (¬ (s6l2 < (cr_1l2.fEdges.n : Int)) →
 T_gnomon_gnomonref9_Out_j1 cs5l2 cr_1l2 H K)
def T_gnomon_gnomonref9_Out (x0 : Tapi_Cfg) (x1 : Int) (H : Hp) (K : Sl → Hp → Prop) : Prop :=
 TL (([], 0) : (List Int) × Int) H fun (s : (List Int) × Int) H n2 => T_gnomon_gnomonref9_Out_l2 x1 x0 s.1 s.2 H n2 K
theorem LF_gnomon_gnomonref9_Out (x0 : Tapi_Cfg) (x1 : Int) {w0 w : World} {ps0 : Nat → Prop} {H0 H : Hp} {K : Sl → Hp → Prop} {R : Value → World → Prop} {E : Pan} (I : Inv w0 ps0 H0 H [] w) (hR : ∀ (r0 : Sl) (H' : Hp) (w' : World) (_ : Inv w0 ps0 H0 H' [] w') (_ : K r0 H'), R (vs r0) w') (h : T_gnomon_gnomonref9_Out x0 x1 H K) : F26 (Value.agg (cs_api_Cfg x0).toArray) (vi x1) w R E := by
 unfold T_gnomon_gnomonref9_Out at h
 unfold F26
 refine s_box I (cs := (cs_api_Cfg x0)) rfl fun g_2 w_3 I_4 k_5 => ?_
 have hj1 : ∀ (cs5j1 : (List Int)) (ss5j1 : Sl) (Fs5j1 : Frag) (H : Hp) (w : World) (_ : RowL 3 1 cs_int ss5j1 cs5j1 Fs5j1) (_ : Inv w0 ps0 H0 H [bx g_2 26 (cs_api_Cfg x0), Fs5j1] w) (_ : T_gnomon_gnomonref9_Out_j1 cs5j1 x0 H K), F26_j1 (vs ss5j1) w R E := by
  intro cs5j1 ss5j1 Fs5j1 H w hs5j1 I h
  unfold F26_j1
  intro _
  unfold T_gnomon_gnomonref9_Out_j1 at h
  obtain ⟨H_28, I_29, l_30, h_31, h_32⟩ := Inv.freezeC (I.bring 1) hs5j1 (by decide)
  replace h := h ss5j1 H_28 l_30 h_31 h_32
  exact hR ss5j1 H_28 _ I_29.drop h
 refine xcut_i fun j1 hx1 => ?_
 obtain ⟨J_34, m_35, i_36, b_37⟩ := h
 refine xloop_J (J := fun n l w => ∃ (s : (List Int) × Int) (H : Hp) (ss5l2 : Sl) (Fs5l2 : Frag) , n = m_35 s ∧ l = (match s with | (cs5l2, s6l2) => [(vs ss5l2), (vi s6l2)]) ∧ (match s with | (cs5l2, s6l2) => RowL 3 1 cs_int ss5l2 cs5l2 Fs5l2) ∧ (match s with | (cs5l2, s6l2) => Inv w0 ps0 H0 H [bx g_2 26 (cs_api_Cfg x0), Fs5l2] w) ∧ J_34 s H) ⟨_, ([], 0), H, (Sl.mk none 0 0), [], rfl, rfl, (RowL.nil cs_int_l cs_int_o), (I_4.nil.bring 1), i_36⟩ ?_
 rintro n_38 τ_39 w next2 ⟨⟨cs5l2, s6l2⟩, H, ss5l2, Fs5l2, rfl, l_40, hs5l2, I, s_41⟩ hn2
 dsimp only at l_40 I hs5l2
 simp only [List.map_cons, List.map_nil, List.cons.injEq, and_true] at l_40
 obtain ⟨e5, e6⟩ := l_40
 simp only [e5, e6]
 obtain ⟨n2, hm2, h⟩ : ∃ n2 : ((List Int) × Int) → Hp → Prop, (∀ s' H', n2 s' H' → J_34 s' H' ∧ m_35 s' < m_35 (cs5l2, s6l2)) ∧ T_gnomon_gnomonref9_Out_l2 x1 x0 cs5l2 s6l2 H n2 K := ⟨_, fun _ _ h => h, b_37 (cs5l2, s6l2) H (fun s' H' => J_34 s' H' ∧ m_35 s' < m_35 (cs5l2, s6l2)) s_41 (fun _ _ a b => ⟨a, b⟩)⟩
 unfold F26_l2
 unfold T_gnomon_gnomonref9_Out_l2 at h
 refine opK_pu pu_fa_26_5 ?_
 refine opK_ld (ld1 Try.isAgg24 (I.at1 (o := 5) (vs := [(vs x0.fEdges)]) (nb rfl) rfl)) ?_
 refine opK_pu (pu_len_24 _ _ _) ?_
 refine opK_pu (pu_lss _ _ _ _ _ _) ?_
 refine xcond_p (fun c_33 => ?_) (fun c_33 => ?_)
 ·replace h := h.1 c_33
  have hj3 : ∀ (cs5j3 : (List Int)) (ss5j3 : Sl) (Fs5j3 : Frag) (H : Hp) (w : World) (_ : RowL 3 1 cs_int ss5j3 cs5j3 Fs5j3) (_ : Inv w0 ps0 H0 H [bx g_2 26 (cs_api_Cfg x0), Fs5j3] w) (_ : T_gnomon_gnomonref9_Out_j3 x1 cs5j3 s6l2 x0 H n2 K), F26_j3 (vi x1) (Value.pointer (some ⟨g_2, 0, none⟩)) (vs ss5j3) (vi s6l2) w next2 R E := by
   intro cs5j3 ss5j3 Fs5j3 H w hs5j3 I h
   unfold F26_j3
   intro _
   unfold T_gnomon_gnomonref9_Out_j3 at h
   refine opK_pu (pu_add _ _ _ _ _ _) ?_
   exact hn2 _ _ _ (hm2 _ _ h).2 ⟨(cs5j3, (IntKind.wrap .i64 (s6l2 + 1))), H, ss5j3, Fs5j3, rfl, rfl, hs5j3, ((I.bring 1).bring 1), (hm2 _ _ h).1⟩
  refine xcut_i fun j3 hx3 => ?_
  refine opK_pu pu_fa_26_5 ?_
  refine opK_ld (ld1 Try.isAgg24 (I.at1 (o := 5) (vs := [(vs x0.fEdges)]) (nb rfl) rfl)) ?_
  obtain ⟨h_9, h_10, x_6, h_12, h⟩ := h
  obtain ⟨g_7, o_8, h_11, h_12⟩ := h_12
  refine opK_pu (pu_ix_24 h_11 _ _ _ _ h_9 h_10) ?_
  refine opK_pu pu_fa_52_0 ?_
  refine opK_ld (ld1 (v := (vi x_6.fFrom)) Try.isAgg3 ((I.atH h_12).sub (k := 0) (n := 1) (nb rfl))) ?_
  refine opK_pu (pu_eql _ _ _ _ _ _) ?_
  refine xcond_p (fun c_27 => ?_) (fun c_27 => ?_)
  ·replace h := h.1 c_27
   refine s_bs (e := 3) (c := cs_int) (xs := [s6l2]) I (bs_68_1 _) rfl rfl cs_int_l cs_int_o (nb rfl) fun s_14 F_15 w_16 h_17 I_18 k_19 => ?_
   obtain ⟨h_26, h⟩ := h
   refine app_68 (s := ss5l2) (xs := cs5l2) (I_18.bring 2) hs5l2 (h_17.srcO ((I_18.bring 2).bring 1)) h_26 fun s_20 F_21 w_22 h_23 I_24 k_25 => ?_
   exact hx3 _ _ (hj3 (cs5l2 ++ [s6l2]) s_20 F_21 H _ h_23 ((I_24.bring 1).drop.bring 1) h)
  ·replace h := h.2 c_27
   exact hx3 _ _ (hj3 cs5l2 ss5l2 Fs5l2 H _ hs5l2 ((I.bring 1).bring 1) h)
 ·replace h := h.2 c_33
  exact hx1 _ _ (hj1 cs5l2 ss5l2 Fs5l2 H _ hs5l2 ((I.bring 1).bring 1) h)
theorem L_gnomon_gnomonref9_Out (x0 : Tapi_Cfg) (x1 : Int) {H : Hp} {K : Sl → Hp → Prop} (h : T_gnomon_gnomonref9_Out x0 x1 H K) : C_gnomon_gnomonref9_Out x0 x1 H K := by
 intro w I
 refine F26_ok ?_
 refine LF_gnomon_gnomonref9_Out x0 x1 I (fun r0 H' w' I' hk => ⟨H', _, I', r0, rfl, rfl, hk⟩) h


/- function 14: gnomon/gnomonref10.One -/
def T_gnomon_gnomonref10_One_j1 (s3j1 : Int) (s4j1 : Int) (ccr_34j1_0 : (List Int)) (ccr_34j1_1 : (List (List Int))) (cr_1j1 : Tapi_Cfg) (H : Hp) (K : Int → Int → Sl → Int → Hp → Prop) : Prop :=
 C_gnomon_gnomonref9_Out cr_1j1 s4j1 H (fun (r0_118 : Sl) (H_110 : Hp) => 
 C_gnomon_gnomonref10_taken cr_1j1 (Tgnomonref10_state.mk (Sl.mk none 0 0) (Sl.mk none 0 0)) ccr_34j1_0 ccr_34j1_1 r0_118 H_110 (fun (r0_127 : Int) (H_119 : Hp) => 
 (r0_127 < 0 →
 ∀ (s_25 : Sl) (H_130 : Hp), Hle H_119 H_130 → SlH H_130 1 cs_int64 s_25 ccr_34j1_0 → s_25.n ≤ s_25.c →
 K (-1) 0 s_25 0 H_130) ∧
 (¬ (r0_127 < 0) →
 (0 : Int) ≤ r0_127 ∧ (r0_127 : Int) < cr_1j1.fEdges.n ∧ ∃ x_137 : Tapi_Edge, EltH H_119 cr_1j1.fEdges r0_127 10 (cs_api_Edge x_137) ∧ 
 C_gnomon_gnomonref10_state_does (Tgnomonref10_state.mk (Sl.mk none 0 0) (Sl.mk none 0 0)) ccr_34j1_0 ccr_34j1_1 x_137 s3j1 H_119 (fun (r0_152 : Int) (y0_0_152 : (List Int)) (_y0_1_152 : (List (List Int))) (H_144 : Hp) => 
 ∀ (s_25 : Sl) (H_153 : Hp), Hle H_144 H_153 → SlH H_153 1 cs_int64 s_25 y0_0_152 → s_25.n ≤ s_25.c →
 K r0_127 r0_152 s_25 0 H_153))))
def T_gnomon_gnomonref10_One_l2 (s2l2 : Sl) (s3l2 : Int) (s4l2 : Int) (ccr_34l2_0 : (List Int)) (cr_1l2 : Tapi_Cfg) (s16l2 : Int) (ccr_34l2_1 : (List (List Int))) (H : Hp) (n2 : (Int × (List (List Int))) → Hp → Prop) (K : Int → Int → Sl → Int → Hp → Prop) : Prop :=
 (s16l2 < (s2l2.n : Int) →
 (0 : Int) ≤ s16l2 ∧ (s16l2 : Int) < s2l2.n ∧ ∃ x_170 : Sl, EltH H s2l2 s16l2 1 [(vs x_170)] ∧ 
 (0 : Int) ≤ s16l2 ∧ (s16l2 : Int) < cr_1l2.fArrays.n ∧ ∃ x_177 : Tapi_Decl, EltH H cr_1l2.fArrays s16l2 2 (cs_api_Decl x_177) ∧ 
 (¬ ((x_170.n : Int) = x_177.fSize) →
 K 0 0 (Sl.mk none 0 0) 92 H) ∧
 ((x_170.n : Int) = x_177.fSize →
 ∃ ys_201 : List Int, SlH H 1 cs_int64 x_170 ys_201 ∧ (([] : List Int).length + ys_201.length) * 9 ≤ 140737488355328 ∧
 ((ccr_34l2_1 : List (List Int)).length + ([ys_201] : List (List Int)).length) * 25 ≤ 140737488355328 ∧
 n2 ((IntKind.wrap .i64 (s16l2 + 1)), (ccr_34l2_1 ++ [ys_201])) H)) ∧
 (¬ (s16l2 < (s2l2.n : Int)) →
 T_gnomon_gnomonref10_One_j1 s3l2 s4l2 ccr_34l2_0 ccr_34l2_1 cr_1l2 H K)
def T_gnomon_gnomonref10_One (x0 : Tapi_Cfg) (x1 : Sl) (x2 : Sl) (x3 : Int) (x4 : Int) (H : Hp) (K : Int → Int → Sl → Int → Hp → Prop) : Prop :=
 C_gnomon_gnomonref9_Check x0 H (fun (r0_14 : Int) (H_6 : Hp) => 
 (¬ (r0_14 = 0) →
 K 0 0 (Sl.mk none 0 0) r0_14 H_6) ∧
 (r0_14 = 0 →
 TG (((decide (x4 < 0)) || (decide (x0.fPoints ≤ x4))) = false) (C_gnomon_gnomonref9_All x0 H_6) 0 H_6 (fun (r0_23 : Int) (H_15 : Hp) =>
 (((((decide (x4 < 0)) || (decide (x0.fPoints ≤ x4))) || (!decide ((x1.n : Int) = r0_23))) || (!decide ((x2.n : Int) = (x0.fArrays.n : Int)))) = true →
 K 0 0 (Sl.mk none 0 0) 92 H_15) ∧
 (((((decide (x4 < 0)) || (decide (x0.fPoints ≤ x4))) || (!decide ((x1.n : Int) = r0_23))) || (!decide ((x2.n : Int) = (x0.fArrays.n : Int)))) = false →
 ∃ ys_32 : List Int, SlH H_15 1 cs_int64 x1 ys_32 ∧ (([] : List Int).length + ys_32.length) * 9 ≤ 140737488355328 ∧
 TL ((0, []) : Int × (List (List Int))) H_15 fun (s : Int × (List (List Int))) H n2 => T_gnomon_gnomonref10_One_l2 x2 x3 x4 ys_32 x0 s.1 s.2 H n2 K))))
theorem LF_gnomon_gnomonref10_One (x0 : Tapi_Cfg) (x1 : Sl) (x2 : Sl) (x3 : Int) (x4 : Int) {w0 w : World} {ps0 : Nat → Prop} {H0 H : Hp} {K : Int → Int → Sl → Int → Hp → Prop} {R : Value → World → Prop} {E : Pan} (I : Inv w0 ps0 H0 H [] w) (hR : ∀ (r0 : Int) (r1 : Int) (r2 : Sl) (r3 : Int) (H' : Hp) (w' : World) (_ : Inv w0 ps0 H0 H' [] w') (_ : K r0 r1 r2 r3 H'), R (Value.tuple #[(vi r0), (vi r1), (vs r2), (vi r3)]) w') (h : T_gnomon_gnomonref10_One x0 x1 x2 x3 x4 H K) : F14 (Value.agg (cs_api_Cfg x0).toArray) (vs x1) (vs x2) (vi x3) (vi x4) w R E := by
 unfold T_gnomon_gnomonref10_One at h
 unfold F14
 refine s_box I (cs := (cs_api_Cfg x0)) rfl fun g_2 w_3 I_4 k_5 => ?_
 refine opK_ld (ldA Try.isAgg26 Try.sizeOf26 rfl (I_4.at1 (o := 0) (vs := (cs_api_Cfg x0)) (nb rfl) rfl)) ?_
 refine opK_calls (cap := []) (fun args w => Try.call19 args w) ?_
 refine Cv_ct (Fi := []) (Fr := [bx g_2 26 (cs_api_Cfg x0)]) I_4 (h) (fun v_10 H_6 F_11 w_7 I_8 l_13 k_9 q_12 => ?_) (fun _ _ _ _ _ q => q.elim)
 obtain ⟨r0_14, rfl, rfl, h⟩ := q_12
 refine opK_pu (pu_neq _ _ _ _ _ _) ?_
 refine xcond_n (fun c_248 => ?_) (fun c_248 => ?_)
 ·replace h := h.1 c_248
  exact hR 0 0 (Sl.mk none 0 0) r0_14 H_6 _ I_8.drop h
 ·replace h := h.2 c_248
  refine opK_pu (pu_lss _ _ _ _ _ _) ?_
  try simp only [gval_b]
  refine opK_pu (Pu.g fun hb => by have hb_0 := hb; first | exact pu_fa_26_3 | (simp only [gval_t hb_0, gv_t hb_0, gv_t hb, gva_ft hb_0]; exact pu_fa_26_3) | (simp only [gval_t hb_0, gv_t hb_0, gv_t hb, gva_ff hb_0, gv_n]; exact pu_fa_26_3)) ?_
  refine opK_ld (Ld.g fun hb => by have hb_0 := hb; first | exact (ld1 Try.isAgg3 (I_8.at1 (o := 3) (vs := [(vi x0.fPoints)]) (nb rfl) rfl)) | (simp only [gv_t hb_0]; exact (ld1 Try.isAgg3 (I_8.at1 (o := 3) (vs := [(vi x0.fPoints)]) (nb rfl) rfl))) | (simp only [gval_t hb_0, gv_t hb_0, gv_t hb, gva_ff hb_0, gv_n]; exact (ld1 Try.isAgg3 (I_8.at1 (o := 3) (vs := [(vi x0.fPoints)]) (nb rfl) rfl)))) ?_
  refine opK_pu (Pu.g fun hb => by have hb_0 := hb; first | exact (pu_geq _ _ _ _ _ _) | (simp only [gv_t hb_0]; exact (pu_geq _ _ _ _ _ _)) | (simp only [gval_t hb_0, gv_t hb_0, gv_t hb, gva_ff hb_0, gv_n]; exact (pu_geq _ _ _ _ _ _))) ?_
  refine opK_pu (pu_or _ _) ?_
  try simp only [gval_b]
  refine opK_pu (Pu.g fun hb => by have hb_0 := hb; first | exact (pu_len_27 _ _ _) | (simp only [gv_t hb_0]; exact (pu_len_27 _ _ _)) | (simp only [gval_t hb_0, gv_t hb_0, gv_t hb, gva_ff hb_0, gv_n]; exact (pu_len_27 _ _ _))) ?_
  refine opK_ld (Ld.g fun hb => by have hb_0 := hb; first | exact (ldA Try.isAgg26 Try.sizeOf26 rfl (I_8.at1 (o := 0) (vs := (cs_api_Cfg x0)) (nb rfl) rfl)) | (simp only [gval_t hb_0, gv_t hb_0, gv_t hb, gva_ft hb_0]; exact (ldA Try.isAgg26 Try.sizeOf26 rfl (I_8.at1 (o := 0) (vs := (cs_api_Cfg x0)) (nb rfl) rfl))) | (simp only [gval_t hb_0, gv_t hb_0, gv_t hb, gva_ff hb_0, gv_n]; exact (ldA Try.isAgg26 Try.sizeOf26 rfl (I_8.at1 (o := 0) (vs := (cs_api_Cfg x0)) (nb rfl) rfl)))) ?_
  refine opK_g2 (D := fun v_19 w_16 => ∃ (r0_23 : Int) (H_15 : Hp), v_19 = (gv ((decide (x4 < 0)) || (decide (x0.fPoints ≤ x4))) false (vi r0_23)) ∧ (Inv w0 ps0 H0 H_15 [bx g_2 26 (cs_api_Cfg x0)] w_16) ∧ (∀ i, i < w_7.heap.size → ¬ inF [] i → w_16.heap[i]? = w_7.heap[i]?) ∧ Hle H_6 H_15 ∧ ((((((decide (x4 < 0)) || (decide (x0.fPoints ≤ x4))) || (!decide ((x1.n : Int) = r0_23))) || (!decide ((x2.n : Int) = (x0.fArrays.n : Int)))) = true →
 K 0 0 (Sl.mk none 0 0) 92 H_15) ∧
 (((((decide (x4 < 0)) || (decide (x0.fPoints ≤ x4))) || (!decide ((x1.n : Int) = r0_23))) || (!decide ((x2.n : Int) = (x0.fArrays.n : Int)))) = false →
 ∃ ys_32 : List Int, SlH H_15 1 cs_int64 x1 ys_32 ∧ (([] : List Int).length + ys_32.length) * 9 ≤ 140737488355328 ∧
 TL ((0, []) : Int × (List (List Int))) H_15 fun (s : Int × (List (List Int))) H n2 => T_gnomon_gnomonref10_One_l2 x2 x3 x4 ys_32 x0 s.1 s.2 H n2 K))) (fun b_247 => ?_) (fun b_247 => ?_) ?_
  ·replace h := h.1 b_247
   have hb_0 := b_247
   try simp only [gv_t hb_0]
   refine opK_calls (cap := []) (fun args w => Try.call20 args w) ?_
   refine Cv_ct (Fi := []) (Fr := [bx g_2 26 (cs_api_Cfg x0)]) I_8 (h) (fun v_19 H_15 F_20 w_16 I_17 l_22 k_18 q_21 => ?_) (fun _ _ _ _ _ q => q.elim)
   obtain ⟨r0_23, rfl, rfl, h⟩ := q_21
   exact ⟨r0_23, H_15, by first | rfl | rw [gv_t b_247], I_17, k_18, l_22, h⟩
  ·exact ⟨0, H_6, by first | rfl | rw [gv_f b_247], I_8, fun _ _ _ => rfl, Hle.refl _, h.2 b_247⟩
  ·clear h
   rintro v_19 w_16 ⟨r0_23, H_15, rfl, I_17, k_18, l_22, h⟩
   refine opK_pu (Pu.g fun hb => by have hb_0 := hb; first | exact (pu_neq _ _ _ _ _ _) | (simp only [gv_t hb_0]; exact (pu_neq _ _ _ _ _ _)) | (simp only [gval_t hb_0, gv_t hb_0, gv_t hb, gva_ff hb_0, gv_n]; exact (pu_neq _ _ _ _ _ _))) ?_
   refine opK_pu (pu_or _ _) ?_
   try simp only [gval_b]
   refine opK_pu (Pu.g fun hb => by have hb_0 := hb; first | exact (pu_len_32 _ _ _) | (simp only [gv_t hb_0]; exact (pu_len_32 _ _ _)) | (simp only [gval_t hb_0, gv_t hb_0, gv_t hb, gva_ff hb_0, gv_n]; exact (pu_len_32 _ _ _))) ?_
   refine opK_pu (Pu.g fun hb => by have hb_0 := hb; first | exact pu_fa_26_2 | (simp only [gval_t hb_0, gv_t hb_0, gv_t hb, gva_ft hb_0]; exact pu_fa_26_2) | (simp only [gval_t hb_0, gv_t hb_0, gv_t hb, gva_ff hb_0, gv_n]; exact pu_fa_26_2)) ?_
   refine opK_ld (Ld.g fun hb => by have hb_0 := hb; first | exact (ld1 Try.isAgg23 (I_17.at1 (o := 2) (vs := [(vs x0.fArrays)]) (nb rfl) rfl)) | (simp only [gv_t hb_0]; exact (ld1 Try.isAgg23 (I_17.at1 (o := 2) (vs := [(vs x0.fArrays)]) (nb rfl) rfl))) | (simp only [gval_t hb_0, gv_t hb_0, gv_t hb, gva_ff hb_0, gv_n]; exact (ld1 Try.isAgg23 (I_17.at1 (o := 2) (vs := [(vs x0.fArrays)]) (nb rfl) rfl)))) ?_
   refine opK_pu (Pu.g fun hb => by have hb_0 := hb; first | exact (pu_len_23 _ _ _) | (simp only [gv_t hb_0]; exact (pu_len_23 _ _ _)) | (simp only [gval_t hb_0, gv_t hb_0, gv_t hb, gva_ff hb_0, gv_n]; exact (pu_len_23 _ _ _))) ?_
   refine opK_pu (Pu.g fun hb => by have hb_0 := hb; first | exact (pu_neq _ _ _ _ _ _) | (simp only [gv_t hb_0]; exact (pu_neq _ _ _ _ _ _)) | (simp only [gval_t hb_0, gv_t hb_0, gv_t hb, gva_ff hb_0, gv_n]; exact (pu_neq _ _ _ _ _ _))) ?_
   refine opK_pu (pu_or _ _) ?_
   refine xcond_b (fun c_246 => ?_) (fun c_246 => ?_)
   ·replace h := h.1 c_246
    exact hR 0 0 (Sl.mk none 0 0) 92 H_15 _ I_17.drop h
   ·replace h := h.2 c_246
    obtain ⟨ys_32, h_33, h⟩ := h
    obtain ⟨h_31, h⟩ := h
    refine app_27 (s := ⟨none, 0, 0⟩) (xs := []) I_17.nil (RowL.nil cs_int64_l cs_int64_o) (SlH.src I_17.nil h_33 cs_int64_l) h_31 fun s_25 F_26 w_27 h_28 I_29 k_30 => ?_
    simp only [List.nil_append] at h_28
    refine opK_pu (pu_bld_71_0 _ _ _) ?_
    refine s_box I_29 (cs := [(vs s_25), (Value.slice none 0 0)]) rfl fun g_35 w_36 I_37 k_38 => ?_
    have hj1 : ∀ (ccr_34j1_0 : (List Int)) (ccr_34j1_1 : (List (List Int))) (Fcr_34j1_0 : Frag) (scr_34j1_1 : Sl) (Fcr_34j1_1 : Frag) (H : Hp) (w : World) (_ : RowL 2 1 cs_int64 s_25 ccr_34j1_0 Fcr_34j1_0) (_ : RowsL 27 2 1 cs_int64 scr_34j1_1 ccr_34j1_1 Fcr_34j1_1) (_ : Inv w0 ps0 H0 H [bx g_35 71 [(vs s_25), (vs scr_34j1_1)], bx g_2 26 (cs_api_Cfg x0), Fcr_34j1_0, Fcr_34j1_1] w) (_ : T_gnomon_gnomonref10_One_j1 x3 x4 ccr_34j1_0 ccr_34j1_1 x0 H K), F14_j1 (vi x3) (vi x4) (Value.pointer (some ⟨g_2, 0, none⟩)) (Value.pointer (some ⟨g_35, 0, none⟩)) w R E := by
     intro ccr_34j1_0 ccr_34j1_1 Fcr_34j1_0 scr_34j1_1 Fcr_34j1_1 H w hcr_34j1_0 hcr_34j1_1 I h
     unfold F14_j1
     intro _
     unfold T_gnomon_gnomonref10_One_j1 at h
     refine s_dX I fun w_108 I_109 => ?_
     refine qL_ld (ldA Try.isAgg26 Try.sizeOf26 rfl ((I_109.bring 1).at1 (o := 0) (vs := (cs_api_Cfg x0)) (nb rfl) rfl)) ?_
     refine qL_ld (ldA Try.isAgg26 Try.sizeOf26 rfl ((I_109.bring 1).at1 (o := 0) (vs := (cs_api_Cfg x0)) (nb rfl) rfl)) ?_
     refine opK_calls (cap := []) (fun args w => Try.call26 args w) ?_
     refine Cv_ct (Fi := []) (Fr := [bx g_35 71 [(vs s_25), (vs scr_34j1_1)], bx g_2 26 (cs_api_Cfg x0), Fcr_34j1_0, Fcr_34j1_1]) I_109 (h) (fun v_114 H_110 F_115 w_111 I_112 l_117 k_113 q_116 => ?_) (fun _ _ _ _ _ q => q.elim)
     obtain ⟨r0_118, rfl, rfl, h⟩ := q_116
     refine ⟨(k_113 _ (I_109.bring 1).lt1 (Inv.not_in (Fi := []) (I_109.bring 1))), ?_⟩
     refine opK_calls (cap := []) (fun args w => Try.call21 args w) ?_
     refine Cv_ct (Fi := [bx g_35 71 [(vs s_25), (vs scr_34j1_1)], Fcr_34j1_0, Fcr_34j1_1]) (Fr := [bx g_2 26 (cs_api_Cfg x0)]) (((I_112.bring 3).bring 3).bring 2) (h g_35 s_25 Fcr_34j1_0 scr_34j1_1 Fcr_34j1_1 hcr_34j1_0 hcr_34j1_1) (fun v_123 H_119 F_124 w_120 I_121 l_126 k_122 q_125 => ?_) (fun _ _ _ _ _ q => q.elim)
     obtain ⟨r0_127, rfl, rfl, h⟩ := q_125
     refine opK_pu (pu_lss _ _ _ _ _ _) ?_
     refine xcond_p (fun c_158 => ?_) (fun c_158 => ?_)
     ·replace h := h.1 c_158
      refine s_dX I_121 fun w_128 I_129 => ?_
      refine qP_pu (pu_nilp _) ?_
      refine qP_pu pu_fa_71_0 ?_
      refine qL_ld (ld1 Try.isAgg27 (I_129.at1 (o := 0) (vs := [(vs s_25)]) (nb rfl) rfl)) ?_
      obtain ⟨H_130, I_131, l_132, h_133, h_134⟩ := Inv.freezeC (I_129.bring 1) hcr_34j1_0 (by decide)
      replace h := h s_25 H_130 l_132 h_133 h_134
      exact hR (-1) 0 s_25 0 H_130 _ I_131.drop.drop.drop h
     ·replace h := h.2 c_158
      refine s_dX I_121 fun w_135 I_136 => ?_
      refine qP_pu pu_fa_26_5 ?_
      refine qP_pu (pu_nilp _) ?_
      refine qP_pu pu_fa_71_0 ?_
      refine qL_ld (ld1 Try.isAgg24 ((I_136.bring 3).at1 (o := 5) (vs := [(vs x0.fEdges)]) (nb rfl) rfl)) ?_
      obtain ⟨h_140, h_141, x_137, h_143, h⟩ := h
      obtain ⟨g_138, o_139, h_142, h_143⟩ := h_143
      refine qP_pu (pu_ix_24 h_142 _ _ _ _ h_140 h_141) ?_
      refine qL_ld (ldA (vs := (cs_api_Edge x_137)) Try.isAgg52 Try.sizeOf52 rfl (I_136.atH h_143)) ?_
      refine qL_ld (ld1 Try.isAgg27 (I_136.at1 (o := 0) (vs := [(vs s_25)]) (nb rfl) rfl)) ?_
      refine opK_calls (cap := []) (fun args w => Try.call22 args w) ?_
      refine Cv_ct (Fi := [bx g_35 71 [(vs s_25), (vs scr_34j1_1)], Fcr_34j1_0, Fcr_34j1_1]) (Fr := [bx g_2 26 (cs_api_Cfg x0)]) (((I_136.bring 2).bring 2).bring 2) (h g_35 s_25 Fcr_34j1_0 scr_34j1_1 Fcr_34j1_1 hcr_34j1_0 hcr_34j1_1) (fun v_148 H_144 F_149 w_145 I_146 l_151 k_147 q_150 => ?_) (fun _ _ _ _ _ q => q.elim)
      obtain ⟨r0_152, y0_0_152, y0_1_152, Fy0_0_152, Fy0_1_152, rfl, rfl, hy0_0_152, hy0_1_152, h⟩ := q_150
      refine ⟨((I_146.bring 0).hp1.trans I_136.hp1.symm), ?_⟩
      obtain ⟨H_153, I_154, l_155, h_156, h_157⟩ := Inv.freezeC (I_146.bring 1) hy0_0_152 (by decide)
      replace h := h s_25 H_153 l_155 h_156 h_157
      exact hR r0_127 r0_152 s_25 0 H_153 _ I_154.drop.drop.drop h
    refine xcut_i fun j1 hx1 => ?_
    obtain ⟨J_238, m_239, i_240, b_241⟩ := h
    refine xloop_J (J := fun n l w => ∃ (s : Int × (List (List Int))) (H : Hp) (scr_34l2_1 : Sl) (Fcr_34l2_1 : Frag) , n = m_239 s ∧ l = (match s with | (s16l2, ccr_34l2_1) => [(vi s16l2)]) ∧ (match s with | (s16l2, ccr_34l2_1) => RowsL 27 2 1 cs_int64 scr_34l2_1 ccr_34l2_1 Fcr_34l2_1) ∧ (match s with | (s16l2, ccr_34l2_1) => Inv w0 ps0 H0 H [bx g_35 71 [(vs s_25), (vs scr_34l2_1)], bx g_2 26 (cs_api_Cfg x0), F_26, Fcr_34l2_1] w) ∧ J_238 s H) ⟨_, (0, []), H_15, (Sl.mk none 0 0), [], rfl, rfl, (RowsL.nil cs_int64_l cs_int64_o), (((I_37.nil.bring 2).bring 3).bring 3), i_240⟩ ?_
    rintro n_242 τ_243 w next2 ⟨⟨s16l2, ccr_34l2_1⟩, H, scr_34l2_1, Fcr_34l2_1, rfl, l_244, hcr_34l2_1, I, s_245⟩ hn2
    dsimp only at l_244 I hcr_34l2_1
    simp only [List.map_cons, List.map_nil, List.cons.injEq, and_true] at l_244
    have e16 := l_244
    simp only [e16]
    obtain ⟨n2, hm2, h⟩ : ∃ n2 : (Int × (List (List Int))) → Hp → Prop, (∀ s' H', n2 s' H' → J_238 s' H' ∧ m_239 s' < m_239 (s16l2, ccr_34l2_1)) ∧ T_gnomon_gnomonref10_One_l2 x2 x3 x4 ys_32 x0 s16l2 ccr_34l2_1 H n2 K := ⟨_, fun _ _ h => h, b_241 (s16l2, ccr_34l2_1) H (fun s' H' => J_238 s' H' ∧ m_239 s' < m_239 (s16l2, ccr_34l2_1)) s_245 (fun _ _ a b => ⟨a, b⟩)⟩
    unfold F14_l2
    unfold T_gnomon_gnomonref10_One_l2 at h
    refine opK_pu (pu_len_32 _ _ _) ?_
    refine opK_pu (pu_lss _ _ _ _ _ _) ?_
    refine xcond_p (fun c_237 => ?_) (fun c_237 => ?_)
    ·replace h := h.1 c_237
     refine s_dX I fun w_168 I_169 => ?_
     obtain ⟨h_173, h_174, x_170, h_176, h⟩ := h
     obtain ⟨g_171, o_172, h_175, h_176⟩ := h_176
     refine qP_pu (pu_ix_32 h_175 _ _ _ _ h_173 h_174) ?_
     refine qP_pu pu_fa_26_2 ?_
     refine qL_ld (ld1 (v := (vs x_170)) Try.isAgg27 (I_169.atH h_176)) ?_
     refine qP_pu (pu_len_27 _ _ _) ?_
     refine qL_ld (ld1 Try.isAgg23 ((I_169.bring 1).at1 (o := 2) (vs := [(vs x0.fArrays)]) (nb rfl) rfl)) ?_
     obtain ⟨h_180, h_181, x_177, h_183, h⟩ := h
     obtain ⟨g_178, o_179, h_182, h_183⟩ := h_183
     refine qP_pu (pu_ix_23 h_182 _ _ _ _ h_180 h_181) ?_
     refine qP_pu pu_fa_60_1 ?_
     refine qL_ld (ld1 (v := (vi x_177.fSize)) Try.isAgg3 ((I_169.atH h_183).sub (k := 1) (n := 1) (nb rfl))) ?_
     refine qP_pu (pu_neq _ _ _ _ _ _) ?_
     refine xcond_n (fun c_236 => ?_) (fun c_236 => ?_)
     ·replace h := h.1 c_236
      exact hR 0 0 (Sl.mk none 0 0) 92 H _ I_169.drop.drop.drop.drop h
     ·replace h := h.2 c_236
      refine s_dX I_169 fun w_184 I_185 => ?_
      refine qP_pu (pu_nilp _) ?_
      refine qP_pu pu_fa_71_1 ?_
      refine qP_pu (pu_ix_32 h_175 _ _ _ _ h_173 h_174) ?_
      refine qL_ld (ld1 Try.isAgg32 (I_185.at1 (o := 1) (vs := [(vs scr_34l2_1)]) (nb rfl) rfl)) ?_
      refine qL_ld (ld1 (v := (vs x_170)) Try.isAgg27 (I_185.atH h_176)) ?_
      obtain ⟨ys_201, h_202, h⟩ := h
      obtain ⟨h_200, h⟩ := h
      refine app_27 (s := ⟨none, 0, 0⟩) (xs := []) I_185.nil (RowL.nil cs_int64_l cs_int64_o) (SlH.src I_185.nil h_202 cs_int64_l) h_200 fun s_194 F_195 w_196 h_197 I_198 k_199 => ?_
      simp only [List.nil_append] at h_197
      refine ⟨(k_199 _ (I_185.nil.bring 1).lt1 (Inv.row_ne_b ((I_185.nil.bring 1).bring 1))), ?_⟩
      refine s_bs (e := 27) (c := csl) (xs := [s_194]) I_198 (bs_32_1 _ _ _) rfl rfl csl_l csl_o (nb rfl) fun s_204 F_205 w_206 h_207 I_208 k_209 => ?_
      refine ⟨(k_209 _ (I_198.bring 1).lt1), ?_⟩
      obtain ⟨h_232, h⟩ := h
      obtain ⟨ss_210, F_211, F_212, h_213, h_214, I_215⟩ := RowsL.split hcr_34l2_1 (((I_208.bring 1).bring 1).join2.bring 4)
      obtain ⟨ss_218, F_219, F_220, h_221, h_222, I_223⟩ := RowsL.split (RowsL.one h_207 h_197) (I_215.bring 2)
      refine app_32 (s := scr_34l2_1) (xs := ss_210) (I_223.bring 2) h_213 (h_221.srcO ((I_223.bring 2).bring 1)) (by rw [h_214.len, h_222.len]; exact h_232) fun s_226 F_227 w_228 h_229 I_230 k_231 => ?_
      refine qP_pu (pu_nilp _) ?_
      refine qP_pu pu_fa_71_1 ?_
      refine s_store (((((I_230.bring 1).drop.bring 1).bring 2).bring 2).join3.bring 1) Try.sizeOf32 (vs := [(vs s_226)]) (cs' := [(vs s_25), (vs s_226)]) rfl rfl (nb rfl) rfl rfl fun w_233 I_234 k_235 => ?_
      refine opK_pu (pu_add _ _ _ _ _ _) ?_
      exact hn2 _ _ _ (hm2 _ _ h).2 ⟨((IntKind.wrap .i64 (s16l2 + 1)), (ccr_34l2_1 ++ [ys_201])), H, s_226, (F_227 ++ (F_212 ++ F_220)), rfl, rfl, (RowsL.app h_229 h_214 h_222), ((((I_234.bring 1).bring 3).bring 3).bring 3), (hm2 _ _ h).1⟩
    ·replace h := h.2 c_237
     exact hx1 _ _ (hj1 ys_32 ccr_34l2_1 F_26 scr_34l2_1 Fcr_34l2_1 H _ h_28 hcr_34l2_1 ((((I.bring 3).bring 3).bring 3).bring 3) h)
theorem L_gnomon_gnomonref10_One (x0 : Tapi_Cfg) (x1 : Sl) (x2 : Sl) (x3 : Int) (x4 : Int) {H : Hp} {K : Int → Int → Sl → Int → Hp → Prop} (h : T_gnomon_gnomonref10_One x0 x1 x2 x3 x4 H K) : C_gnomon_gnomonref10_One x0 x1 x2 x3 x4 H K := by
 intro w I
 refine F14_ok ?_
 refine LF_gnomon_gnomonref10_One x0 x1 x2 x3 x4 I (fun r0 r1 r2 r3 H' w' I' hk => ⟨H', _, I', r0, r1, r2, r3, rfl, rfl, hk⟩) h


/- function 25: gnomon/step.fits -/
def T_gnomon_step_fits_j1 (_cr_1j1 : Tapi_Cfg) (H : Hp) (K : Bool → Hp → Prop) : Prop :=
 K true H
def T_gnomon_step_fits_l2 (s26l2 : Sl) (s27l2 : Int) (cr_1l2 : Tapi_Cfg) (s28l2 : Int) (H : Hp) (n2 : Int → Hp → Prop) (K : Bool → Hp → Prop) : Prop :=
 (s28l2 < s27l2 →
 (0 : Int) ≤ s28l2 ∧ (s28l2 : Int) < s26l2.n ∧ ∃ x_6 : Sl, EltH H s26l2 s28l2 1 [(vs x_6)] ∧ 
 (0 : Int) ≤ s28l2 ∧ (s28l2 : Int) < cr_1l2.fArrays.n ∧ ∃ x_13 : Tapi_Decl, EltH H cr_1l2.fArrays s28l2 2 (cs_api_Decl x_13) ∧ 
 (¬ ((x_6.n : Int) = x_13.fSize) →
 K false H) ∧
 ((x_6.n : Int) = x_13.fSize →
 n2 (IntKind.wrap .i64 (s28l2 + 1)) H)) ∧
 (¬ (s28l2 < s27l2) →
 T_gnomon_step_fits_j1 cr_1l2 H K)
def T_gnomon_step_fits (x0 : Tapi_Cfg) (x1 : Sl) (x2 : Sl) (H : Hp) (K : Bool → Hp → Prop) : Prop :=
 (((!decide ((x1.n : Int) = (IntKind.wrap .i64 ((x0.fVars.n : Int) + x0.fTemps)))) || (!decide ((x2.n : Int) = (x0.fArrays.n : Int)))) = true →
 K false H) ∧
 (((!decide ((x1.n : Int) = (IntKind.wrap .i64 ((x0.fVars.n : Int) + x0.fTemps)))) || (!decide ((x2.n : Int) = (x0.fArrays.n : Int)))) = false →
 TL (0 : Int) H fun (s : Int) H n2 => T_gnomon_step_fits_l2 x2 (x2.n : Int) x0 s H n2 K)
theorem LF_gnomon_step_fits (x0 : Tapi_Cfg) (x1 : Sl) (x2 : Sl) {w0 w : World} {ps0 : Nat → Prop} {H0 H : Hp} {K : Bool → Hp → Prop} {R : Value → World → Prop} {E : Pan} (I : Inv w0 ps0 H0 H [] w) (hR : ∀ (r0 : Bool) (H' : Hp) (w' : World) (_ : Inv w0 ps0 H0 H' [] w') (_ : K r0 H'), R (Value.bool r0) w') (h : T_gnomon_step_fits x0 x1 x2 H K) : F25 (Value.agg (cs_api_Cfg x0).toArray) (vs x1) (vs x2) w R E := by
 unfold T_gnomon_step_fits at h
 unfold F25
 refine s_box I (cs := (cs_api_Cfg x0)) rfl fun g_2 w_3 I_4 k_5 => ?_
 refine opK_pu (pu_len_27 _ _ _) ?_
 refine opK_pu pu_fa_26_0 ?_
 refine opK_ld (ld1 Try.isAgg22 (I_4.at1 (o := 0) (vs := [(vs x0.fVars)]) (nb rfl) rfl)) ?_
 refine opK_pu (pu_len_22 _ _ _) ?_
 refine opK_pu pu_fa_26_1 ?_
 refine opK_ld (ld1 Try.isAgg3 (I_4.at1 (o := 1) (vs := [(vi x0.fTemps)]) (nb rfl) rfl)) ?_
 refine opK_pu (pu_add _ _ _ _ _ _) ?_
 refine opK_pu (pu_neq _ _ _ _ _ _) ?_
 try simp only [gval_b]
 refine opK_pu (Pu.g fun hb => by have hb_0 := hb; first | exact (pu_len_32 _ _ _) | (simp only [gv_t hb_0]; exact (pu_len_32 _ _ _)) | (simp only [gval_t hb_0, gv_t hb_0, gv_t hb, gva_ff hb_0, gv_n]; exact (pu_len_32 _ _ _))) ?_
 refine opK_pu (Pu.g fun hb => by have hb_0 := hb; first | exact pu_fa_26_2 | (simp only [gval_t hb_0, gv_t hb_0, gv_t hb, gva_ft hb_0]; exact pu_fa_26_2) | (simp only [gval_t hb_0, gv_t hb_0, gv_t hb, gva_ff hb_0, gv_n]; exact pu_fa_26_2)) ?_
 refine opK_ld (Ld.g fun hb => by have hb_0 := hb; first | exact (ld1 Try.isAgg23 (I_4.at1 (o := 2) (vs := [(vs x0.fArrays)]) (nb rfl) rfl)) | (simp only [gv_t hb_0]; exact (ld1 Try.isAgg23 (I_4.at1 (o := 2) (vs := [(vs x0.fArrays)]) (nb rfl) rfl))) | (simp only [gval_t hb_0, gv_t hb_0, gv_t hb, gva_ff hb_0, gv_n]; exact (ld1 Try.isAgg23 (I_4.at1 (o := 2) (vs := [(vs x0.fArrays)]) (nb rfl) rfl)))) ?_
 refine opK_pu (Pu.g fun hb => by have hb_0 := hb; first | exact (pu_len_23 _ _ _) | (simp only [gv_t hb_0]; exact (pu_len_23 _ _ _)) | (simp only [gval_t hb_0, gv_t hb_0, gv_t hb, gva_ff hb_0, gv_n]; exact (pu_len_23 _ _ _))) ?_
 refine opK_pu (Pu.g fun hb => by have hb_0 := hb; first | exact (pu_neq _ _ _ _ _ _) | (simp only [gv_t hb_0]; exact (pu_neq _ _ _ _ _ _)) | (simp only [gval_t hb_0, gv_t hb_0, gv_t hb, gva_ff hb_0, gv_n]; exact (pu_neq _ _ _ _ _ _))) ?_
 refine opK_pu (pu_or _ _) ?_
 refine xcond_b (fun c_30 => ?_) (fun c_30 => ?_)
 ·replace h := h.1 c_30
  exact hR false H _ I_4.drop h
 ·replace h := h.2 c_30
  have hj1 : ∀ (H : Hp) (w : World) (_ : Inv w0 ps0 H0 H [bx g_2 26 (cs_api_Cfg x0)] w) (_ : T_gnomon_step_fits_j1 x0 H K), F25_j1 w R E := by
   intro H w I h
   unfold F25_j1
   intro _
   unfold T_gnomon_step_fits_j1 at h
   exact hR true H _ I.drop h
  refine xcut_i fun j1 hx1 => ?_
  refine opK_pu (pu_len_32 _ _ _) ?_
  obtain ⟨J_22, m_23, i_24, b_25⟩ := h
  refine xloop_J (J := fun n l w => ∃ (s : Int) (H : Hp) , n = m_23 s ∧ l = [(vi s)] ∧ Inv w0 ps0 H0 H [bx g_2 26 (cs_api_Cfg x0)] w ∧ J_22 s H) ⟨_, 0, H, rfl, rfl, I_4, i_24⟩ ?_
  rintro n_26 τ_27 w next2 ⟨s28l2, H, rfl, l_28, I, s_29⟩ hn2
  simp only [List.map_cons, List.map_nil, List.cons.injEq, and_true] at l_28
  have e28 := l_28
  simp only [e28]
  obtain ⟨n2, hm2, h⟩ : ∃ n2 : Int → Hp → Prop, (∀ s' H', n2 s' H' → J_22 s' H' ∧ m_23 s' < m_23 s28l2) ∧ T_gnomon_step_fits_l2 x2 (x2.n : Int) x0 s28l2 H n2 K := ⟨_, fun _ _ h => h, b_25 s28l2 H (fun s' H' => J_22 s' H' ∧ m_23 s' < m_23 s28l2) s_29 (fun _ _ a b => ⟨a, b⟩)⟩
  unfold F25_l2
  unfold T_gnomon_step_fits_l2 at h
  refine opK_pu (pu_lss _ _ _ _ _ _) ?_
  refine xcond_p (fun c_21 => ?_) (fun c_21 => ?_)
  ·replace h := h.1 c_21
   obtain ⟨h_9, h_10, x_6, h_12, h⟩ := h
   obtain ⟨g_7, o_8, h_11, h_12⟩ := h_12
   refine opK_pu (pu_ix_32 h_11 _ _ _ _ h_9 h_10) ?_
   refine opK_ld (ld1 (v := (vs x_6)) Try.isAgg27 (I.atH h_12)) ?_
   refine opK_pu (pu_len_27 _ _ _) ?_
   refine opK_pu pu_fa_26_2 ?_
   refine opK_ld (ld1 Try.isAgg23 (I.at1 (o := 2) (vs := [(vs x0.fArrays)]) (nb rfl) rfl)) ?_
   obtain ⟨h_16, h_17, x_13, h_19, h⟩ := h
   obtain ⟨g_14, o_15, h_18, h_19⟩ := h_19
   refine opK_pu (pu_ix_23 h_18 _ _ _ _ h_16 h_17) ?_
   refine opK_pu pu_fa_60_1 ?_
   refine opK_ld (ld1 (v := (vi x_13.fSize)) Try.isAgg3 ((I.atH h_19).sub (k := 1) (n := 1) (nb rfl))) ?_
   refine opK_pu (pu_neq _ _ _ _ _ _) ?_
   refine xcond_n (fun c_20 => ?_) (fun c_20 => ?_)
   ·replace h := h.1 c_20
    exact hR false H _ I.drop h
   ·replace h := h.2 c_20
    refine opK_pu (pu_add _ _ _ _ _ _) ?_
    exact hn2 _ _ _ (hm2 _ _ h).2 ⟨(IntKind.wrap .i64 (s28l2 + 1)), H, rfl, rfl, I, (hm2 _ _ h).1⟩
  ·replace h := h.2 c_21
   exact hx1 _ _ (hj1 H _ I h)
theorem L_gnomon_step_fits (x0 : Tapi_Cfg) (x1 : Sl) (x2 : Sl) {H : Hp} {K : Bool → Hp → Prop} (h : T_gnomon_step_fits x0 x1 x2 H K) : C_gnomon_step_fits x0 x1 x2 H K := by
 intro w I
 refine F25_ok ?_
 refine LF_gnomon_step_fits x0 x1 x2 I (fun r0 H' w' I' hk => ⟨H', _, I', r0, rfl, rfl, hk⟩) h


/- function 13: gnomon/step.One -/
def T_gnomon_step_One_j2 (cr_52j2_0 : Tapi_Cfg) (cr_52j2_1 : Sl) (cr_52j2_2 : Int) (ccr_52j2_3 : (List Int)) (ccr_52j2_4 : (List (List Int))) (ccr_52j2_5 : (List Int)) (ccr_52j2_6 : (List Tapi_Event)) (cr_1j2 : Tapi_Cfg) (H : Hp) (K : Int → Int → Int → Hp → Prop) : Prop :=
 ∀ (scr_52j1_5 : Sl) (H_109 : Hp), Hle H H_109 → SlH H_109 1 cs_int64 scr_52j1_5 ccr_52j2_5 → scr_52j1_5.n ≤ scr_52j1_5.c →
 C_gnomon_step_state_next (Tstep_state.mk cr_52j2_0 cr_52j2_1 cr_52j2_2 (Sl.mk none 0 0) (Sl.mk none 0 0) scr_52j1_5 (Sl.mk none 0 0)) ccr_52j2_3 ccr_52j2_4 ccr_52j2_6 H_109 (fun (r0_122 : Int) (r1_122 : Bool) (H_114 : Hp) => 
 ((!r1_122) = true →
 K (-1) 0 0 H_114) ∧
 ((!r1_122) = false →
 (0 : Int) ≤ r0_122 ∧ (r0_122 : Int) < cr_1j2.fEdges.n ∧ ∃ x_123 : Tapi_Edge, EltH H_114 cr_1j2.fEdges r0_122 10 (cs_api_Edge x_123) ∧ 
 C_gnomon_step_table H_114 (fun (H_140 : Hp) => 
 (0 : Int) ≤ x_123.fKind ∧ (x_123.fKind : Int) < 15 ∧
 ∃ K_160 : Int → Tstep_state → (List Int) → (List (List Int)) → (List Tapi_Event) → Hp → Prop, (∀ (r0_159 : Int) (y0_159 : Tstep_state) (y0_3_159 : (List Int)) (y0_4_159 : (List (List Int))) (y0_6_159 : (List Tapi_Event)) (H_151 : Hp), K_160 r0_159 y0_159 y0_3_159 y0_4_159 y0_6_159 H_151 →
 K r0_122 r0_159 0 H_151) ∧ ¬ ((x_123.fKind : Int) = 0) ∧ ((x_123.fKind : Int) = 1 → C_gnomon_step_state_nothing (Tstep_state.mk cr_52j2_0 cr_52j2_1 cr_52j2_2 (Sl.mk none 0 0) (Sl.mk none 0 0) scr_52j1_5 (Sl.mk none 0 0)) ccr_52j2_3 ccr_52j2_4 ccr_52j2_6 x_123 H_140 K_160) ∧ ((x_123.fKind : Int) = 2 → C_gnomon_step_state_copies (Tstep_state.mk cr_52j2_0 cr_52j2_1 cr_52j2_2 (Sl.mk none 0 0) (Sl.mk none 0 0) scr_52j1_5 (Sl.mk none 0 0)) ccr_52j2_3 ccr_52j2_4 ccr_52j2_6 x_123 H_140 K_160) ∧ ((x_123.fKind : Int) = 3 → C_gnomon_step_state_negates (Tstep_state.mk cr_52j2_0 cr_52j2_1 cr_52j2_2 (Sl.mk none 0 0) (Sl.mk none 0 0) scr_52j1_5 (Sl.mk none 0 0)) ccr_52j2_3 ccr_52j2_4 ccr_52j2_6 x_123 H_140 K_160) ∧ ((x_123.fKind : Int) = 4 → C_gnomon_step_state_adds (Tstep_state.mk cr_52j2_0 cr_52j2_1 cr_52j2_2 (Sl.mk none 0 0) (Sl.mk none 0 0) scr_52j1_5 (Sl.mk none 0 0)) ccr_52j2_3 ccr_52j2_4 ccr_52j2_6 x_123 H_140 K_160) ∧ ((x_123.fKind : Int) = 5 → C_gnomon_step_state_subtracts (Tstep_state.mk cr_52j2_0 cr_52j2_1 cr_52j2_2 (Sl.mk none 0 0) (Sl.mk none 0 0) scr_52j1_5 (Sl.mk none 0 0)) ccr_52j2_3 ccr_52j2_4 ccr_52j2_6 x_123 H_140 K_160) ∧ ((x_123.fKind : Int) = 6 → C_gnomon_step_state_multiplies (Tstep_state.mk cr_52j2_0 cr_52j2_1 cr_52j2_2 (Sl.mk none 0 0) (Sl.mk none 0 0) scr_52j1_5 (Sl.mk none 0 0)) ccr_52j2_3 ccr_52j2_4 ccr_52j2_6 x_123 H_140 K_160) ∧ ((x_123.fKind : Int) = 7 → C_gnomon_step_state_divides (Tstep_state.mk cr_52j2_0 cr_52j2_1 cr_52j2_2 (Sl.mk none 0 0) (Sl.mk none 0 0) scr_52j1_5 (Sl.mk none 0 0)) ccr_52j2_3 ccr_52j2_4 ccr_52j2_6 x_123 H_140 K_160) ∧ ((x_123.fKind : Int) = 8 → C_gnomon_step_state_rests (Tstep_state.mk cr_52j2_0 cr_52j2_1 cr_52j2_2 (Sl.mk none 0 0) (Sl.mk none 0 0) scr_52j1_5 (Sl.mk none 0 0)) ccr_52j2_3 ccr_52j2_4 ccr_52j2_6 x_123 H_140 K_160) ∧ ((x_123.fKind : Int) = 9 → C_gnomon_step_state_takes (Tstep_state.mk cr_52j2_0 cr_52j2_1 cr_52j2_2 (Sl.mk none 0 0) (Sl.mk none 0 0) scr_52j1_5 (Sl.mk none 0 0)) ccr_52j2_3 ccr_52j2_4 ccr_52j2_6 x_123 H_140 K_160) ∧ ((x_123.fKind : Int) = 10 → C_gnomon_step_state_loads (Tstep_state.mk cr_52j2_0 cr_52j2_1 cr_52j2_2 (Sl.mk none 0 0) (Sl.mk none 0 0) scr_52j1_5 (Sl.mk none 0 0)) ccr_52j2_3 ccr_52j2_4 ccr_52j2_6 x_123 H_140 K_160) ∧ ((x_123.fKind : Int) = 11 → C_gnomon_step_state_stores (Tstep_state.mk cr_52j2_0 cr_52j2_1 cr_52j2_2 (Sl.mk none 0 0) (Sl.mk none 0 0) scr_52j1_5 (Sl.mk none 0 0)) ccr_52j2_3 ccr_52j2_4 ccr_52j2_6 x_123 H_140 K_160) ∧ ((x_123.fKind : Int) = 12 → C_gnomon_step_state_nothing (Tstep_state.mk cr_52j2_0 cr_52j2_1 cr_52j2_2 (Sl.mk none 0 0) (Sl.mk none 0 0) scr_52j1_5 (Sl.mk none 0 0)) ccr_52j2_3 ccr_52j2_4 ccr_52j2_6 x_123 H_140 K_160) ∧ ((x_123.fKind : Int) = 13 → C_gnomon_step_state_passes (Tstep_state.mk cr_52j2_0 cr_52j2_1 cr_52j2_2 (Sl.mk none 0 0) (Sl.mk none 0 0) scr_52j1_5 (Sl.mk none 0 0)) ccr_52j2_3 ccr_52j2_4 ccr_52j2_6 x_123 H_140 K_160) ∧ ((x_123.fKind : Int) = 14 → C_gnomon_step_state_fails (Tstep_state.mk cr_52j2_0 cr_52j2_1 cr_52j2_2 (Sl.mk none 0 0) (Sl.mk none 0 0) scr_52j1_5 (Sl.mk none 0 0)) ccr_52j2_3 ccr_52j2_4 ccr_52j2_6 x_123 H_140 K_160))))
def T_gnomon_step_One_l3 (s50l3 : Sl) (s51l3 : Int) (ccr_52l3_3 : (List Int)) (ccr_52l3_5 : (List Int)) (ccr_52l3_6 : (List Tapi_Event)) (cr_1l3 : Tapi_Cfg) (s52l3 : Int) (cr_52l3_0 : Tapi_Cfg) (cr_52l3_1 : Sl) (cr_52l3_2 : Int) (ccr_52l3_4 : (List (List Int))) (H : Hp) (n3 : (Int × Tapi_Cfg × Sl × Int × (List (List Int))) → Hp → Prop) (K : Int → Int → Int → Hp → Prop) : Prop :=
 (s52l3 < s51l3 →
 (0 : Int) ≤ s52l3 ∧ (s52l3 : Int) < s50l3.n ∧ ∃ x_187 : Sl, EltH H s50l3 s52l3 1 [(vs x_187)] ∧ 
 ∃ ys_204 : List Int, SlH H 1 cs_int64 x_187 ys_204 ∧ (([] : List Int).length + ys_204.length) * 9 ≤ 140737488355328 ∧
 ((ccr_52l3_4 : List (List Int)).length + ([ys_204] : List (List Int)).length) * 25 ≤ 140737488355328 ∧
 n3 ((IntKind.wrap .i64 (s52l3 + 1)), cr_52l3_0, cr_52l3_1, cr_52l3_2, (ccr_52l3_4 ++ [ys_204])) H) ∧
 (¬ (s52l3 < s51l3) →
 T_gnomon_step_One_j2 cr_52l3_0 cr_52l3_1 cr_52l3_2 ccr_52l3_3 ccr_52l3_4 ccr_52l3_5 ccr_52l3_6 cr_1l3 H K)
def T_gnomon_step_One_j1 (s2j1 : Sl) (cr_52j1_0 : Tapi_Cfg) (cr_52j1_1 : Sl) (cr_52j1_2 : Int) (ccr_52j1_3 : (List Int)) (ccr_52j1_4 : (List (List Int))) (ccr_52j1_5 : (List Int)) (ccr_52j1_6 : (List Tapi_Event)) (cr_1j1 : Tapi_Cfg) (H : Hp) (K : Int → Int → Int → Hp → Prop) : Prop :=
 TL ((0, cr_52j1_0, cr_52j1_1, cr_52j1_2, ccr_52j1_4) : Int × Tapi_Cfg × Sl × Int × (List (List Int))) H fun (s : Int × Tapi_Cfg × Sl × Int × (List (List Int))) H n3 => T_gnomon_step_One_l3 s2j1 (s2j1.n : Int) ccr_52j1_3 ccr_52j1_5 ccr_52j1_6 cr_1j1 s.1 s.2.1 s.2.2.1 s.2.2.2.1 s.2.2.2.2 H n3 K
def T_gnomon_step_One (x0 : Tapi_Cfg) (x1 : Sl) (x2 : Sl) (x3 : Int) (x4 : Int) (H : Hp) (K : Int → Int → Int → Hp → Prop) : Prop :=
 C_gnomon_cfg_Check x0 H (fun (r0_14 : Int) (H_6 : Hp) => 
 (¬ (r0_14 = 0) →
 K 0 0 r0_14 H_6) ∧
 (r0_14 = 0 →
 TG (((decide (x4 < 0)) || (decide (x0.fPoints ≤ x4))) = false) (C_gnomon_step_fits x0 x1 x2 H_6) false H_6 (fun (r0_23 : Bool) (H_15 : Hp) =>
 ((((decide (x4 < 0)) || (decide (x0.fPoints ≤ x4))) || (!r0_23)) = true →
 K 0 0 92 H_15) ∧
 ((((decide (x4 < 0)) || (decide (x0.fPoints ≤ x4))) || (!r0_23)) = false →
 C_gnomon_step_outs x0 H_15 (fun (r0_34 : Sl) (H_26 : Hp) => 
 ∃ ys_43 : List Int, SlH H_26 1 cs_int64 x1 ys_43 ∧ (([] : List Int).length + ys_43.length) * 9 ≤ 140737488355328 ∧
 T_gnomon_step_One_j1 x2 x0 r0_34 x4 ys_43 [] [x3] [] x0 H_26 K)))))
theorem LF_gnomon_step_One (x0 : Tapi_Cfg) (x1 : Sl) (x2 : Sl) (x3 : Int) (x4 : Int) {w0 w : World} {ps0 : Nat → Prop} {H0 H : Hp} {K : Int → Int → Int → Hp → Prop} {R : Value → World → Prop} {E : Pan} (I : Inv w0 ps0 H0 H [] w) (hR : ∀ (r0 : Int) (r1 : Int) (r2 : Int) (H' : Hp) (w' : World) (_ : Inv w0 ps0 H0 H' [] w') (_ : K r0 r1 r2 H'), R (Value.tuple #[(vi r0), (vi r1), (vi r2)]) w') (h : T_gnomon_step_One x0 x1 x2 x3 x4 H K) : F13 (Value.agg (cs_api_Cfg x0).toArray) (vs x1) (vs x2) (vi x3) (vi x4) w R E := by
 unfold T_gnomon_step_One at h
 unfold F13
 refine s_box I (cs := (cs_api_Cfg x0)) rfl fun g_2 w_3 I_4 k_5 => ?_
 refine opK_ld (ldA Try.isAgg26 Try.sizeOf26 rfl (I_4.at1 (o := 0) (vs := (cs_api_Cfg x0)) (nb rfl) rfl)) ?_
 refine opK_calls (cap := []) (fun args w => Try.call15 args w) ?_
 refine Cv_ct (Fi := []) (Fr := [bx g_2 26 (cs_api_Cfg x0)]) I_4 (h) (fun v_10 H_6 F_11 w_7 I_8 l_13 k_9 q_12 => ?_) (fun _ _ _ _ _ q => q.elim)
 obtain ⟨r0_14, rfl, rfl, h⟩ := q_12
 refine opK_pu (pu_neq _ _ _ _ _ _) ?_
 refine xcond_n (fun c_303 => ?_) (fun c_303 => ?_)
 ·replace h := h.1 c_303
  exact hR 0 0 r0_14 H_6 _ I_8.drop h
 ·replace h := h.2 c_303
  refine opK_pu (pu_lss _ _ _ _ _ _) ?_
  try simp only [gval_b]
  refine opK_pu (Pu.g fun hb => by have hb_0 := hb; first | exact pu_fa_26_3 | (simp only [gval_t hb_0, gv_t hb_0, gv_t hb, gva_ft hb_0]; exact pu_fa_26_3) | (simp only [gval_t hb_0, gv_t hb_0, gv_t hb, gva_ff hb_0, gv_n]; exact pu_fa_26_3)) ?_
  refine opK_ld (Ld.g fun hb => by have hb_0 := hb; first | exact (ld1 Try.isAgg3 (I_8.at1 (o := 3) (vs := [(vi x0.fPoints)]) (nb rfl) rfl)) | (simp only [gv_t hb_0]; exact (ld1 Try.isAgg3 (I_8.at1 (o := 3) (vs := [(vi x0.fPoints)]) (nb rfl) rfl))) | (simp only [gval_t hb_0, gv_t hb_0, gv_t hb, gva_ff hb_0, gv_n]; exact (ld1 Try.isAgg3 (I_8.at1 (o := 3) (vs := [(vi x0.fPoints)]) (nb rfl) rfl)))) ?_
  refine opK_pu (Pu.g fun hb => by have hb_0 := hb; first | exact (pu_geq _ _ _ _ _ _) | (simp only [gv_t hb_0]; exact (pu_geq _ _ _ _ _ _)) | (simp only [gval_t hb_0, gv_t hb_0, gv_t hb, gva_ff hb_0, gv_n]; exact (pu_geq _ _ _ _ _ _))) ?_
  refine opK_pu (pu_or _ _) ?_
  refine opK_ld (Ld.g fun hb => by have hb_0 := hb; first | exact (ldA Try.isAgg26 Try.sizeOf26 rfl (I_8.at1 (o := 0) (vs := (cs_api_Cfg x0)) (nb rfl) rfl)) | (simp only [gval_t hb_0, gv_t hb_0, gv_t hb, gva_ft hb_0]; exact (ldA Try.isAgg26 Try.sizeOf26 rfl (I_8.at1 (o := 0) (vs := (cs_api_Cfg x0)) (nb rfl) rfl))) | (simp only [gval_t hb_0, gv_t hb_0, gv_t hb, gva_ff hb_0, gv_n]; exact (ldA Try.isAgg26 Try.sizeOf26 rfl (I_8.at1 (o := 0) (vs := (cs_api_Cfg x0)) (nb rfl) rfl)))) ?_
  try simp only [gval_b]
  try simp only [gval_b, gv_gv, gvl_tt, gvl_tf, gvl_ft, gvl_ff, gvg_tt, gvg_tf, gvg_ft, gvg_ff]
  refine opK_g2 (D := fun v_19 w_16 => ∃ (r0_23 : Bool) (H_15 : Hp), v_19 = (gv ((decide (x4 < 0)) || (decide (x0.fPoints ≤ x4))) false (Value.bool r0_23)) ∧ (Inv w0 ps0 H0 H_15 [bx g_2 26 (cs_api_Cfg x0)] w_16) ∧ (∀ i, i < w_7.heap.size → ¬ inF [] i → w_16.heap[i]? = w_7.heap[i]?) ∧ Hle H_6 H_15 ∧ (((((decide (x4 < 0)) || (decide (x0.fPoints ≤ x4))) || (!r0_23)) = true →
 K 0 0 92 H_15) ∧
 ((((decide (x4 < 0)) || (decide (x0.fPoints ≤ x4))) || (!r0_23)) = false →
 C_gnomon_step_outs x0 H_15 (fun (r0_34 : Sl) (H_26 : Hp) => 
 ∃ ys_43 : List Int, SlH H_26 1 cs_int64 x1 ys_43 ∧ (([] : List Int).length + ys_43.length) * 9 ≤ 140737488355328 ∧
 T_gnomon_step_One_j1 x2 x0 r0_34 x4 ys_43 [] [x3] [] x0 H_26 K)))) (fun b_302 => ?_) (fun b_302 => ?_) ?_
  ·replace h := h.1 b_302
   have hb_0 := b_302
   try simp only [gv_t hb_0]
   refine opK_calls (cap := []) (fun args w => Try.call25 args w) ?_
   refine Cv_ct (Fi := []) (Fr := [bx g_2 26 (cs_api_Cfg x0)]) I_8 (h) (fun v_19 H_15 F_20 w_16 I_17 l_22 k_18 q_21 => ?_) (fun _ _ _ _ _ q => q.elim)
   obtain ⟨r0_23, rfl, rfl, h⟩ := q_21
   exact ⟨r0_23, H_15, by first | rfl | rw [gv_t b_302], I_17, k_18, l_22, h⟩
  ·exact ⟨false, H_6, by first | rfl | rw [gv_f b_302], I_8, fun _ _ _ => rfl, Hle.refl _, h.2 b_302⟩
  ·clear h
   rintro v_19 w_16 ⟨r0_23, H_15, rfl, I_17, k_18, l_22, h⟩
   refine opK_pu (Pu.g fun hb => by have hb_0 := hb; first | exact (pu_not _) | (simp only [gv_t hb_0]; exact (pu_not _)) | (simp only [gval_t hb_0, gv_t hb_0, gv_t hb, gva_ff hb_0, gv_n]; exact (pu_not _))) ?_
   refine opK_pu (pu_or _ _) ?_
   refine xcond_b (fun c_301 => ?_) (fun c_301 => ?_)
   ·replace h := h.1 c_301
    exact hR 0 0 92 H_15 _ I_17.drop h
   ·replace h := h.2 c_301
    have hj1 : ∀ (cr_52j1_0 : Tapi_Cfg) (cr_52j1_1 : Sl) (cr_52j1_2 : Int) (ccr_52j1_3 : (List Int)) (ccr_52j1_4 : (List (List Int))) (ccr_52j1_5 : (List Int)) (ccr_52j1_6 : (List Tapi_Event)) (scr_52j1_3 : Sl) (Fcr_52j1_3 : Frag) (scr_52j1_4 : Sl) (Fcr_52j1_4 : Frag) (scr_52j1_5 : Sl) (Fcr_52j1_5 : Frag) (scr_52j1_6 : Sl) (Fcr_52j1_6 : Frag) (gbr_52j1 : Nat) (H : Hp) (w : World) (_ : RowL 2 1 cs_int64 scr_52j1_3 ccr_52j1_3 Fcr_52j1_3) (_ : RowsL 27 2 1 cs_int64 scr_52j1_4 ccr_52j1_4 Fcr_52j1_4) (_ : RowL 2 1 cs_int64 scr_52j1_5 ccr_52j1_5 Fcr_52j1_5) (_ : RowL 74 3 cs_api_Event scr_52j1_6 ccr_52j1_6 Fcr_52j1_6) (_ : Inv w0 ps0 H0 H [bx gbr_52j1 58 [(vs cr_52j1_0.fVars), (vi cr_52j1_0.fTemps), (vs cr_52j1_0.fArrays), (vi cr_52j1_0.fPoints), (vi cr_52j1_0.fExit), (vs cr_52j1_0.fEdges), (vs cr_52j1_1), (vi cr_52j1_2), (vs scr_52j1_3), (vs scr_52j1_4), (vs scr_52j1_5), (vs scr_52j1_6)], bx g_2 26 (cs_api_Cfg x0), Fcr_52j1_3, Fcr_52j1_4, Fcr_52j1_5, Fcr_52j1_6] w) (_ : T_gnomon_step_One_j1 x2 cr_52j1_0 cr_52j1_1 cr_52j1_2 ccr_52j1_3 ccr_52j1_4 ccr_52j1_5 ccr_52j1_6 x0 H K), F13_j1 (vs x2) (Value.pointer (some ⟨g_2, 0, none⟩)) (Value.pointer (some ⟨gbr_52j1, 0, none⟩)) w R E := by
     intro cr_52j1_0 cr_52j1_1 cr_52j1_2 ccr_52j1_3 ccr_52j1_4 ccr_52j1_5 ccr_52j1_6 scr_52j1_3 Fcr_52j1_3 scr_52j1_4 Fcr_52j1_4 scr_52j1_5 Fcr_52j1_5 scr_52j1_6 Fcr_52j1_6 gbr_52j1 H w hcr_52j1_3 hcr_52j1_4 hcr_52j1_5 hcr_52j1_6 I h
     unfold F13_j1
     intro _
     unfold T_gnomon_step_One_j1 at h
     have hj2 : ∀ (cr_52j2_0 : Tapi_Cfg) (cr_52j2_1 : Sl) (cr_52j2_2 : Int) (ccr_52j2_3 : (List Int)) (ccr_52j2_4 : (List (List Int))) (ccr_52j2_5 : (List Int)) (ccr_52j2_6 : (List Tapi_Event)) (Fcr_52j2_3 : Frag) (scr_52j2_4 : Sl) (Fcr_52j2_4 : Frag) (Fcr_52j2_5 : Frag) (Fcr_52j2_6 : Frag) (H : Hp) (w : World) (_ : RowL 2 1 cs_int64 scr_52j1_3 ccr_52j2_3 Fcr_52j2_3) (_ : RowsL 27 2 1 cs_int64 scr_52j2_4 ccr_52j2_4 Fcr_52j2_4) (_ : RowL 2 1 cs_int64 scr_52j1_5 ccr_52j2_5 Fcr_52j2_5) (_ : RowL 74 3 cs_api_Event scr_52j1_6 ccr_52j2_6 Fcr_52j2_6) (_ : Inv w0 ps0 H0 H [bx gbr_52j1 58 [(vs cr_52j2_0.fVars), (vi cr_52j2_0.fTemps), (vs cr_52j2_0.fArrays), (vi cr_52j2_0.fPoints), (vi cr_52j2_0.fExit), (vs cr_52j2_0.fEdges), (vs cr_52j2_1), (vi cr_52j2_2), (vs scr_52j1_3), (vs scr_52j2_4), (vs scr_52j1_5), (vs scr_52j1_6)], bx g_2 26 (cs_api_Cfg x0), Fcr_52j2_3, Fcr_52j2_4, Fcr_52j2_5, Fcr_52j2_6] w) (_ : T_gnomon_step_One_j2 cr_52j2_0 cr_52j2_1 cr_52j2_2 ccr_52j2_3 ccr_52j2_4 ccr_52j2_5 ccr_52j2_6 x0 H K), F13_j2 (Value.pointer (some ⟨g_2, 0, none⟩)) (Value.pointer (some ⟨gbr_52j1, 0, none⟩)) w R E := by
      intro cr_52j2_0 cr_52j2_1 cr_52j2_2 ccr_52j2_3 ccr_52j2_4 ccr_52j2_5 ccr_52j2_6 Fcr_52j2_3 scr_52j2_4 Fcr_52j2_4 Fcr_52j2_5 Fcr_52j2_6 H w hcr_52j2_3 hcr_52j2_4 hcr_52j2_5 hcr_52j2_6 I h
      unfold F13_j2
      intro _
      unfold T_gnomon_step_One_j2 at h
      obtain ⟨H_109, I_110, l_111, h_112, h_113⟩ := Inv.freezeC (I.bring 4) hcr_52j2_5 (by decide)
      replace h := h scr_52j1_5 H_109 l_111 h_112 h_113
      refine opK_calls (cap := []) (fun args w => Try.call18 args w) ?_
      refine Cv_ct (Fi := [bx gbr_52j1 58 [(vs cr_52j2_0.fVars), (vi cr_52j2_0.fTemps), (vs cr_52j2_0.fArrays), (vi cr_52j2_0.fPoints), (vi cr_52j2_0.fExit), (vs cr_52j2_0.fEdges), (vs cr_52j2_1), (vi cr_52j2_2), (vs scr_52j1_3), (vs scr_52j2_4), (vs scr_52j1_5), (vs scr_52j1_6)], Fcr_52j2_3, Fcr_52j2_4, Fcr_52j2_6]) (Fr := [bx g_2 26 (cs_api_Cfg x0)]) ((((I_110.bring 4).bring 4).bring 4).bring 3) (h gbr_52j1 scr_52j1_3 Fcr_52j2_3 scr_52j2_4 Fcr_52j2_4 scr_52j1_6 Fcr_52j2_6 hcr_52j2_3 hcr_52j2_4 hcr_52j2_6) (fun v_118 H_114 F_119 w_115 I_116 l_121 k_117 q_120 => ?_) (fun _ _ _ _ _ q => q.elim)
      obtain ⟨r0_122, r1_122, rfl, rfl, h⟩ := q_120
      refine opK_pu (pu_extract _ _ _ rfl) ?_
      refine opK_pu (pu_extract _ _ _ rfl) ?_
      refine opK_pu (pu_not _) ?_
      refine xcond_b (fun c_177 => ?_) (fun c_177 => ?_)
      ·replace h := h.1 c_177
       exact hR (-1) 0 0 H_114 _ I_116.drop.drop.drop.drop.drop h
      ·replace h := h.2 c_177
       refine opK_pu pu_fa_26_5 ?_
       refine opK_ld (ld1 Try.isAgg24 ((I_116.bring 4).at1 (o := 5) (vs := [(vs x0.fEdges)]) (nb rfl) rfl)) ?_
       obtain ⟨h_126, h_127, x_123, h_129, h⟩ := h
       obtain ⟨g_124, o_125, h_128, h_129⟩ := h_129
       refine opK_pu (pu_ix_24 h_128 _ _ _ _ h_126 h_127) ?_
       refine opK_ld (ldA (vs := (cs_api_Edge x_123)) Try.isAgg52 Try.sizeOf52 rfl (I_116.atH h_129)) ?_
       refine s_alloc I_116 Try.zeroValue52 (cs := [(vi 0), (vi 0), (vi 0), (vi 0), (vi 0), (vi 0), (vi 0), (vi 0), (vi 0), (vi 0)]) rfl fun g_131 w_132 I_133 k_134 => ?_
       refine s_store I_133 Try.sizeOf52 (vs := (cs_api_Edge x_123)) (cs' := (cs_api_Edge x_123)) rfl rfl (nb rfl) rfl rfl fun w_135 I_136 k_137 => ?_
       refine s_dX I_136 fun w_138 I_139 => ?_
       refine qP_pu pu_fa_52_2 ?_
       refine qL_ld (ld1 Try.isAgg3 (I_139.at1 (o := 2) (vs := [(vi x_123.fKind)]) (nb rfl) rfl)) ?_
       refine qL_ld (ldA Try.isAgg52 Try.sizeOf52 rfl (I_139.at1 (o := 0) (vs := (cs_api_Edge x_123)) (nb rfl) rfl)) ?_
       refine opK_calls (cap := []) (fun args w => Try.call17 args w) ?_
       refine Cv_ct (Fi := []) (Fr := [bx g_131 52 (cs_api_Edge x_123), bx gbr_52j1 58 [(vs cr_52j2_0.fVars), (vi cr_52j2_0.fTemps), (vs cr_52j2_0.fArrays), (vi cr_52j2_0.fPoints), (vi cr_52j2_0.fExit), (vs cr_52j2_0.fEdges), (vs cr_52j2_1), (vi cr_52j2_2), (vs scr_52j1_3), (vs scr_52j2_4), (vs scr_52j1_5), (vs scr_52j1_6)], Fcr_52j2_3, Fcr_52j2_4, Fcr_52j2_6, bx g_2 26 (cs_api_Cfg x0)]) I_139 (h) (fun v_144 H_140 F_145 w_141 I_142 l_147 k_143 q_146 => ?_) (fun _ _ _ _ _ q => q.elim)
       obtain ⟨rfl, rfl, h⟩ := q_146
       refine ⟨(k_143 _ I_139.lt1 (Inv.not_in (Fi := []) I_139)), (k_143 _ I_139.lt1 (Inv.not_in (Fi := []) I_139)), ?_⟩
       obtain ⟨h_149, h_150, h⟩ := h
       refine qP_pu (pu_ixf_63__40_Value_func_func_30_Value_func_func_41_Value_func_func_42 _ _ h_149 h_150) ?_
       obtain ⟨K_160, h_161, h_162, h_163, h_164, h_165, h_166, h_167, h_168, h_169, h_170, h_171, h_172, h_173, h_174, h_175, h_176⟩ := h
       refine opK_cut (D := fun v_155 w_152 => ∃ (r0_159 : Int) (y0_159 : Tstep_state) (y0_3_159 : (List Int)) (y0_4_159 : (List (List Int))) (y0_6_159 : (List Tapi_Event)) (sy0_3_159 : Sl) (Fy0_3_159 : Frag) (sy0_4_159 : Sl) (Fy0_4_159 : Frag) (sy0_6_159 : Sl) (Fy0_6_159 : Frag) (H_151 : Hp), v_155 = (vi r0_159) ∧ (RowL 2 1 cs_int64 sy0_3_159 y0_3_159 Fy0_3_159) ∧ (RowsL 27 2 1 cs_int64 sy0_4_159 y0_4_159 Fy0_4_159) ∧ (RowL 74 3 cs_api_Event sy0_6_159 y0_6_159 Fy0_6_159) ∧ (Inv w0 ps0 H0 H_151 [bx gbr_52j1 58 [(Value.slice (((y0_159).fc).fVars).a (((y0_159).fc).fVars).n (((y0_159).fc).fVars).c), (vi (((y0_159).fc).fTemps)), (Value.slice (((y0_159).fc).fArrays).a (((y0_159).fc).fArrays).n (((y0_159).fc).fArrays).c), (vi (((y0_159).fc).fPoints)), (vi (((y0_159).fc).fExit)), (Value.slice (((y0_159).fc).fEdges).a (((y0_159).fc).fEdges).n (((y0_159).fc).fEdges).c), (Value.slice ((y0_159).ffrom).a ((y0_159).ffrom).n ((y0_159).ffrom).c), (vi ((y0_159).fpoint)), (vs sy0_3_159), (vs sy0_4_159), (Value.slice ((y0_159).fscript).a ((y0_159).fscript).n ((y0_159).fscript).c), (vs sy0_6_159)], Fy0_3_159, Fy0_4_159, Fy0_6_159, bx g_131 52 (cs_api_Edge x_123), bx g_2 26 (cs_api_Cfg x0)] w_152) ∧ (∀ i, i < w_141.heap.size → ¬ inF [bx gbr_52j1 58 [(vs cr_52j2_0.fVars), (vi cr_52j2_0.fTemps), (vs cr_52j2_0.fArrays), (vi cr_52j2_0.fPoints), (vi cr_52j2_0.fExit), (vs cr_52j2_0.fEdges), (vs cr_52j2_1), (vi cr_52j2_2), (vs scr_52j1_3), (vs scr_52j2_4), (vs scr_52j1_5), (vs scr_52j1_6)], Fcr_52j2_3, Fcr_52j2_4, Fcr_52j2_6] i → w_152.heap[i]? = w_141.heap[i]?) ∧ Hle H_140 H_151 ∧ (K_160 r0_159 y0_159 y0_3_159 y0_4_159 y0_6_159 H_151)) ?_ ?_
       ·obtain e | e | e | e | e | e | e | e | e | e | e | e | e | e | e := (by omega : (x_123.fKind : Int) = 0 ∨ (x_123.fKind : Int) = 1 ∨ (x_123.fKind : Int) = 2 ∨ (x_123.fKind : Int) = 3 ∨ (x_123.fKind : Int) = 4 ∨ (x_123.fKind : Int) = 5 ∨ (x_123.fKind : Int) = 6 ∨ (x_123.fKind : Int) = 7 ∨ (x_123.fKind : Int) = 8 ∨ (x_123.fKind : Int) = 9 ∨ (x_123.fKind : Int) = 10 ∨ (x_123.fKind : Int) = 11 ∨ (x_123.fKind : Int) = 12 ∨ (x_123.fKind : Int) = 13 ∨ (x_123.fKind : Int) = 14)
        ·exact (h_162 e).elim
        ·replace h := h_163 e
         refine opK_e (s' := xCall (Value.func (.func 30) #[] #[]) [(Value.pointer (some ⟨gbr_52j1, 0, none⟩)), (Value.agg (cs_api_Edge x_123).toArray)]) (by rw [e]; rfl) ?_
         refine opK_calls (cap := []) (fun args w => Try.call30 args w) ?_
         refine Cv_ct (Fi := [bx gbr_52j1 58 [(vs cr_52j2_0.fVars), (vi cr_52j2_0.fTemps), (vs cr_52j2_0.fArrays), (vi cr_52j2_0.fPoints), (vi cr_52j2_0.fExit), (vs cr_52j2_0.fEdges), (vs cr_52j2_1), (vi cr_52j2_2), (vs scr_52j1_3), (vs scr_52j2_4), (vs scr_52j1_5), (vs scr_52j1_6)], Fcr_52j2_3, Fcr_52j2_4, Fcr_52j2_6]) (Fr := [bx g_131 52 (cs_api_Edge x_123), bx g_2 26 (cs_api_Cfg x0)]) ((((I_142.bring 4).bring 4).bring 4).bring 4) (h gbr_52j1 scr_52j1_3 Fcr_52j2_3 scr_52j2_4 Fcr_52j2_4 scr_52j1_6 Fcr_52j2_6 hcr_52j2_3 hcr_52j2_4 hcr_52j2_6) (fun v_155 H_151 F_156 w_152 I_153 l_158 k_154 q_157 => ?_) (fun _ _ _ _ _ q => q.elim)
         obtain ⟨r0_159, y0_159, y0_3_159, y0_4_159, y0_6_159, sy0_3_159, Fy0_3_159, sy0_4_159, Fy0_4_159, sy0_6_159, Fy0_6_159, rfl, rfl, hy0_3_159, hy0_4_159, hy0_6_159, h⟩ := q_157
         exact ⟨r0_159, y0_159, y0_3_159, y0_4_159, y0_6_159, sy0_3_159, Fy0_3_159, sy0_4_159, Fy0_4_159, sy0_6_159, Fy0_6_159, H_151, rfl, hy0_3_159, hy0_4_159, hy0_6_159, I_153, k_154, l_158, h⟩
        ·replace h := h_164 e
         refine opK_e (s' := xCall (Value.func (.func 31) #[] #[]) [(Value.pointer (some ⟨gbr_52j1, 0, none⟩)), (Value.agg (cs_api_Edge x_123).toArray)]) (by rw [e]; rfl) ?_
         refine opK_calls (cap := []) (fun args w => Try.call31 args w) ?_
         refine Cv_ct (Fi := [bx gbr_52j1 58 [(vs cr_52j2_0.fVars), (vi cr_52j2_0.fTemps), (vs cr_52j2_0.fArrays), (vi cr_52j2_0.fPoints), (vi cr_52j2_0.fExit), (vs cr_52j2_0.fEdges), (vs cr_52j2_1), (vi cr_52j2_2), (vs scr_52j1_3), (vs scr_52j2_4), (vs scr_52j1_5), (vs scr_52j1_6)], Fcr_52j2_3, Fcr_52j2_4, Fcr_52j2_6]) (Fr := [bx g_131 52 (cs_api_Edge x_123), bx g_2 26 (cs_api_Cfg x0)]) ((((I_142.bring 4).bring 4).bring 4).bring 4) (h gbr_52j1 scr_52j1_3 Fcr_52j2_3 scr_52j2_4 Fcr_52j2_4 scr_52j1_6 Fcr_52j2_6 hcr_52j2_3 hcr_52j2_4 hcr_52j2_6) (fun v_155 H_151 F_156 w_152 I_153 l_158 k_154 q_157 => ?_) (fun _ _ _ _ _ q => q.elim)
         obtain ⟨r0_159, y0_159, y0_3_159, y0_4_159, y0_6_159, sy0_3_159, Fy0_3_159, sy0_4_159, Fy0_4_159, sy0_6_159, Fy0_6_159, rfl, rfl, hy0_3_159, hy0_4_159, hy0_6_159, h⟩ := q_157
         exact ⟨r0_159, y0_159, y0_3_159, y0_4_159, y0_6_159, sy0_3_159, Fy0_3_159, sy0_4_159, Fy0_4_159, sy0_6_159, Fy0_6_159, H_151, rfl, hy0_3_159, hy0_4_159, hy0_6_159, I_153, k_154, l_158, h⟩
        ·replace h := h_165 e
         refine opK_e (s' := xCall (Value.func (.func 32) #[] #[]) [(Value.pointer (some ⟨gbr_52j1, 0, none⟩)), (Value.agg (cs_api_Edge x_123).toArray)]) (by rw [e]; rfl) ?_
         refine opK_calls (cap := []) (fun args w => Try.call32 args w) ?_
         refine Cv_ct (Fi := [bx gbr_52j1 58 [(vs cr_52j2_0.fVars), (vi cr_52j2_0.fTemps), (vs cr_52j2_0.fArrays), (vi cr_52j2_0.fPoints), (vi cr_52j2_0.fExit), (vs cr_52j2_0.fEdges), (vs cr_52j2_1), (vi cr_52j2_2), (vs scr_52j1_3), (vs scr_52j2_4), (vs scr_52j1_5), (vs scr_52j1_6)], Fcr_52j2_3, Fcr_52j2_4, Fcr_52j2_6]) (Fr := [bx g_131 52 (cs_api_Edge x_123), bx g_2 26 (cs_api_Cfg x0)]) ((((I_142.bring 4).bring 4).bring 4).bring 4) (h gbr_52j1 scr_52j1_3 Fcr_52j2_3 scr_52j2_4 Fcr_52j2_4 scr_52j1_6 Fcr_52j2_6 hcr_52j2_3 hcr_52j2_4 hcr_52j2_6) (fun v_155 H_151 F_156 w_152 I_153 l_158 k_154 q_157 => ?_) (fun _ _ _ _ _ q => q.elim)
         obtain ⟨r0_159, y0_159, y0_3_159, y0_4_159, y0_6_159, sy0_3_159, Fy0_3_159, sy0_4_159, Fy0_4_159, sy0_6_159, Fy0_6_159, rfl, rfl, hy0_3_159, hy0_4_159, hy0_6_159, h⟩ := q_157
         exact ⟨r0_159, y0_159, y0_3_159, y0_4_159, y0_6_159, sy0_3_159, Fy0_3_159, sy0_4_159, Fy0_4_159, sy0_6_159, Fy0_6_159, H_151, rfl, hy0_3_159, hy0_4_159, hy0_6_159, I_153, k_154, l_158, h⟩
        ·replace h := h_166 e
         refine opK_e (s' := xCall (Value.func (.func 33) #[] #[]) [(Value.pointer (some ⟨gbr_52j1, 0, none⟩)), (Value.agg (cs_api_Edge x_123).toArray)]) (by rw [e]; rfl) ?_
         refine opK_calls (cap := []) (fun args w => Try.call33 args w) ?_
         refine Cv_ct (Fi := [bx gbr_52j1 58 [(vs cr_52j2_0.fVars), (vi cr_52j2_0.fTemps), (vs cr_52j2_0.fArrays), (vi cr_52j2_0.fPoints), (vi cr_52j2_0.fExit), (vs cr_52j2_0.fEdges), (vs cr_52j2_1), (vi cr_52j2_2), (vs scr_52j1_3), (vs scr_52j2_4), (vs scr_52j1_5), (vs scr_52j1_6)], Fcr_52j2_3, Fcr_52j2_4, Fcr_52j2_6]) (Fr := [bx g_131 52 (cs_api_Edge x_123), bx g_2 26 (cs_api_Cfg x0)]) ((((I_142.bring 4).bring 4).bring 4).bring 4) (h gbr_52j1 scr_52j1_3 Fcr_52j2_3 scr_52j2_4 Fcr_52j2_4 scr_52j1_6 Fcr_52j2_6 hcr_52j2_3 hcr_52j2_4 hcr_52j2_6) (fun v_155 H_151 F_156 w_152 I_153 l_158 k_154 q_157 => ?_) (fun _ _ _ _ _ q => q.elim)
         obtain ⟨r0_159, y0_159, y0_3_159, y0_4_159, y0_6_159, sy0_3_159, Fy0_3_159, sy0_4_159, Fy0_4_159, sy0_6_159, Fy0_6_159, rfl, rfl, hy0_3_159, hy0_4_159, hy0_6_159, h⟩ := q_157
         exact ⟨r0_159, y0_159, y0_3_159, y0_4_159, y0_6_159, sy0_3_159, Fy0_3_159, sy0_4_159, Fy0_4_159, sy0_6_159, Fy0_6_159, H_151, rfl, hy0_3_159, hy0_4_159, hy0_6_159, I_153, k_154, l_158, h⟩
        ·replace h := h_167 e
         refine opK_e (s' := xCall (Value.func (.func 34) #[] #[]) [(Value.pointer (some ⟨gbr_52j1, 0, none⟩)), (Value.agg (cs_api_Edge x_123).toArray)]) (by rw [e]; rfl) ?_
         refine opK_calls (cap := []) (fun args w => Try.call34 args w) ?_
         refine Cv_ct (Fi := [bx gbr_52j1 58 [(vs cr_52j2_0.fVars), (vi cr_52j2_0.fTemps), (vs cr_52j2_0.fArrays), (vi cr_52j2_0.fPoints), (vi cr_52j2_0.fExit), (vs cr_52j2_0.fEdges), (vs cr_52j2_1), (vi cr_52j2_2), (vs scr_52j1_3), (vs scr_52j2_4), (vs scr_52j1_5), (vs scr_52j1_6)], Fcr_52j2_3, Fcr_52j2_4, Fcr_52j2_6]) (Fr := [bx g_131 52 (cs_api_Edge x_123), bx g_2 26 (cs_api_Cfg x0)]) ((((I_142.bring 4).bring 4).bring 4).bring 4) (h gbr_52j1 scr_52j1_3 Fcr_52j2_3 scr_52j2_4 Fcr_52j2_4 scr_52j1_6 Fcr_52j2_6 hcr_52j2_3 hcr_52j2_4 hcr_52j2_6) (fun v_155 H_151 F_156 w_152 I_153 l_158 k_154 q_157 => ?_) (fun _ _ _ _ _ q => q.elim)
         obtain ⟨r0_159, y0_159, y0_3_159, y0_4_159, y0_6_159, sy0_3_159, Fy0_3_159, sy0_4_159, Fy0_4_159, sy0_6_159, Fy0_6_159, rfl, rfl, hy0_3_159, hy0_4_159, hy0_6_159, h⟩ := q_157
         exact ⟨r0_159, y0_159, y0_3_159, y0_4_159, y0_6_159, sy0_3_159, Fy0_3_159, sy0_4_159, Fy0_4_159, sy0_6_159, Fy0_6_159, H_151, rfl, hy0_3_159, hy0_4_159, hy0_6_159, I_153, k_154, l_158, h⟩
        ·replace h := h_168 e
         refine opK_e (s' := xCall (Value.func (.func 35) #[] #[]) [(Value.pointer (some ⟨gbr_52j1, 0, none⟩)), (Value.agg (cs_api_Edge x_123).toArray)]) (by rw [e]; rfl) ?_
         refine opK_calls (cap := []) (fun args w => Try.call35 args w) ?_
         refine Cv_ct (Fi := [bx gbr_52j1 58 [(vs cr_52j2_0.fVars), (vi cr_52j2_0.fTemps), (vs cr_52j2_0.fArrays), (vi cr_52j2_0.fPoints), (vi cr_52j2_0.fExit), (vs cr_52j2_0.fEdges), (vs cr_52j2_1), (vi cr_52j2_2), (vs scr_52j1_3), (vs scr_52j2_4), (vs scr_52j1_5), (vs scr_52j1_6)], Fcr_52j2_3, Fcr_52j2_4, Fcr_52j2_6]) (Fr := [bx g_131 52 (cs_api_Edge x_123), bx g_2 26 (cs_api_Cfg x0)]) ((((I_142.bring 4).bring 4).bring 4).bring 4) (h gbr_52j1 scr_52j1_3 Fcr_52j2_3 scr_52j2_4 Fcr_52j2_4 scr_52j1_6 Fcr_52j2_6 hcr_52j2_3 hcr_52j2_4 hcr_52j2_6) (fun v_155 H_151 F_156 w_152 I_153 l_158 k_154 q_157 => ?_) (fun _ _ _ _ _ q => q.elim)
         obtain ⟨r0_159, y0_159, y0_3_159, y0_4_159, y0_6_159, sy0_3_159, Fy0_3_159, sy0_4_159, Fy0_4_159, sy0_6_159, Fy0_6_159, rfl, rfl, hy0_3_159, hy0_4_159, hy0_6_159, h⟩ := q_157
         exact ⟨r0_159, y0_159, y0_3_159, y0_4_159, y0_6_159, sy0_3_159, Fy0_3_159, sy0_4_159, Fy0_4_159, sy0_6_159, Fy0_6_159, H_151, rfl, hy0_3_159, hy0_4_159, hy0_6_159, I_153, k_154, l_158, h⟩
        ·replace h := h_169 e
         refine opK_e (s' := xCall (Value.func (.func 36) #[] #[]) [(Value.pointer (some ⟨gbr_52j1, 0, none⟩)), (Value.agg (cs_api_Edge x_123).toArray)]) (by rw [e]; rfl) ?_
         refine opK_calls (cap := []) (fun args w => Try.call36 args w) ?_
         refine Cv_ct (Fi := [bx gbr_52j1 58 [(vs cr_52j2_0.fVars), (vi cr_52j2_0.fTemps), (vs cr_52j2_0.fArrays), (vi cr_52j2_0.fPoints), (vi cr_52j2_0.fExit), (vs cr_52j2_0.fEdges), (vs cr_52j2_1), (vi cr_52j2_2), (vs scr_52j1_3), (vs scr_52j2_4), (vs scr_52j1_5), (vs scr_52j1_6)], Fcr_52j2_3, Fcr_52j2_4, Fcr_52j2_6]) (Fr := [bx g_131 52 (cs_api_Edge x_123), bx g_2 26 (cs_api_Cfg x0)]) ((((I_142.bring 4).bring 4).bring 4).bring 4) (h gbr_52j1 scr_52j1_3 Fcr_52j2_3 scr_52j2_4 Fcr_52j2_4 scr_52j1_6 Fcr_52j2_6 hcr_52j2_3 hcr_52j2_4 hcr_52j2_6) (fun v_155 H_151 F_156 w_152 I_153 l_158 k_154 q_157 => ?_) (fun _ _ _ _ _ q => q.elim)
         obtain ⟨r0_159, y0_159, y0_3_159, y0_4_159, y0_6_159, sy0_3_159, Fy0_3_159, sy0_4_159, Fy0_4_159, sy0_6_159, Fy0_6_159, rfl, rfl, hy0_3_159, hy0_4_159, hy0_6_159, h⟩ := q_157
         exact ⟨r0_159, y0_159, y0_3_159, y0_4_159, y0_6_159, sy0_3_159, Fy0_3_159, sy0_4_159, Fy0_4_159, sy0_6_159, Fy0_6_159, H_151, rfl, hy0_3_159, hy0_4_159, hy0_6_159, I_153, k_154, l_158, h⟩
        ·replace h := h_170 e
         refine opK_e (s' := xCall (Value.func (.func 37) #[] #[]) [(Value.pointer (some ⟨gbr_52j1, 0, none⟩)), (Value.agg (cs_api_Edge x_123).toArray)]) (by rw [e]; rfl) ?_
         refine opK_calls (cap := []) (fun args w => Try.call37 args w) ?_
         refine Cv_ct (Fi := [bx gbr_52j1 58 [(vs cr_52j2_0.fVars), (vi cr_52j2_0.fTemps), (vs cr_52j2_0.fArrays), (vi cr_52j2_0.fPoints), (vi cr_52j2_0.fExit), (vs cr_52j2_0.fEdges), (vs cr_52j2_1), (vi cr_52j2_2), (vs scr_52j1_3), (vs scr_52j2_4), (vs scr_52j1_5), (vs scr_52j1_6)], Fcr_52j2_3, Fcr_52j2_4, Fcr_52j2_6]) (Fr := [bx g_131 52 (cs_api_Edge x_123), bx g_2 26 (cs_api_Cfg x0)]) ((((I_142.bring 4).bring 4).bring 4).bring 4) (h gbr_52j1 scr_52j1_3 Fcr_52j2_3 scr_52j2_4 Fcr_52j2_4 scr_52j1_6 Fcr_52j2_6 hcr_52j2_3 hcr_52j2_4 hcr_52j2_6) (fun v_155 H_151 F_156 w_152 I_153 l_158 k_154 q_157 => ?_) (fun _ _ _ _ _ q => q.elim)
         obtain ⟨r0_159, y0_159, y0_3_159, y0_4_159, y0_6_159, sy0_3_159, Fy0_3_159, sy0_4_159, Fy0_4_159, sy0_6_159, Fy0_6_159, rfl, rfl, hy0_3_159, hy0_4_159, hy0_6_159, h⟩ := q_157
         exact ⟨r0_159, y0_159, y0_3_159, y0_4_159, y0_6_159, sy0_3_159, Fy0_3_159, sy0_4_159, Fy0_4_159, sy0_6_159, Fy0_6_159, H_151, rfl, hy0_3_159, hy0_4_159, hy0_6_159, I_153, k_154, l_158, h⟩
        ·replace h := h_171 e
         refine opK_e (s' := xCall (Value.func (.func 38) #[] #[]) [(Value.pointer (some ⟨gbr_52j1, 0, none⟩)), (Value.agg (cs_api_Edge x_123).toArray)]) (by rw [e]; rfl) ?_
         refine opK_calls (cap := []) (fun args w => Try.call38 args w) ?_
         refine Cv_ct (Fi := [bx gbr_52j1 58 [(vs cr_52j2_0.fVars), (vi cr_52j2_0.fTemps), (vs cr_52j2_0.fArrays), (vi cr_52j2_0.fPoints), (vi cr_52j2_0.fExit), (vs cr_52j2_0.fEdges), (vs cr_52j2_1), (vi cr_52j2_2), (vs scr_52j1_3), (vs scr_52j2_4), (vs scr_52j1_5), (vs scr_52j1_6)], Fcr_52j2_3, Fcr_52j2_4, Fcr_52j2_6]) (Fr := [bx g_131 52 (cs_api_Edge x_123), bx g_2 26 (cs_api_Cfg x0)]) ((((I_142.bring 4).bring 4).bring 4).bring 4) (h gbr_52j1 scr_52j1_3 Fcr_52j2_3 scr_52j2_4 Fcr_52j2_4 scr_52j1_6 Fcr_52j2_6 hcr_52j2_3 hcr_52j2_4 hcr_52j2_6) (fun v_155 H_151 F_156 w_152 I_153 l_158 k_154 q_157 => ?_) (fun _ _ _ _ _ q => q.elim)
         obtain ⟨r0_159, y0_159, y0_3_159, y0_4_159, y0_6_159, sy0_3_159, Fy0_3_159, sy0_4_159, Fy0_4_159, sy0_6_159, Fy0_6_159, rfl, rfl, hy0_3_159, hy0_4_159, hy0_6_159, h⟩ := q_157
         exact ⟨r0_159, y0_159, y0_3_159, y0_4_159, y0_6_159, sy0_3_159, Fy0_3_159, sy0_4_159, Fy0_4_159, sy0_6_159, Fy0_6_159, H_151, rfl, hy0_3_159, hy0_4_159, hy0_6_159, I_153, k_154, l_158, h⟩
        ·replace h := h_172 e
         refine opK_e (s' := xCall (Value.func (.func 39) #[] #[]) [(Value.pointer (some ⟨gbr_52j1, 0, none⟩)), (Value.agg (cs_api_Edge x_123).toArray)]) (by rw [e]; rfl) ?_
         refine opK_calls (cap := []) (fun args w => Try.call39 args w) ?_
         refine Cv_ct (Fi := [bx gbr_52j1 58 [(vs cr_52j2_0.fVars), (vi cr_52j2_0.fTemps), (vs cr_52j2_0.fArrays), (vi cr_52j2_0.fPoints), (vi cr_52j2_0.fExit), (vs cr_52j2_0.fEdges), (vs cr_52j2_1), (vi cr_52j2_2), (vs scr_52j1_3), (vs scr_52j2_4), (vs scr_52j1_5), (vs scr_52j1_6)], Fcr_52j2_3, Fcr_52j2_4, Fcr_52j2_6]) (Fr := [bx g_131 52 (cs_api_Edge x_123), bx g_2 26 (cs_api_Cfg x0)]) ((((I_142.bring 4).bring 4).bring 4).bring 4) (h gbr_52j1 scr_52j1_3 Fcr_52j2_3 scr_52j2_4 Fcr_52j2_4 scr_52j1_6 Fcr_52j2_6 hcr_52j2_3 hcr_52j2_4 hcr_52j2_6) (fun v_155 H_151 F_156 w_152 I_153 l_158 k_154 q_157 => ?_) (fun _ _ _ _ _ q => q.elim)
         obtain ⟨r0_159, y0_159, y0_3_159, y0_4_159, y0_6_159, sy0_3_159, Fy0_3_159, sy0_4_159, Fy0_4_159, sy0_6_159, Fy0_6_159, rfl, rfl, hy0_3_159, hy0_4_159, hy0_6_159, h⟩ := q_157
         exact ⟨r0_159, y0_159, y0_3_159, y0_4_159, y0_6_159, sy0_3_159, Fy0_3_159, sy0_4_159, Fy0_4_159, sy0_6_159, Fy0_6_159, H_151, rfl, hy0_3_159, hy0_4_159, hy0_6_159, I_153, k_154, l_158, h⟩
        ·replace h := h_173 e
         refine opK_e (s' := xCall (Value.func (.func 40) #[] #[]) [(Value.pointer (some ⟨gbr_52j1, 0, none⟩)), (Value.agg (cs_api_Edge x_123).toArray)]) (by rw [e]; rfl) ?_
         refine opK_calls (cap := []) (fun args w => Try.call40 args w) ?_
         refine Cv_ct (Fi := [bx gbr_52j1 58 [(vs cr_52j2_0.fVars), (vi cr_52j2_0.fTemps), (vs cr_52j2_0.fArrays), (vi cr_52j2_0.fPoints), (vi cr_52j2_0.fExit), (vs cr_52j2_0.fEdges), (vs cr_52j2_1), (vi cr_52j2_2), (vs scr_52j1_3), (vs scr_52j2_4), (vs scr_52j1_5), (vs scr_52j1_6)], Fcr_52j2_3, Fcr_52j2_4, Fcr_52j2_6]) (Fr := [bx g_131 52 (cs_api_Edge x_123), bx g_2 26 (cs_api_Cfg x0)]) ((((I_142.bring 4).bring 4).bring 4).bring 4) (h gbr_52j1 scr_52j1_3 Fcr_52j2_3 scr_52j2_4 Fcr_52j2_4 scr_52j1_6 Fcr_52j2_6 hcr_52j2_3 hcr_52j2_4 hcr_52j2_6) (fun v_155 H_151 F_156 w_152 I_153 l_158 k_154 q_157 => ?_) (fun _ _ _ _ _ q => q.elim)
         obtain ⟨r0_159, y0_159, y0_3_159, y0_4_159, y0_6_159, sy0_3_159, Fy0_3_159, sy0_4_159, Fy0_4_159, sy0_6_159, Fy0_6_159, rfl, rfl, hy0_3_159, hy0_4_159, hy0_6_159, h⟩ := q_157
         exact ⟨r0_159, y0_159, y0_3_159, y0_4_159, y0_6_159, sy0_3_159, Fy0_3_159, sy0_4_159, Fy0_4_159, sy0_6_159, Fy0_6_159, H_151, rfl, hy0_3_159, hy0_4_159, hy0_6_159, I_153, k_154, l_158, h⟩
        ·replace h := h_174 e
         refine opK_e (s' := xCall (Value.func (.func 30) #[] #[]) [(Value.pointer (some ⟨gbr_52j1, 0, none⟩)), (Value.agg (cs_api_Edge x_123).toArray)]) (by rw [e]; rfl) ?_
         refine opK_calls (cap := []) (fun args w => Try.call30 args w) ?_
         refine Cv_ct (Fi := [bx gbr_52j1 58 [(vs cr_52j2_0.fVars), (vi cr_52j2_0.fTemps), (vs cr_52j2_0.fArrays), (vi cr_52j2_0.fPoints), (vi cr_52j2_0.fExit), (vs cr_52j2_0.fEdges), (vs cr_52j2_1), (vi cr_52j2_2), (vs scr_52j1_3), (vs scr_52j2_4), (vs scr_52j1_5), (vs scr_52j1_6)], Fcr_52j2_3, Fcr_52j2_4, Fcr_52j2_6]) (Fr := [bx g_131 52 (cs_api_Edge x_123), bx g_2 26 (cs_api_Cfg x0)]) ((((I_142.bring 4).bring 4).bring 4).bring 4) (h gbr_52j1 scr_52j1_3 Fcr_52j2_3 scr_52j2_4 Fcr_52j2_4 scr_52j1_6 Fcr_52j2_6 hcr_52j2_3 hcr_52j2_4 hcr_52j2_6) (fun v_155 H_151 F_156 w_152 I_153 l_158 k_154 q_157 => ?_) (fun _ _ _ _ _ q => q.elim)
         obtain ⟨r0_159, y0_159, y0_3_159, y0_4_159, y0_6_159, sy0_3_159, Fy0_3_159, sy0_4_159, Fy0_4_159, sy0_6_159, Fy0_6_159, rfl, rfl, hy0_3_159, hy0_4_159, hy0_6_159, h⟩ := q_157
         exact ⟨r0_159, y0_159, y0_3_159, y0_4_159, y0_6_159, sy0_3_159, Fy0_3_159, sy0_4_159, Fy0_4_159, sy0_6_159, Fy0_6_159, H_151, rfl, hy0_3_159, hy0_4_159, hy0_6_159, I_153, k_154, l_158, h⟩
        ·replace h := h_175 e
         refine opK_e (s' := xCall (Value.func (.func 41) #[] #[]) [(Value.pointer (some ⟨gbr_52j1, 0, none⟩)), (Value.agg (cs_api_Edge x_123).toArray)]) (by rw [e]; rfl) ?_
         refine opK_calls (cap := []) (fun args w => Try.call41 args w) ?_
         refine Cv_ct (Fi := [bx gbr_52j1 58 [(vs cr_52j2_0.fVars), (vi cr_52j2_0.fTemps), (vs cr_52j2_0.fArrays), (vi cr_52j2_0.fPoints), (vi cr_52j2_0.fExit), (vs cr_52j2_0.fEdges), (vs cr_52j2_1), (vi cr_52j2_2), (vs scr_52j1_3), (vs scr_52j2_4), (vs scr_52j1_5), (vs scr_52j1_6)], Fcr_52j2_3, Fcr_52j2_4, Fcr_52j2_6]) (Fr := [bx g_131 52 (cs_api_Edge x_123), bx g_2 26 (cs_api_Cfg x0)]) ((((I_142.bring 4).bring 4).bring 4).bring 4) (h gbr_52j1 scr_52j1_3 Fcr_52j2_3 scr_52j2_4 Fcr_52j2_4 scr_52j1_6 Fcr_52j2_6 hcr_52j2_3 hcr_52j2_4 hcr_52j2_6) (fun v_155 H_151 F_156 w_152 I_153 l_158 k_154 q_157 => ?_) (fun _ _ _ _ _ q => q.elim)
         obtain ⟨r0_159, y0_159, y0_3_159, y0_4_159, y0_6_159, sy0_3_159, Fy0_3_159, sy0_4_159, Fy0_4_159, sy0_6_159, Fy0_6_159, rfl, rfl, hy0_3_159, hy0_4_159, hy0_6_159, h⟩ := q_157
         exact ⟨r0_159, y0_159, y0_3_159, y0_4_159, y0_6_159, sy0_3_159, Fy0_3_159, sy0_4_159, Fy0_4_159, sy0_6_159, Fy0_6_159, H_151, rfl, hy0_3_159, hy0_4_159, hy0_6_159, I_153, k_154, l_158, h⟩
        ·replace h := h_176 e
         refine opK_e (s' := xCall (Value.func (.func 42) #[] #[]) [(Value.pointer (some ⟨gbr_52j1, 0, none⟩)), (Value.agg (cs_api_Edge x_123).toArray)]) (by rw [e]; rfl) ?_
         refine opK_calls (cap := []) (fun args w => Try.call42 args w) ?_
         refine Cv_ct (Fi := [bx gbr_52j1 58 [(vs cr_52j2_0.fVars), (vi cr_52j2_0.fTemps), (vs cr_52j2_0.fArrays), (vi cr_52j2_0.fPoints), (vi cr_52j2_0.fExit), (vs cr_52j2_0.fEdges), (vs cr_52j2_1), (vi cr_52j2_2), (vs scr_52j1_3), (vs scr_52j2_4), (vs scr_52j1_5), (vs scr_52j1_6)], Fcr_52j2_3, Fcr_52j2_4, Fcr_52j2_6]) (Fr := [bx g_131 52 (cs_api_Edge x_123), bx g_2 26 (cs_api_Cfg x0)]) ((((I_142.bring 4).bring 4).bring 4).bring 4) (h gbr_52j1 scr_52j1_3 Fcr_52j2_3 scr_52j2_4 Fcr_52j2_4 scr_52j1_6 Fcr_52j2_6 hcr_52j2_3 hcr_52j2_4 hcr_52j2_6) (fun v_155 H_151 F_156 w_152 I_153 l_158 k_154 q_157 => ?_) (fun _ _ _ _ _ q => q.elim)
         obtain ⟨r0_159, y0_159, y0_3_159, y0_4_159, y0_6_159, sy0_3_159, Fy0_3_159, sy0_4_159, Fy0_4_159, sy0_6_159, Fy0_6_159, rfl, rfl, hy0_3_159, hy0_4_159, hy0_6_159, h⟩ := q_157
         exact ⟨r0_159, y0_159, y0_3_159, y0_4_159, y0_6_159, sy0_3_159, Fy0_3_159, sy0_4_159, Fy0_4_159, sy0_6_159, Fy0_6_159, H_151, rfl, hy0_3_159, hy0_4_159, hy0_6_159, I_153, k_154, l_158, h⟩
       ·rintro v_155 w_152 ⟨r0_159, y0_159, y0_3_159, y0_4_159, y0_6_159, sy0_3_159, Fy0_3_159, sy0_4_159, Fy0_4_159, sy0_6_159, Fy0_6_159, H_151, rfl, hy0_3_159, hy0_4_159, hy0_6_159, I_153, k_154, l_158, h⟩
        replace h := h_161 _ _ _ _ _ _ h
        exact hR r0_122 r0_159 0 H_151 _ I_153.drop.drop.drop.drop.drop.drop h
     refine xcut_i fun j2 hx2 => ?_
     refine opK_pu (pu_len_32 _ _ _) ?_
     obtain ⟨J_240, m_241, i_242, b_243⟩ := h
     refine xloop_J (J := fun n l w => ∃ (s : Int × Tapi_Cfg × Sl × Int × (List (List Int))) (H : Hp) (scr_52l3_4 : Sl) (Fcr_52l3_4 : Frag) , n = m_241 s ∧ l = (match s with | (s52l3, cr_52l3_0, cr_52l3_1, cr_52l3_2, ccr_52l3_4) => [(vi s52l3)]) ∧ (match s with | (s52l3, cr_52l3_0, cr_52l3_1, cr_52l3_2, ccr_52l3_4) => RowsL 27 2 1 cs_int64 scr_52l3_4 ccr_52l3_4 Fcr_52l3_4) ∧ (match s with | (s52l3, cr_52l3_0, cr_52l3_1, cr_52l3_2, ccr_52l3_4) => Inv w0 ps0 H0 H [bx gbr_52j1 58 [(vs cr_52l3_0.fVars), (vi cr_52l3_0.fTemps), (vs cr_52l3_0.fArrays), (vi cr_52l3_0.fPoints), (vi cr_52l3_0.fExit), (vs cr_52l3_0.fEdges), (vs cr_52l3_1), (vi cr_52l3_2), (vs scr_52j1_3), (vs scr_52l3_4), (vs scr_52j1_5), (vs scr_52j1_6)], bx g_2 26 (cs_api_Cfg x0), Fcr_52j1_3, Fcr_52j1_5, Fcr_52j1_6, Fcr_52l3_4] w) ∧ J_240 s H) ⟨_, (0, cr_52j1_0, cr_52j1_1, cr_52j1_2, ccr_52j1_4), H, scr_52j1_4, Fcr_52j1_4, rfl, rfl, hcr_52j1_4, ((((((I.bring 3).bring 5).bring 5).bring 5).bring 5).bring 5), i_242⟩ ?_
     rintro n_244 τ_245 w next3 ⟨⟨s52l3, cr_52l3_0, cr_52l3_1, cr_52l3_2, ccr_52l3_4⟩, H, scr_52l3_4, Fcr_52l3_4, rfl, l_246, hcr_52l3_4, I, s_247⟩ hn3
     dsimp only at l_246 I hcr_52l3_4
     simp only [List.map_cons, List.map_nil, List.cons.injEq, and_true] at l_246
     have e52 := l_246
     simp only [e52]
     obtain ⟨n3, hm3, h⟩ : ∃ n3 : (Int × Tapi_Cfg × Sl × Int × (List (List Int))) → Hp → Prop, (∀ s' H', n3 s' H' → J_240 s' H' ∧ m_241 s' < m_241 (s52l3, cr_52l3_0, cr_52l3_1, cr_52l3_2, ccr_52l3_4)) ∧ T_gnomon_step_One_l3 x2 (x2.n : Int) ccr_52j1_3 ccr_52j1_5 ccr_52j1_6 x0 s52l3 cr_52l3_0 cr_52l3_1 cr_52l3_2 ccr_52l3_4 H n3 K := ⟨_, fun _ _ h => h, b_243 (s52l3, cr_52l3_0, cr_52l3_1, cr_52l3_2, ccr_52l3_4) H (fun s' H' => J_240 s' H' ∧ m_241 s' < m_241 (s52l3, cr_52l3_0, cr_52l3_1, cr_52l3_2, ccr_52l3_4)) s_247 (fun _ _ a b => ⟨a, b⟩)⟩
     unfold F13_l3
     unfold T_gnomon_step_One_l3 at h
     refine opK_pu (pu_lss _ _ _ _ _ _) ?_
     refine xcond_p (fun c_239 => ?_) (fun c_239 => ?_)
     ·replace h := h.1 c_239
      obtain ⟨h_190, h_191, x_187, h_193, h⟩ := h
      obtain ⟨g_188, o_189, h_192, h_193⟩ := h_193
      refine opK_pu (pu_ix_32 h_192 _ _ _ _ h_190 h_191) ?_
      refine opK_ld (ld1 (v := (vs x_187)) Try.isAgg27 (I.atH h_193)) ?_
      refine s_dX I fun w_194 I_195 => ?_
      refine qP_pu (pu_nilp _) ?_
      refine qP_pu pu_fa_58_4 ?_
      refine qL_ld (ld1 Try.isAgg32 (I_195.at1 (o := 9) (vs := [(vs scr_52l3_4)]) (nb rfl) rfl)) ?_
      obtain ⟨ys_204, h_205, h⟩ := h
      obtain ⟨h_203, h⟩ := h
      refine app_27 (s := ⟨none, 0, 0⟩) (xs := []) I_195.nil (RowL.nil cs_int64_l cs_int64_o) (SlH.src I_195.nil h_205 cs_int64_l) h_203 fun s_197 F_198 w_199 h_200 I_201 k_202 => ?_
      simp only [List.nil_append] at h_200
      refine ⟨(k_202 _ (I_195.nil.bring 1).lt1 (Inv.row_ne_b ((I_195.nil.bring 1).bring 1))), ?_⟩
      refine s_bs (e := 27) (c := csl) (xs := [s_197]) I_201 (bs_32_1 _ _ _) rfl rfl csl_l csl_o (nb rfl) fun s_207 F_208 w_209 h_210 I_211 k_212 => ?_
      refine ⟨(k_212 _ (I_201.bring 1).lt1), ?_⟩
      obtain ⟨h_235, h⟩ := h
      obtain ⟨ss_213, F_214, F_215, h_216, h_217, I_218⟩ := RowsL.split hcr_52l3_4 (((I_211.bring 1).bring 1).join2.bring 6)
      obtain ⟨ss_221, F_222, F_223, h_224, h_225, I_226⟩ := RowsL.split (RowsL.one h_210 h_200) (I_218.bring 2)
      refine app_32 (s := scr_52l3_4) (xs := ss_213) (I_226.bring 2) h_216 (h_224.srcO ((I_226.bring 2).bring 1)) (by rw [h_217.len, h_225.len]; exact h_235) fun s_229 F_230 w_231 h_232 I_233 k_234 => ?_
      refine qP_pu (pu_nilp _) ?_
      refine qP_pu pu_fa_58_4 ?_
      refine s_store (((((I_233.bring 1).drop.bring 1).bring 2).bring 2).join3.bring 1) Try.sizeOf32 (vs := [(vs s_229)]) (cs' := [(vs cr_52l3_0.fVars), (vi cr_52l3_0.fTemps), (vs cr_52l3_0.fArrays), (vi cr_52l3_0.fPoints), (vi cr_52l3_0.fExit), (vs cr_52l3_0.fEdges), (vs cr_52l3_1), (vi cr_52l3_2), (vs scr_52j1_3), (vs s_229), (vs scr_52j1_5), (vs scr_52j1_6)]) rfl rfl (nb rfl) rfl rfl fun w_236 I_237 k_238 => ?_
      refine opK_pu (pu_add _ _ _ _ _ _) ?_
      exact hn3 _ _ _ (hm3 _ _ h).2 ⟨((IntKind.wrap .i64 (s52l3 + 1)), cr_52l3_0, cr_52l3_1, cr_52l3_2, (ccr_52l3_4 ++ [ys_204])), H, s_229, (F_230 ++ (F_215 ++ F_223)), rfl, rfl, (RowsL.app h_232 h_217 h_225), ((((((I_237.bring 1).bring 5).bring 5).bring 5).bring 5).bring 5), (hm3 _ _ h).1⟩
     ·replace h := h.2 c_239
      exact hx2 _ _ (hj2 cr_52l3_0 cr_52l3_1 cr_52l3_2 ccr_52j1_3 ccr_52l3_4 ccr_52j1_5 ccr_52j1_6 Fcr_52j1_3 scr_52l3_4 Fcr_52l3_4 Fcr_52j1_5 Fcr_52j1_6 H _ hcr_52j1_3 hcr_52l3_4 hcr_52j1_5 hcr_52j1_6 ((((((I.bring 4).bring 4).bring 5).bring 5).bring 5).bring 5) h)
    refine xcut_i fun j1 hx1 => ?_
    refine s_dX I_17 fun w_24 I_25 => ?_
    refine qL_ld (ldA Try.isAgg26 Try.sizeOf26 rfl (I_25.at1 (o := 0) (vs := (cs_api_Cfg x0)) (nb rfl) rfl)) ?_
    refine qL_ld (ldA Try.isAgg26 Try.sizeOf26 rfl (I_25.at1 (o := 0) (vs := (cs_api_Cfg x0)) (nb rfl) rfl)) ?_
    refine ⟨?_, ?_⟩
    ·refine opK_calls (cap := []) (fun args w => Try.call16 args w) ?_
     refine Cv_ct (Fi := []) (Fr := [bx g_2 26 (cs_api_Cfg x0)]) I_25 (h) (fun v_30 H_26 F_31 w_27 I_28 l_33 k_29 q_32 => ?_) (fun _ _ _ _ _ q => q.elim)
     obtain ⟨r0_34, rfl, rfl, h⟩ := q_32
     refine ⟨(k_29 _ I_25.lt1 (Inv.not_in (Fi := []) I_25)), ?_⟩
     refine ⟨?_, ?_⟩
     ·obtain ⟨ys_43, h_44, h⟩ := h
      obtain ⟨h_42, h⟩ := h
      refine app_27 (s := ⟨none, 0, 0⟩) (xs := []) I_28.nil (RowL.nil cs_int64_l cs_int64_o) (SlH.src I_28.nil h_44 cs_int64_l) h_42 fun s_36 F_37 w_38 h_39 I_40 k_41 => ?_
      simp only [List.nil_append] at h_39
      refine ⟨(k_41 _ (I_28.nil.bring 1).lt1 (Inv.row_ne_b ((I_28.nil.bring 1).bring 1))), ?_⟩
      refine s_bs (e := 2) (c := cs_int64) (xs := [x3]) I_40 (bs_27_1 _) rfl rfl cs_int64_l cs_int64_o (nb rfl) fun s_46 F_47 w_48 h_49 I_50 k_51 => ?_
      refine ⟨(k_51 _ (I_40.bring 1).lt1), (k_51 _ (I_40.bring 1).lt1), ?_⟩
      refine qP_pu (pu_bld_58_0_1_2_3_5 _ _ _ _ _ _ _ _ _ _ _ _ _ _ _ _ _ _ _ _ _ _) ?_
      refine s_box I_50 (cs := [(vs x0.fVars), (vi x0.fTemps), (vs x0.fArrays), (vi x0.fPoints), (vi x0.fExit), (vs x0.fEdges), (vs r0_34), (vi x4), (vs s_36), (Value.slice none 0 0), (vs s_46), (Value.slice none 0 0)]) rfl fun g_53 w_54 I_55 k_56 => ?_
      exact hx1 _ _ (hj1 x0 r0_34 x4 ys_43 [] [x3] [] s_36 F_37 (Sl.mk none 0 0) [] s_46 F_47 (Sl.mk none 0 0) [] g_53 H_26 _ h_39 (RowsL.nil cs_int64_l cs_int64_o) h_49 (RowL.nil cs_api_Event_l cs_api_Event_o) (((((I_55.nil.nil.bring 3).bring 2).bring 4).bring 5).bring 5) h)
     ·refine s_bs (e := 2) (c := cs_int64) (xs := [x3]) I_28 (bs_27_1 _) rfl rfl cs_int64_l cs_int64_o (nb rfl) fun s_249 F_250 w_251 h_252 I_253 k_254 => ?_
      refine ⟨(k_254 _ I_28.lt1), (k_254 _ I_28.lt1), ?_⟩
      obtain ⟨ys_263, h_264, h⟩ := h
      obtain ⟨h_262, h⟩ := h
      refine app_27 (s := ⟨none, 0, 0⟩) (xs := []) I_253.nil (RowL.nil cs_int64_l cs_int64_o) (SlH.src I_253.nil h_264 cs_int64_l) h_262 fun s_256 F_257 w_258 h_259 I_260 k_261 => ?_
      simp only [List.nil_append] at h_259
      refine ⟨(k_261 _ (I_253.nil.bring 2).lt1 (Inv.row_ne_b ((I_253.nil.bring 2).bring 1))), ?_⟩
      refine qP_pu (pu_bld_58_0_1_2_3_5 _ _ _ _ _ _ _ _ _ _ _ _ _ _ _ _ _ _ _ _ _ _) ?_
      refine s_box I_260 (cs := [(vs x0.fVars), (vi x0.fTemps), (vs x0.fArrays), (vi x0.fPoints), (vi x0.fExit), (vs x0.fEdges), (vs r0_34), (vi x4), (vs s_256), (Value.slice none 0 0), (vs s_249), (Value.slice none 0 0)]) rfl fun g_266 w_267 I_268 k_269 => ?_
      exact hx1 _ _ (hj1 x0 r0_34 x4 ys_263 [] [x3] [] s_256 F_257 (Sl.mk none 0 0) [] s_249 F_250 (Sl.mk none 0 0) [] g_266 H_26 _ h_259 (RowsL.nil cs_int64_l cs_int64_o) h_252 (RowL.nil cs_api_Event_l cs_api_Event_o) (((((I_268.nil.nil.bring 4).bring 2).bring 4).bring 5).bring 5) h)
    ·refine s_bs (e := 2) (c := cs_int64) (xs := [x3]) I_25 (bs_27_1 _) rfl rfl cs_int64_l cs_int64_o (nb rfl) fun s_271 F_272 w_273 h_274 I_275 k_276 => ?_
     refine ⟨(k_276 _ I_25.lt1), (k_276 _ I_25.lt1), ?_⟩
     refine opK_calls (cap := []) (fun args w => Try.call16 args w) ?_
     refine Cv_ct (Fi := []) (Fr := [F_272, bx g_2 26 (cs_api_Cfg x0)]) I_275 (h) (fun v_281 H_277 F_282 w_278 I_279 l_284 k_280 q_283 => ?_) (fun _ _ _ _ _ q => q.elim)
     obtain ⟨r0_285, rfl, rfl, h⟩ := q_283
     refine ⟨(k_280 _ (I_275.bring 1).lt1 (Inv.not_in (Fi := []) (I_275.bring 1))), ?_⟩
     obtain ⟨ys_294, h_295, h⟩ := h
     obtain ⟨h_293, h⟩ := h
     refine app_27 (s := ⟨none, 0, 0⟩) (xs := []) I_279.nil (RowL.nil cs_int64_l cs_int64_o) (SlH.src I_279.nil h_295 cs_int64_l) h_293 fun s_287 F_288 w_289 h_290 I_291 k_292 => ?_
     simp only [List.nil_append] at h_290
     refine ⟨(k_292 _ (I_279.nil.bring 2).lt1 (Inv.row_ne_b ((I_279.nil.bring 2).bring 1))), ?_⟩
     refine qP_pu (pu_bld_58_0_1_2_3_5 _ _ _ _ _ _ _ _ _ _ _ _ _ _ _ _ _ _ _ _ _ _) ?_
     refine s_box I_291 (cs := [(vs x0.fVars), (vi x0.fTemps), (vs x0.fArrays), (vi x0.fPoints), (vi x0.fExit), (vs x0.fEdges), (vs r0_285), (vi x4), (vs s_287), (Value.slice none 0 0), (vs s_271), (Value.slice none 0 0)]) rfl fun g_297 w_298 I_299 k_300 => ?_
     exact hx1 _ _ (hj1 x0 r0_285 x4 ys_294 [] [x3] [] s_287 F_288 (Sl.mk none 0 0) [] s_271 F_272 (Sl.mk none 0 0) [] g_297 H_277 _ h_290 (RowsL.nil cs_int64_l cs_int64_o) h_274 (RowL.nil cs_api_Event_l cs_api_Event_o) (((((I_299.nil.nil.bring 4).bring 2).bring 4).bring 5).bring 5) h)
theorem L_gnomon_step_One (x0 : Tapi_Cfg) (x1 : Sl) (x2 : Sl) (x3 : Int) (x4 : Int) {H : Hp} {K : Int → Int → Int → Hp → Prop} (h : T_gnomon_step_One x0 x1 x2 x3 x4 H K) : C_gnomon_step_One x0 x1 x2 x3 x4 H K := by
 intro w I
 refine F13_ok ?_
 refine LF_gnomon_step_One x0 x1 x2 x3 x4 I (fun r0 r1 r2 H' w' I' hk => ⟨H', _, I', r0, r1, r2, rfl, rfl, hk⟩) h


/- function 4: gnomon/gnomonlaw10.StepOne -/
def T_gnomon_gnomonlaw10_StepOne_j2 (s1j2 : Sl) (s2j2 : Sl) (s3j2 : Int) (s4j2 : Int) (s11j2 : Sl) (s14j2 : Int) (s15j2 : Int) (s16j2 : Int) (cr_1j2 : Tapi_Cfg) (H : Hp) (K : Bool → Hp → Prop) : Prop :=
 C_gnomon_gnomonref10_One cr_1j2 s1j2 s2j2 s3j2 s4j2 H (fun (r0_125 : Int) (r1_125 : Int) (_r2_125 : Sl) (r3_125 : Int) (H_117 : Hp) => 
 TG ((((decide (s16j2 = r3_125)) && (decide (s14j2 = r0_125))) && (decide (s15j2 = r1_125))) = true) (C_gnomon_gnomonhelp_Longs s11j2 s1j2 H_117) false H_117 (fun (r0_134 : Bool) (H_126 : Hp) =>
 K ((((decide (s16j2 = r3_125)) && (decide (s14j2 = r0_125))) && (decide (s15j2 = r1_125))) && r0_134) H_126))
def T_gnomon_gnomonlaw10_StepOne_l3 (s1l3 : Sl) (s2l3 : Sl) (s3l3 : Int) (s4l3 : Int) (s11l3 : Sl) (s12l3 : Sl) (s14l3 : Int) (s15l3 : Int) (s16l3 : Int) (cr_1l3 : Tapi_Cfg) (s17l3 : Int) (H : Hp) (n3 : Int → Hp → Prop) (K : Bool → Hp → Prop) : Prop :=
 (s17l3 < (s2l3.n : Int) →
 (0 : Int) ≤ s17l3 ∧ (s17l3 : Int) < s12l3.n ∧ ∃ x_93 : Sl, EltH H s12l3 s17l3 1 [(vs x_93)] ∧ 
 (0 : Int) ≤ s17l3 ∧ (s17l3 : Int) < s2l3.n ∧ ∃ x_100 : Sl, EltH H s2l3 s17l3 1 [(vs x_100)] ∧ 
 C_gnomon_gnomonhelp_Longs x_93 x_100 H (fun (r0_115 : Bool) (H_107 : Hp) => 
 ((!r0_115) = true →
 K false H_107) ∧
 ((!r0_115) = false →
 n3 (IntKind.wrap .i64 (s17l3 + 1)) H_107))) ∧
 (¬ (s17l3 < (s2l3.n : Int)) →
 T_gnomon_gnomonlaw10_StepOne_j2 s1l3 s2l3 s3l3 s4l3 s11l3 s14l3 s15l3 s16l3 cr_1l3 H K)
def T_gnomon_gnomonlaw10_StepOne_j1 (s1j1 : Sl) (s2j1 : Sl) (s3j1 : Int) (s4j1 : Int) (cs11j1 : (List Int)) (cs12j1 : (List (List Int))) (cr_1j1 : Tapi_Cfg) (H : Hp) (K : Bool → Hp → Prop) : Prop :=
 ∀ (s_16 : Sl) (H_72 : Hp), Hle H H_72 → SlH H_72 1 cs_int64 s_16 cs11j1 → s_16.n ≤ s_16.c →
 ∀ (ss12j1 : Sl) (H_77 : Hp), Hle H_72 H_77 → SlHH H_77 1 cs_int64 ss12j1 cs12j1 → ss12j1.n ≤ ss12j1.c →
 C_gnomon_step_One cr_1j1 s_16 ss12j1 s3j1 s4j1 H_77 (fun (r0_90 : Int) (r1_90 : Int) (r2_90 : Int) (H_82 : Hp) => 
 TL (0 : Int) H_82 fun (s : Int) H n3 => T_gnomon_gnomonlaw10_StepOne_l3 s1j1 s2j1 s3j1 s4j1 s_16 ss12j1 r0_90 r1_90 r2_90 cr_1j1 s H n3 K)
def T_gnomon_gnomonlaw10_StepOne_l4 (s1l4 : Sl) (s2l4 : Sl) (s3l4 : Int) (s4l4 : Int) (cs11l4 : (List Int)) (cr_1l4 : Tapi_Cfg) (cs12l4 : (List (List Int))) (s13l4 : Int) (H : Hp) (n4 : ((List (List Int)) × Int) → Hp → Prop) (K : Bool → Hp → Prop) : Prop :=
 (s13l4 < (s2l4.n : Int) →
 (0 : Int) ≤ s13l4 ∧ (s13l4 : Int) < s2l4.n ∧ ∃ x_25 : Sl, EltH H s2l4 s13l4 1 [(vs x_25)] ∧ 
 ∃ ys_40 : List Int, SlH H 1 cs_int64 x_25 ys_40 ∧ (([] : List Int).length + ys_40.length) * 9 ≤ 140737488355328 ∧
 ((cs12l4 : List (List Int)).length + ([ys_40] : List (List Int)).length) * 25 ≤ 140737488355328 ∧
 n4 ((cs12l4 ++ [ys_40]), (IntKind.wrap .i64 (s13l4 + 1))) H) ∧
 (¬ (s13l4 < (s2l4.n : Int)) →
 T_gnomon_gnomonlaw10_StepOne_j1 s1l4 s2l4 s3l4 s4l4 cs11l4 cs12l4 cr_1l4 H K)
def T_gnomon_gnomonlaw10_StepOne (x0 : Tapi_Cfg) (x1 : Sl) (x2 : Sl) (x3 : Int) (x4 : Int) (H : Hp) (K : Bool → Hp → Prop) : Prop :=
 C_gnomon_gnomonlaw10_known H (fun (r0_14 : Bool) (H_6 : Hp) => 
 ((!r0_14) = true →
 K false H_6) ∧
 ((!r0_14) = false →
 ∃ ys_23 : List Int, SlH H_6 1 cs_int64 x1 ys_23 ∧ (([] : List Int).length + ys_23.length) * 9 ≤ 140737488355328 ∧
 TL (([], 0) : (List (List Int)) × Int) H_6 fun (s : (List (List Int)) × Int) H n4 => T_gnomon_gnomonlaw10_StepOne_l4 x1 x2 x3 x4 ys_23 x0 s.1 s.2 H n4 K))
theorem LF_gnomon_gnomonlaw10_StepOne (x0 : Tapi_Cfg) (x1 : Sl) (x2 : Sl) (x3 : Int) (x4 : Int) {w0 w : World} {ps0 : Nat → Prop} {H0 H : Hp} {K : Bool → Hp → Prop} {R : Value → World → Prop} {E : Pan} (I : Inv w0 ps0 H0 H [] w) (hR : ∀ (r0 : Bool) (H' : Hp) (w' : World) (_ : Inv w0 ps0 H0 H' [] w') (_ : K r0 H'), R (Value.bool r0) w') (h : T_gnomon_gnomonlaw10_StepOne x0 x1 x2 x3 x4 H K) : F4 (Value.agg (cs_api_Cfg x0).toArray) (vs x1) (vs x2) (vi x3) (vi x4) w R E := by
 unfold T_gnomon_gnomonlaw10_StepOne at h
 unfold F4
 refine s_box I (cs := (cs_api_Cfg x0)) rfl fun g_2 w_3 I_4 k_5 => ?_
 refine opK_calls (cap := []) (fun args w => Try.call5 args w) ?_
 refine Cv_ct (Fi := []) (Fr := [bx g_2 26 (cs_api_Cfg x0)]) I_4 (h) (fun v_10 H_6 F_11 w_7 I_8 l_13 k_9 q_12 => ?_) (fun _ _ _ _ _ q => q.elim)
 obtain ⟨r0_14, rfl, rfl, h⟩ := q_12
 refine opK_pu (pu_not _) ?_
 refine xcond_b (fun c_154 => ?_) (fun c_154 => ?_)
 ·replace h := h.1 c_154
  exact hR false H_6 _ I_8.drop h
 ·replace h := h.2 c_154
  obtain ⟨ys_23, h_24, h⟩ := h
  obtain ⟨h_22, h⟩ := h
  refine app_27 (s := ⟨none, 0, 0⟩) (xs := []) I_8.nil (RowL.nil cs_int64_l cs_int64_o) (SlH.src I_8.nil h_24 cs_int64_l) h_22 fun s_16 F_17 w_18 h_19 I_20 k_21 => ?_
  simp only [List.nil_append] at h_19
  have hj1 : ∀ (cs11j1 : (List Int)) (cs12j1 : (List (List Int))) (Fs11j1 : Frag) (ss12j1 : Sl) (Fs12j1 : Frag) (H : Hp) (w : World) (_ : RowL 2 1 cs_int64 s_16 cs11j1 Fs11j1) (_ : RowsL 27 2 1 cs_int64 ss12j1 cs12j1 Fs12j1) (_ : Inv w0 ps0 H0 H [bx g_2 26 (cs_api_Cfg x0), Fs11j1, Fs12j1] w) (_ : T_gnomon_gnomonlaw10_StepOne_j1 x1 x2 x3 x4 cs11j1 cs12j1 x0 H K), F4_j1 (vs x1) (vs x2) (vi x3) (vi x4) (Value.pointer (some ⟨g_2, 0, none⟩)) (vs s_16) (vs ss12j1) w R E := by
   intro cs11j1 cs12j1 Fs11j1 ss12j1 Fs12j1 H w hs11j1 hs12j1 I h
   unfold F4_j1
   intro _
   unfold T_gnomon_gnomonlaw10_StepOne_j1 at h
   refine opK_ld (ldA Try.isAgg26 Try.sizeOf26 rfl (I.at1 (o := 0) (vs := (cs_api_Cfg x0)) (nb rfl) rfl)) ?_
   obtain ⟨H_72, I_73, l_74, h_75, h_76⟩ := Inv.freezeC (I.bring 1) hs11j1 (by decide)
   replace h := h s_16 H_72 l_74 h_75 h_76
   obtain ⟨H_77, I_78, l_79, h_80, h_81⟩ := Inv.freezeLL (I_73.bring 1) hs12j1 (by decide)
   replace h := h ss12j1 H_77 l_79 h_80 h_81
   refine opK_calls (cap := []) (fun args w => Try.call13 args w) ?_
   refine Cv_ct (Fi := []) (Fr := [bx g_2 26 (cs_api_Cfg x0)]) I_78 (h) (fun v_86 H_82 F_87 w_83 I_84 l_89 k_85 q_88 => ?_) (fun _ _ _ _ _ q => q.elim)
   obtain ⟨r0_90, r1_90, r2_90, rfl, rfl, h⟩ := q_88
   refine opK_pu (pu_extract _ _ _ rfl) ?_
   refine opK_pu (pu_extract _ _ _ rfl) ?_
   refine opK_pu (pu_extract _ _ _ rfl) ?_
   have hj2 : ∀ (H : Hp) (w : World) (_ : Inv w0 ps0 H0 H [bx g_2 26 (cs_api_Cfg x0)] w) (_ : T_gnomon_gnomonlaw10_StepOne_j2 x1 x2 x3 x4 s_16 r0_90 r1_90 r2_90 x0 H K), F4_j2 (vs x1) (vs x2) (vi x3) (vi x4) (Value.pointer (some ⟨g_2, 0, none⟩)) (vs s_16) (vi r0_90) (vi r1_90) (vi r2_90) w R E := by
    intro H w I h
    unfold F4_j2
    intro _
    unfold T_gnomon_gnomonlaw10_StepOne_j2 at h
    refine opK_ld (ldA Try.isAgg26 Try.sizeOf26 rfl (I.at1 (o := 0) (vs := (cs_api_Cfg x0)) (nb rfl) rfl)) ?_
    refine opK_calls (cap := []) (fun args w => Try.call14 args w) ?_
    refine Cv_ct (Fi := []) (Fr := [bx g_2 26 (cs_api_Cfg x0)]) I (h) (fun v_121 H_117 F_122 w_118 I_119 l_124 k_120 q_123 => ?_) (fun _ _ _ _ _ q => q.elim)
    obtain ⟨r0_125, r1_125, r2_125, r3_125, rfl, rfl, h⟩ := q_123
    refine opK_pu (pu_extract _ _ _ rfl) ?_
    refine opK_pu (pu_extract _ _ _ rfl) ?_
    refine opK_pu (pu_extract _ _ _ rfl) ?_
    refine opK_pu (pu_extract _ _ _ rfl) ?_
    refine opK_pu (pu_eql _ _ _ _ _ _) ?_
    try simp only [gval_b]
    try simp only [gval_b, gv_gv, gvl_tt, gvl_tf, gvl_ft, gvl_ff, gvg_tt, gvg_tf, gvg_ft, gvg_ff]
    refine opK_pu (Pu.g fun hb => by have hb_0 := hb; first | exact (pu_eql _ _ _ _ _ _) | (simp only [gv_t hb_0]; exact (pu_eql _ _ _ _ _ _)) | (simp only [gval_t hb_0, gv_t hb_0, gv_t hb, gva_tf hb_0, gv_n]; exact (pu_eql _ _ _ _ _ _))) ?_
    refine opK_pu (pu_and _ _) ?_
    try simp only [gval_b]
    try simp only [gval_b, gv_gv, gvl_tt, gvl_tf, gvl_ft, gvl_ff, gvg_tt, gvg_tf, gvg_ft, gvg_ff]
    refine opK_pu (Pu.g fun hb => by have hb_0 := hb; first | exact (pu_eql _ _ _ _ _ _) | (simp only [gv_t hb_0]; exact (pu_eql _ _ _ _ _ _)) | (simp only [gval_t hb_0, gv_t hb_0, gv_t hb, gva_tf hb_0, gv_n]; exact (pu_eql _ _ _ _ _ _))) ?_
    refine opK_pu (pu_and _ _) ?_
    try simp only [gval_b]
    try simp only [gval_b, gv_gv, gvl_tt, gvl_tf, gvl_ft, gvl_ff, gvg_tt, gvg_tf, gvg_ft, gvg_ff]
    refine opK_g2 (D := fun v_130 w_127 => ∃ (r0_134 : Bool) (H_126 : Hp), v_130 = (gv (((decide (r2_90 = r3_125)) && (decide (r0_90 = r0_125))) && (decide (r1_90 = r1_125))) true (Value.bool r0_134)) ∧ (Inv w0 ps0 H0 H_126 [bx g_2 26 (cs_api_Cfg x0)] w_127) ∧ (∀ i, i < w_118.heap.size → ¬ inF [] i → w_127.heap[i]? = w_118.heap[i]?) ∧ Hle H_117 H_126 ∧ (K ((((decide (r2_90 = r3_125)) && (decide (r0_90 = r0_125))) && (decide (r1_90 = r1_125))) && r0_134) H_126)) (fun b_135 => ?_) (fun b_135 => ?_) ?_
    ·replace h := h.1 b_135
     have hb_0 := b_135
     try simp only [gv_t hb_0]
     refine opK_calls (cap := []) (fun args w => Try.call12 args w) ?_
     refine Cv_ct (Fi := []) (Fr := [bx g_2 26 (cs_api_Cfg x0)]) I_119 (h) (fun v_130 H_126 F_131 w_127 I_128 l_133 k_129 q_132 => ?_) (fun _ _ _ _ _ q => q.elim)
     obtain ⟨r0_134, rfl, rfl, h⟩ := q_132
     exact ⟨r0_134, H_126, by first | rfl | rw [gv_t b_135], I_128, k_129, l_133, h⟩
    ·exact ⟨false, H_117, by first | rfl | rw [gv_f b_135], I_119, fun _ _ _ => rfl, Hle.refl _, h.2 b_135⟩
    ·clear h
     rintro v_130 w_127 ⟨r0_134, H_126, rfl, I_128, k_129, l_133, h⟩
     refine opK_pu (pu_and _ _) ?_
     exact hR ((((decide (r2_90 = r3_125)) && (decide (r0_90 = r0_125))) && (decide (r1_90 = r1_125))) && r0_134) H_126 _ I_128.drop h
   refine xcut_i fun j2 hx2 => ?_
   obtain ⟨J_137, m_138, i_139, b_140⟩ := h
   refine xloop_J (J := fun n l w => ∃ (s : Int) (H : Hp) , n = m_138 s ∧ l = [(vi s)] ∧ Inv w0 ps0 H0 H [bx g_2 26 (cs_api_Cfg x0)] w ∧ J_137 s H) ⟨_, 0, H_82, rfl, rfl, I_84, i_139⟩ ?_
   rintro n_141 τ_142 w next3 ⟨s17l3, H, rfl, l_143, I, s_144⟩ hn3
   simp only [List.map_cons, List.map_nil, List.cons.injEq, and_true] at l_143
   have e17 := l_143
   simp only [e17]
   obtain ⟨n3, hm3, h⟩ : ∃ n3 : Int → Hp → Prop, (∀ s' H', n3 s' H' → J_137 s' H' ∧ m_138 s' < m_138 s17l3) ∧ T_gnomon_gnomonlaw10_StepOne_l3 x1 x2 x3 x4 s_16 ss12j1 r0_90 r1_90 r2_90 x0 s17l3 H n3 K := ⟨_, fun _ _ h => h, b_140 s17l3 H (fun s' H' => J_137 s' H' ∧ m_138 s' < m_138 s17l3) s_144 (fun _ _ a b => ⟨a, b⟩)⟩
   unfold F4_l3
   unfold T_gnomon_gnomonlaw10_StepOne_l3 at h
   refine opK_pu (pu_len_32 _ _ _) ?_
   refine opK_pu (pu_lss _ _ _ _ _ _) ?_
   refine xcond_p (fun c_136 => ?_) (fun c_136 => ?_)
   ·replace h := h.1 c_136
    refine s_dX I fun w_91 I_92 => ?_
    obtain ⟨h_96, h_97, x_93, h_99, h⟩ := h
    obtain ⟨g_94, o_95, h_98, h_99⟩ := h_99
    refine qP_pu (pu_ix_32 h_98 _ _ _ _ h_96 h_97) ?_
    obtain ⟨h_103, h_104, x_100, h_106, h⟩ := h
    obtain ⟨g_101, o_102, h_105, h_106⟩ := h_106
    refine qP_pu (pu_ix_32 h_105 _ _ _ _ h_103 h_104) ?_
    refine qL_ld (ld1 (v := (vs x_93)) Try.isAgg27 (I_92.atH h_99)) ?_
    refine qL_ld (ld1 (v := (vs x_100)) Try.isAgg27 (I_92.atH h_106)) ?_
    refine opK_calls (cap := []) (fun args w => Try.call12 args w) ?_
    refine Cv_ct (Fi := []) (Fr := [bx g_2 26 (cs_api_Cfg x0)]) I_92 (h) (fun v_111 H_107 F_112 w_108 I_109 l_114 k_110 q_113 => ?_) (fun _ _ _ _ _ q => q.elim)
    obtain ⟨r0_115, rfl, rfl, h⟩ := q_113
    refine qP_pu (pu_not _) ?_
    refine xcond_b (fun c_116 => ?_) (fun c_116 => ?_)
    ·replace h := h.1 c_116
     exact hR false H_107 _ I_109.drop h
    ·replace h := h.2 c_116
     refine opK_pu (pu_add _ _ _ _ _ _) ?_
     exact hn3 _ _ _ (hm3 _ _ h).2 ⟨(IntKind.wrap .i64 (s17l3 + 1)), H_107, rfl, rfl, I_109, (hm3 _ _ h).1⟩
   ·replace h := h.2 c_136
    exact hx2 _ _ (hj2 H _ I h)
  refine xcut_i fun j1 hx1 => ?_
  obtain ⟨J_146, m_147, i_148, b_149⟩ := h
  refine xloop_J (J := fun n l w => ∃ (s : (List (List Int)) × Int) (H : Hp) (ss12l4 : Sl) (Fs12l4 : Frag) , n = m_147 s ∧ l = (match s with | (cs12l4, s13l4) => [(vs ss12l4), (vi s13l4)]) ∧ (match s with | (cs12l4, s13l4) => RowsL 27 2 1 cs_int64 ss12l4 cs12l4 Fs12l4) ∧ (match s with | (cs12l4, s13l4) => Inv w0 ps0 H0 H [bx g_2 26 (cs_api_Cfg x0), F_17, Fs12l4] w) ∧ J_146 s H) ⟨_, ([], 0), H_6, (Sl.mk none 0 0), [], rfl, rfl, (RowsL.nil cs_int64_l cs_int64_o), ((I_20.nil.bring 1).bring 2), i_148⟩ ?_
  rintro n_150 τ_151 w next4 ⟨⟨cs12l4, s13l4⟩, H, ss12l4, Fs12l4, rfl, l_152, hs12l4, I, s_153⟩ hn4
  dsimp only at l_152 I hs12l4
  simp only [List.map_cons, List.map_nil, List.cons.injEq, and_true] at l_152
  obtain ⟨e12, e13⟩ := l_152
  simp only [e12, e13]
  obtain ⟨n4, hm4, h⟩ : ∃ n4 : ((List (List Int)) × Int) → Hp → Prop, (∀ s' H', n4 s' H' → J_146 s' H' ∧ m_147 s' < m_147 (cs12l4, s13l4)) ∧ T_gnomon_gnomonlaw10_StepOne_l4 x1 x2 x3 x4 ys_23 x0 cs12l4 s13l4 H n4 K := ⟨_, fun _ _ h => h, b_149 (cs12l4, s13l4) H (fun s' H' => J_146 s' H' ∧ m_147 s' < m_147 (cs12l4, s13l4)) s_153 (fun _ _ a b => ⟨a, b⟩)⟩
  unfold F4_l4
  unfold T_gnomon_gnomonlaw10_StepOne_l4 at h
  refine opK_pu (pu_len_32 _ _ _) ?_
  refine opK_pu (pu_lss _ _ _ _ _ _) ?_
  refine xcond_p (fun c_145 => ?_) (fun c_145 => ?_)
  ·replace h := h.1 c_145
   obtain ⟨h_28, h_29, x_25, h_31, h⟩ := h
   obtain ⟨g_26, o_27, h_30, h_31⟩ := h_31
   refine opK_pu (pu_ix_32 h_30 _ _ _ _ h_28 h_29) ?_
   refine opK_ld (ld1 (v := (vs x_25)) Try.isAgg27 (I.atH h_31)) ?_
   obtain ⟨ys_40, h_41, h⟩ := h
   obtain ⟨h_39, h⟩ := h
   refine app_27 (s := ⟨none, 0, 0⟩) (xs := []) I.nil (RowL.nil cs_int64_l cs_int64_o) (SlH.src I.nil h_41 cs_int64_l) h_39 fun s_33 F_34 w_35 h_36 I_37 k_38 => ?_
   simp only [List.nil_append] at h_36
   refine s_bs (e := 27) (c := csl) (xs := [s_33]) I_37 (bs_32_1 _ _ _) rfl rfl csl_l csl_o (nb rfl) fun s_43 F_44 w_45 h_46 I_47 k_48 => ?_
   obtain ⟨h_71, h⟩ := h
   obtain ⟨ss_49, F_50, F_51, h_52, h_53, I_54⟩ := RowsL.split hs12l4 (((I_47.bring 1).bring 1).join2.bring 3)
   obtain ⟨ss_57, F_58, F_59, h_60, h_61, I_62⟩ := RowsL.split (RowsL.one h_46 h_36) (I_54.bring 2)
   refine app_32 (s := ss12l4) (xs := ss_49) (I_62.bring 2) h_52 (h_60.srcO ((I_62.bring 2).bring 1)) (by rw [h_53.len, h_61.len]; exact h_71) fun s_65 F_66 w_67 h_68 I_69 k_70 => ?_
   refine opK_pu (pu_add _ _ _ _ _ _) ?_
   exact hn4 _ _ _ (hm4 _ _ h).2 ⟨((cs12l4 ++ [ys_40]), (IntKind.wrap .i64 (s13l4 + 1))), H, s_65, (F_66 ++ (F_51 ++ F_59)), rfl, rfl, (RowsL.app h_68 h_53 h_61), ((((((I_69.bring 1).drop.bring 1).bring 2).bring 2).join3.bring 2).bring 2), (hm4 _ _ h).1⟩
  ·replace h := h.2 c_145
   exact hx1 _ _ (hj1 ys_23 cs12l4 F_17 ss12l4 Fs12l4 H _ h_19 hs12l4 (((I.bring 2).bring 2).bring 2) h)
theorem L_gnomon_gnomonlaw10_StepOne (x0 : Tapi_Cfg) (x1 : Sl) (x2 : Sl) (x3 : Int) (x4 : Int) {H : Hp} {K : Bool → Hp → Prop} (h : T_gnomon_gnomonlaw10_StepOne x0 x1 x2 x3 x4 H K) : C_gnomon_gnomonlaw10_StepOne x0 x1 x2 x3 x4 H K := by
 intro w I
 refine F4_ok ?_
 refine LF_gnomon_gnomonlaw10_StepOne x0 x1 x2 x3 x4 I (fun r0 H' w' I' hk => ⟨H', _, I', r0, rfl, rfl, hk⟩) h


end Go.Proofs.Ytgapepdglhcglaa
