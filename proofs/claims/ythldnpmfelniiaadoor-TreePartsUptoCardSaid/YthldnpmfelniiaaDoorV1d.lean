/-
  Typed formulas of the program's functions, and the theorems that the contracts follow from them; printed by lift.py off the code.
-/
import Derived.Test.YthldnpmfelniiaaDoorV1
namespace Go.Proofs.YthldnpmfelniiaaDoor
open Go.RowKit
set_option maxRecDepth 100000
set_option maxHeartbeats 2000000

/- function 95: gnomon/tree.each[gnomon/api.Decl] -/
def T_gnomon_tree_each_gnomon_api_Decl_of_gnomon_tree_declOf_j1 (cs5j1 : (List Itree_node)) (H : Hp) (K : Sl → Hp → Prop) : Prop :=
 ∀ (ss5j1 : Sl) (H_39 : Hp), Hle H H_39 → SlH H_39 1 cs_tree_node ss5j1 cs5j1 → ss5j1.n ≤ ss5j1.c →
 K ss5j1 H_39
def T_gnomon_tree_each_gnomon_api_Decl_of_gnomon_tree_declOf_l2 (s8l2 : Sl) (s9l2 : Int) (cs5l2 : (List Itree_node)) (s10l2 : Int) (H : Hp) (n2 : ((List Itree_node) × Int) → Hp → Prop) (K : Sl → Hp → Prop) : Prop :=
 (s10l2 < s9l2 →
 (0 : Int) ≤ s10l2 ∧ (s10l2 : Int) < s8l2.n ∧ ∃ x_1 : Tapi_Decl, EltH H s8l2 s10l2 2 (cs_api_Decl x_1) ∧ 
 C_gnomon_tree_declOf x_1 H (fun (r0_24 : Itree_node) (H_16 : Hp) => 
 (cs5l2.length + ([r0_24] : List Itree_node).length) * 17 ≤ 140737488355328 ∧
 n2 ((cs5l2 ++ [r0_24]), (IntKind.wrap .i64 (s10l2 + 1))) H_16)) ∧
 (¬ (s10l2 < s9l2) →
 T_gnomon_tree_each_gnomon_api_Decl_of_gnomon_tree_declOf_j1 cs5l2 H K)
def T_gnomon_tree_each_gnomon_api_Decl_of_gnomon_tree_declOf (x0 : Sl) (H : Hp) (K : Sl → Hp → Prop) : Prop :=
 TL (([], 0) : (List Itree_node) × Int) H fun (s : (List Itree_node) × Int) H n2 => T_gnomon_tree_each_gnomon_api_Decl_of_gnomon_tree_declOf_l2 x0 (x0.n : Int) s.1 s.2 H n2 K
theorem LF_gnomon_tree_each_gnomon_api_Decl_of_gnomon_tree_declOf (x0 : Sl) {w0 w : World} {ps0 : Nat → Prop} {H0 H : Hp} {K : Sl → Hp → Prop} {R : Value → World → Prop} {E : Pan} (I : Inv w0 ps0 H0 H [] w) (hR : ∀ (r0 : Sl) (H' : Hp) (w' : World) (_ : Inv w0 ps0 H0 H' [] w') (_ : K r0 H'), R (vs r0) w') (h : T_gnomon_tree_each_gnomon_api_Decl_of_gnomon_tree_declOf x0 H K) : F95 (vs x0) (Value.func (.func 96) #[] #[]) w R E := by
 unfold T_gnomon_tree_each_gnomon_api_Decl_of_gnomon_tree_declOf at h
 unfold F95
 have hj1 : ∀ (cs5j1 : (List Itree_node)) (ss5j1 : Sl) (Fs5j1 : Frag) (H : Hp) (w : World) (_ : RowL 141 1 cs_tree_node ss5j1 cs5j1 Fs5j1) (_ : Inv w0 ps0 H0 H [Fs5j1] w) (_ : T_gnomon_tree_each_gnomon_api_Decl_of_gnomon_tree_declOf_j1 cs5j1 H K), F95_j1 (vs ss5j1) w R E := by
  intro cs5j1 ss5j1 Fs5j1 H w hs5j1 I h
  unfold F95_j1
  intro _
  unfold T_gnomon_tree_each_gnomon_api_Decl_of_gnomon_tree_declOf_j1 at h
  obtain ⟨H_39, I_40, l_41, h_42, h_43⟩ := Inv.freezeC I hs5j1 (by decide)
  replace h := h ss5j1 H_39 l_41 h_42 h_43
  exact hR ss5j1 H_39 _ I_40 h
 refine xcut_i fun j1 hx1 => ?_
 refine opK_pu (pu_len_22 _ _ _) ?_
 obtain ⟨J_45, m_46, i_47, b_48⟩ := h
 refine xloop_J (J := fun n l w => ∃ (s : (List Itree_node) × Int) (H : Hp) (ss5l2 : Sl) (Fs5l2 : Frag) , n = m_46 s ∧ l = (match s with | (cs5l2, s10l2) => [(vs ss5l2), (vi s10l2)]) ∧ (match s with | (cs5l2, s10l2) => RowL 141 1 cs_tree_node ss5l2 cs5l2 Fs5l2) ∧ (match s with | (cs5l2, s10l2) => Inv w0 ps0 H0 H [Fs5l2] w) ∧ J_45 s H) ⟨_, ([], 0), H, (Sl.mk none 0 0), [], rfl, rfl, (RowL.nil cs_tree_node_l cs_tree_node_o), I.nil, i_47⟩ ?_
 rintro n_49 τ_50 w next2 ⟨⟨cs5l2, s10l2⟩, H, ss5l2, Fs5l2, rfl, l_51, hs5l2, I, s_52⟩ hn2
 dsimp only at l_51 I hs5l2
 simp only [List.map_cons, List.map_nil, List.cons.injEq, and_true] at l_51
 obtain ⟨e5, e10⟩ := l_51
 simp only [e5, e10]
 obtain ⟨n2, hm2, h⟩ : ∃ n2 : ((List Itree_node) × Int) → Hp → Prop, (∀ s' H', n2 s' H' → J_45 s' H' ∧ m_46 s' < m_46 (cs5l2, s10l2)) ∧ T_gnomon_tree_each_gnomon_api_Decl_of_gnomon_tree_declOf_l2 x0 (x0.n : Int) cs5l2 s10l2 H n2 K := ⟨_, fun _ _ h => h, b_48 (cs5l2, s10l2) H (fun s' H' => J_45 s' H' ∧ m_46 s' < m_46 (cs5l2, s10l2)) s_52 (fun _ _ a b => ⟨a, b⟩)⟩
 unfold F95_l2
 unfold T_gnomon_tree_each_gnomon_api_Decl_of_gnomon_tree_declOf_l2 at h
 refine opK_pu (pu_lss _ _ _ _ _ _) ?_
 refine xcond_p (fun c_44 => ?_) (fun c_44 => ?_)
 ·replace h := h.1 c_44
  obtain ⟨h_4, h_5, x_1, h_7, h⟩ := h
  obtain ⟨g_2, o_3, h_6, h_7⟩ := h_7
  refine opK_pu (pu_ix_22 h_6 _ _ _ _ h_4 h_5) ?_
  refine opK_ld (ldA (vs := (cs_api_Decl x_1)) Tryd.isAgg67 Tryd.sizeOf67 rfl (I.atH h_7)) ?_
  refine s_alloc I Tryd.zeroValue67 (cs := [(Value.string ⟨#[]⟩), (vi 0)]) rfl fun g_9 w_10 I_11 k_12 => ?_
  refine s_store I_11 Tryd.sizeOf67 (vs := (cs_api_Decl x_1)) (cs' := (cs_api_Decl x_1)) rfl rfl (nb rfl) rfl rfl fun w_13 I_14 k_15 => ?_
  refine opK_ld (ldA Tryd.isAgg67 Tryd.sizeOf67 rfl (I_14.at1 (o := 0) (vs := (cs_api_Decl x_1)) (nb rfl) rfl)) ?_
  refine opK_calls (cap := []) (fun args w => Tryd.call96 args w) ?_
  refine Cv_ct (Fi := []) (Fr := [bx g_9 67 (cs_api_Decl x_1), Fs5l2]) I_14 (h) (fun v_20 H_16 F_21 w_17 I_18 l_23 k_19 q_22 => ?_) (fun _ _ _ _ _ q => q.elim)
  obtain ⟨r0_24, rfl, rfl, h⟩ := q_22
  refine s_bs (e := 141) (c := cs_tree_node) (xs := [r0_24]) I_18 (bs_97_1 _) rfl rfl cs_tree_node_l cs_tree_node_o (nb rfl) fun s_26 F_27 w_28 h_29 I_30 k_31 => ?_
  obtain ⟨h_38, h⟩ := h
  refine app_97 (s := ss5l2) (xs := cs5l2) (I_30.bring 2) hs5l2 (h_29.srcO ((I_30.bring 2).bring 1)) h_38 fun s_32 F_33 w_34 h_35 I_36 k_37 => ?_
  refine opK_pu (pu_add _ _ _ _ _ _) ?_
  exact hn2 _ _ _ (hm2 _ _ h).2 ⟨((cs5l2 ++ [r0_24]), (IntKind.wrap .i64 (s10l2 + 1))), H_16, s_32, F_33, rfl, rfl, h_35, ((I_36.bring 1).drop.bring 1).drop, (hm2 _ _ h).1⟩
 ·replace h := h.2 c_44
  exact hx1 _ _ (hj1 cs5l2 ss5l2 Fs5l2 H _ hs5l2 I h)
theorem L_gnomon_tree_each_gnomon_api_Decl_of_gnomon_tree_declOf (x0 : Sl) {H : Hp} {K : Sl → Hp → Prop} (h : T_gnomon_tree_each_gnomon_api_Decl_of_gnomon_tree_declOf x0 H K) : C_gnomon_tree_each_gnomon_api_Decl_of_gnomon_tree_declOf x0 H K := by
 intro w I
 refine F95_ok ?_
 refine LF_gnomon_tree_each_gnomon_api_Decl_of_gnomon_tree_declOf x0 I (fun r0 H' w' I' hk => ⟨H', _, I', r0, rfl, rfl, hk⟩) h


/- function 120:8: slices.Grow[[]gnomon/tree.node,gnomon/tree.node]: its contract alone -/


/- function 114: gnomon/tree.name -/
def T_gnomon_tree_name (x0 : Itree_node) (H : Hp) (K : ByteArray → Bool → Hp → Prop) : Prop :=
 (x0.is_c_tree_decl = true →
 K ((((x0.as_c_tree_decl)).fDecl).fName) true H) ∧
 (x0.is_c_tree_decl = false →
 (x0.is_c_tree_stmt = true →
 K ((((x0.as_c_tree_stmt)).fStmt).fName) ((decide (((((x0.as_c_tree_stmt)).fStmt).fKind) = 1)) || (decide (((((x0.as_c_tree_stmt)).fStmt).fKind) = 2))) H) ∧
 (x0.is_c_tree_stmt = false →
 (x0.is_c_tree_expr = true →
 K ((((x0.as_c_tree_expr)).fExpr).fName) ((decide (((((x0.as_c_tree_expr)).fExpr).fKind) = 2)) || (decide (((((x0.as_c_tree_expr)).fExpr).fKind) = 4))) H) ∧
 (x0.is_c_tree_expr = false →
 K ⟨#[]⟩ false H)))
theorem LF_gnomon_tree_name (x0 : Itree_node) {w0 w : World} {ps0 : Nat → Prop} {H0 H : Hp} {K : ByteArray → Bool → Hp → Prop} {R : Value → World → Prop} {E : Pan} (I : Inv w0 ps0 H0 H [] w) (hR : ∀ (r0 : ByteArray) (r1 : Bool) (H' : Hp) (w' : World) (_ : Inv w0 ps0 H0 H' [] w') (_ : K r0 r1 H'), R (Value.tuple #[(Value.string r0), (Value.bool r1)]) w') (h : T_gnomon_tree_name x0 H K) : F114 (vItree_node x0) w R E := by
 unfold T_gnomon_tree_name at h
 unfold F114
 refine opK_pu (pu_ta_141_175 x0) ?_
 refine opK_pu (pu_extract _ _ _ rfl) ?_
 refine opK_pu (pu_extract _ _ _ rfl) ?_
 refine xcond_b (fun c_31 => ?_) (fun c_31 => ?_)
 ·replace h := h.1 c_31
  refine s_alloc I Tryd.zeroValue175 (cs := [(Value.string ⟨#[]⟩), (vi 0)]) rfl fun g_2 w_3 I_4 k_5 => ?_
  refine s_store I_4 Tryd.sizeOf175 (vs := [(Value.string ((((x0.as_c_tree_decl)).fDecl).fName)), (vi ((((x0.as_c_tree_decl)).fDecl).fSize))]) (cs' := [(Value.string ((((x0.as_c_tree_decl)).fDecl).fName)), (vi ((((x0.as_c_tree_decl)).fDecl).fSize))]) rfl rfl (nb rfl) rfl rfl fun w_6 I_7 k_8 => ?_
  refine opK_pu pu_fa_175_0 ?_
  refine opK_pu pu_fa_67_0 ?_
  refine opK_ld (ld1 Tryd.isAgg9 (I_7.at1 (o := 0) (vs := [(Value.string ((((x0.as_c_tree_decl)).fDecl).fName))]) (nb rfl) rfl)) ?_
  exact hR ((((x0.as_c_tree_decl)).fDecl).fName) true H _ I_7.drop h
 ·replace h := h.2 c_31
  refine opK_pu (pu_ta_141_177 x0) ?_
  refine opK_pu (pu_extract _ _ _ rfl) ?_
  refine opK_pu (pu_extract _ _ _ rfl) ?_
  refine xcond_b (fun c_30 => ?_) (fun c_30 => ?_)
  ·replace h := h.1 c_30
   refine s_alloc I Tryd.zeroValue177 (cs := [(vi 0), (Value.string ⟨#[]⟩), (Value.slice none 0 0), (Value.slice none 0 0), (Value.slice none 0 0), (Value.slice none 0 0)]) rfl fun g_10 w_11 I_12 k_13 => ?_
   refine s_store I_12 Tryd.sizeOf177 (vs := [(vi ((((x0.as_c_tree_stmt)).fStmt).fKind)), (Value.string ((((x0.as_c_tree_stmt)).fStmt).fName)), (Value.slice ((((x0.as_c_tree_stmt)).fStmt).fExprs).a ((((x0.as_c_tree_stmt)).fStmt).fExprs).n ((((x0.as_c_tree_stmt)).fStmt).fExprs).c), (Value.slice ((((x0.as_c_tree_stmt)).fStmt).fConds).a ((((x0.as_c_tree_stmt)).fStmt).fConds).n ((((x0.as_c_tree_stmt)).fStmt).fConds).c), (Value.slice ((((x0.as_c_tree_stmt)).fStmt).fThen).a ((((x0.as_c_tree_stmt)).fStmt).fThen).n ((((x0.as_c_tree_stmt)).fStmt).fThen).c), (Value.slice ((((x0.as_c_tree_stmt)).fStmt).fElse).a ((((x0.as_c_tree_stmt)).fStmt).fElse).n ((((x0.as_c_tree_stmt)).fStmt).fElse).c)]) (cs' := [(vi ((((x0.as_c_tree_stmt)).fStmt).fKind)), (Value.string ((((x0.as_c_tree_stmt)).fStmt).fName)), (Value.slice ((((x0.as_c_tree_stmt)).fStmt).fExprs).a ((((x0.as_c_tree_stmt)).fStmt).fExprs).n ((((x0.as_c_tree_stmt)).fStmt).fExprs).c), (Value.slice ((((x0.as_c_tree_stmt)).fStmt).fConds).a ((((x0.as_c_tree_stmt)).fStmt).fConds).n ((((x0.as_c_tree_stmt)).fStmt).fConds).c), (Value.slice ((((x0.as_c_tree_stmt)).fStmt).fThen).a ((((x0.as_c_tree_stmt)).fStmt).fThen).n ((((x0.as_c_tree_stmt)).fStmt).fThen).c), (Value.slice ((((x0.as_c_tree_stmt)).fStmt).fElse).a ((((x0.as_c_tree_stmt)).fStmt).fElse).n ((((x0.as_c_tree_stmt)).fStmt).fElse).c)]) rfl rfl (nb rfl) rfl rfl fun w_14 I_15 k_16 => ?_
   refine s_dX I_15 fun w_17 I_18 => ?_
   refine qP_pu pu_fa_177_0 ?_
   refine qP_pu pu_fa_88_1 ?_
   refine qP_pu pu_fa_177_0 ?_
   refine qP_pu pu_fa_88_0 ?_
   refine qL_ld (ld1 Tryd.isAgg9 (I_18.at1 (o := 1) (vs := [(Value.string ((((x0.as_c_tree_stmt)).fStmt).fName))]) (nb rfl) rfl)) ?_
   refine qL_ld (ld1 Tryd.isAgg3 (I_18.at1 (o := 0) (vs := [(vi ((((x0.as_c_tree_stmt)).fStmt).fKind))]) (nb rfl) rfl)) ?_
   refine qP_pu (pu_eql _ _ _ _ _ _) ?_
   refine qP_pu (Pu.g fun hb => by have hb_0 := hb; first | exact pu_fa_177_0 | (simp only [gval_t hb_0, gv_t hb_0, gv_t hb, gva_ft hb_0]; exact pu_fa_177_0) | (simp only [gval_t hb_0, gv_t hb_0, gv_t hb, gva_ff hb_0, gv_n]; exact pu_fa_177_0)) ?_
   refine qP_pu (Pu.g fun hb => by have hb_0 := hb; first | exact pu_fa_88_0 | (simp only [gv_t hb_0]; exact pu_fa_88_0) | (simp only [gval_t hb_0, gv_t hb_0, gv_t hb, gva_ff hb_0, gv_n]; exact pu_fa_88_0)) ?_
   refine qL_g (p := (Value.pointer (some ⟨g_10, 0, none⟩))) rfl (Ld.g fun hb => by have hb_0 := hb; first | exact (ld1 Tryd.isAgg3 (I_18.at1 (o := 0) (vs := [(vi ((((x0.as_c_tree_stmt)).fStmt).fKind))]) (nb rfl) rfl)) | (simp only [gv_t hb_0]; exact (ld1 Tryd.isAgg3 (I_18.at1 (o := 0) (vs := [(vi ((((x0.as_c_tree_stmt)).fStmt).fKind))]) (nb rfl) rfl))) | (simp only [gval_t hb_0, gv_t hb_0, gv_t hb, gva_ff hb_0, gv_n]; exact (ld1 Tryd.isAgg3 (I_18.at1 (o := 0) (vs := [(vi ((((x0.as_c_tree_stmt)).fStmt).fKind))]) (nb rfl) rfl)))) ?_
   refine qP_pu (Pu.g fun hb => by have hb_0 := hb; first | exact (pu_eql _ _ _ _ _ _) | (simp only [gv_t hb_0]; exact (pu_eql _ _ _ _ _ _)) | (simp only [gval_t hb_0, gv_t hb_0, gv_t hb, gva_ff hb_0, gv_n]; exact (pu_eql _ _ _ _ _ _))) ?_
   refine qP_pu (pu_or _ _) ?_
   exact hR ((((x0.as_c_tree_stmt)).fStmt).fName) ((decide (((((x0.as_c_tree_stmt)).fStmt).fKind) = 1)) || (decide (((((x0.as_c_tree_stmt)).fStmt).fKind) = 2))) H _ I_18.drop h
  ·replace h := h.2 c_30
   refine opK_pu (pu_ta_141_96 x0) ?_
   refine opK_pu (pu_extract _ _ _ rfl) ?_
   refine opK_pu (pu_extract _ _ _ rfl) ?_
   refine xcond_b (fun c_29 => ?_) (fun c_29 => ?_)
   ·replace h := h.1 c_29
    refine s_alloc I Tryd.zeroValue96 (cs := [(vi 0), (vi 0), (Value.string ⟨#[]⟩), (Value.slice none 0 0)]) rfl fun g_20 w_21 I_22 k_23 => ?_
    refine s_store I_22 Tryd.sizeOf96 (vs := [(vi ((((x0.as_c_tree_expr)).fExpr).fKind)), (vi ((((x0.as_c_tree_expr)).fExpr).fNum)), (Value.string ((((x0.as_c_tree_expr)).fExpr).fName)), (Value.slice ((((x0.as_c_tree_expr)).fExpr).fArgs).a ((((x0.as_c_tree_expr)).fExpr).fArgs).n ((((x0.as_c_tree_expr)).fExpr).fArgs).c)]) (cs' := [(vi ((((x0.as_c_tree_expr)).fExpr).fKind)), (vi ((((x0.as_c_tree_expr)).fExpr).fNum)), (Value.string ((((x0.as_c_tree_expr)).fExpr).fName)), (Value.slice ((((x0.as_c_tree_expr)).fExpr).fArgs).a ((((x0.as_c_tree_expr)).fExpr).fArgs).n ((((x0.as_c_tree_expr)).fExpr).fArgs).c)]) rfl rfl (nb rfl) rfl rfl fun w_24 I_25 k_26 => ?_
    refine s_dX I_25 fun w_27 I_28 => ?_
    refine qP_pu pu_fa_96_0 ?_
    refine qP_pu pu_fa_30_2 ?_
    refine qP_pu pu_fa_96_0 ?_
    refine qP_pu pu_fa_30_0 ?_
    refine qL_ld (ld1 Tryd.isAgg9 (I_28.at1 (o := 2) (vs := [(Value.string ((((x0.as_c_tree_expr)).fExpr).fName))]) (nb rfl) rfl)) ?_
    refine qL_ld (ld1 Tryd.isAgg3 (I_28.at1 (o := 0) (vs := [(vi ((((x0.as_c_tree_expr)).fExpr).fKind))]) (nb rfl) rfl)) ?_
    refine qP_pu (pu_eql _ _ _ _ _ _) ?_
    refine qP_pu (Pu.g fun hb => by have hb_0 := hb; first | exact pu_fa_96_0 | (simp only [gval_t hb_0, gv_t hb_0, gv_t hb, gva_ft hb_0]; exact pu_fa_96_0) | (simp only [gval_t hb_0, gv_t hb_0, gv_t hb, gva_ff hb_0, gv_n]; exact pu_fa_96_0)) ?_
    refine qP_pu (Pu.g fun hb => by have hb_0 := hb; first | exact pu_fa_30_0 | (simp only [gv_t hb_0]; exact pu_fa_30_0) | (simp only [gval_t hb_0, gv_t hb_0, gv_t hb, gva_ff hb_0, gv_n]; exact pu_fa_30_0)) ?_
    refine qL_g (p := (Value.pointer (some ⟨g_20, 0, none⟩))) rfl (Ld.g fun hb => by have hb_0 := hb; first | exact (ld1 Tryd.isAgg3 (I_28.at1 (o := 0) (vs := [(vi ((((x0.as_c_tree_expr)).fExpr).fKind))]) (nb rfl) rfl)) | (simp only [gv_t hb_0]; exact (ld1 Tryd.isAgg3 (I_28.at1 (o := 0) (vs := [(vi ((((x0.as_c_tree_expr)).fExpr).fKind))]) (nb rfl) rfl))) | (simp only [gval_t hb_0, gv_t hb_0, gv_t hb, gva_ff hb_0, gv_n]; exact (ld1 Tryd.isAgg3 (I_28.at1 (o := 0) (vs := [(vi ((((x0.as_c_tree_expr)).fExpr).fKind))]) (nb rfl) rfl)))) ?_
    refine qP_pu (Pu.g fun hb => by have hb_0 := hb; first | exact (pu_eql _ _ _ _ _ _) | (simp only [gv_t hb_0]; exact (pu_eql _ _ _ _ _ _)) | (simp only [gval_t hb_0, gv_t hb_0, gv_t hb, gva_ff hb_0, gv_n]; exact (pu_eql _ _ _ _ _ _))) ?_
    refine qP_pu (pu_or _ _) ?_
    exact hR ((((x0.as_c_tree_expr)).fExpr).fName) ((decide (((((x0.as_c_tree_expr)).fExpr).fKind) = 2)) || (decide (((((x0.as_c_tree_expr)).fExpr).fKind) = 4))) H _ I_28.drop h
   ·replace h := h.2 c_29
    exact hR ⟨#[]⟩ false H _ I h
theorem L_gnomon_tree_name (x0 : Itree_node) {H : Hp} {K : ByteArray → Bool → Hp → Prop} (h : T_gnomon_tree_name x0 H K) : C_gnomon_tree_name x0 H K := by
 intro w I
 refine F114_ok ?_
 refine LF_gnomon_tree_name x0 I (fun r0 r1 H' w' I' hk => ⟨H', _, I', r0, r1, rfl, rfl, hk⟩) h


/- function 125: gnomon/lex.goesOn -/
def T_gnomon_lex_goesOn (x0 : Int) (H : Hp) (K : Bool → Hp → Prop) : Prop :=
 C_gnomon_text_Class x0 H (fun (r0_9 : Int) (H_1 : Hp) => 
 K ((decide (r0_9 = 3)) || (decide (r0_9 = 4))) H_1)
theorem LF_gnomon_lex_goesOn (x0 : Int) {w0 w : World} {ps0 : Nat → Prop} {H0 H : Hp} {K : Bool → Hp → Prop} {R : Value → World → Prop} {E : Pan} (I : Inv w0 ps0 H0 H [] w) (hR : ∀ (r0 : Bool) (H' : Hp) (w' : World) (_ : Inv w0 ps0 H0 H' [] w') (_ : K r0 H'), R (Value.bool r0) w') (h : T_gnomon_lex_goesOn x0 H K) : F125 (Value.int .i32 x0) w R E := by
 unfold T_gnomon_lex_goesOn at h
 unfold F125
 refine opK_calls (cap := []) (fun args w => Tryd.call126 args w) ?_
 refine Cv_ct (Fi := []) (Fr := []) I (h) (fun v_5 H_1 F_6 w_2 I_3 l_8 k_4 q_7 => ?_) (fun _ _ _ _ _ q => q.elim)
 obtain ⟨r0_9, rfl, rfl, h⟩ := q_7
 refine opK_pu (pu_eql _ _ _ _ _ _) ?_
 try simp only [gval_b]
 refine opK_pu (Pu.g fun hb => by have hb_0 := hb; first | exact (pu_eql _ _ _ _ _ _) | (simp only [gv_t hb_0]; exact (pu_eql _ _ _ _ _ _)) | (simp only [gval_t hb_0, gv_t hb_0, gv_t hb, gva_ff hb_0, gv_n]; exact (pu_eql _ _ _ _ _ _))) ?_
 refine opK_pu (pu_or _ _) ?_
 exact hR ((decide (r0_9 = 3)) || (decide (r0_9 = 4))) H_1 _ I_3 h
theorem L_gnomon_lex_goesOn (x0 : Int) {H : Hp} {K : Bool → Hp → Prop} (h : T_gnomon_lex_goesOn x0 H K) : C_gnomon_lex_goesOn x0 H K := by
 intro w I
 refine F125_ok ?_
 refine LF_gnomon_lex_goesOn x0 I (fun r0 H' w' I' hk => ⟨H', _, I', r0, rfl, rfl, hk⟩) h


/- function 127: slices.Index[[]string,string] -/
def T_slices_Index_string_string_j1 (H : Hp) (K : Int → Hp → Prop) : Prop :=
 K (-1) H
def T_slices_Index_string_string_l2 (cs0l2 : (List ByteArray)) (s1l2 : ByteArray) (s7l2 : Int) (s8l2 : Int) (H : Hp) (n2 : Int → Hp → Prop) (K : Int → Hp → Prop) : Prop :=
 (s8l2 < s7l2 →
 (0 : Int) ≤ s8l2 ∧ ∃ x_1 : ByteArray, (cs0l2)[(s8l2 : Int).toNat]? = some x_1 ∧
 (s1l2 = x_1 →
 K s8l2 H) ∧
 (¬ (s1l2 = x_1) →
 n2 (IntKind.wrap .i64 (s8l2 + 1)) H)) ∧
 (¬ (s8l2 < s7l2) →
 T_slices_Index_string_string_j1 H K)
def T_slices_Index_string_string (x0 : (List ByteArray)) (x1 : ByteArray) (H : Hp) (K : Int → Hp → Prop) : Prop :=
 TL (0 : Int) H fun (s : Int) H n2 => T_slices_Index_string_string_l2 x0 x1 (x0.length : Int) s H n2 K
theorem LF_slices_Index_string_string (x0 : (List ByteArray)) (x1 : ByteArray) (sx0 : Sl) (Fx0 : Frag) (hx0 : RowL 9 1 cs_string sx0 x0 Fx0) {w0 w : World} {ps0 : Nat → Prop} {H0 H : Hp} {K : Int → Hp → Prop} {R : Value → World → Prop} {E : Pan} (I : Inv w0 ps0 H0 H [Fx0] w) (hR : ∀ (r0 : Int) (H' : Hp) (w' : World) (_ : Inv w0 ps0 H0 H' [Fx0] w') (_ : K r0 H'), R (vi r0) w') (h : T_slices_Index_string_string x0 x1 H K) : F127 (vs sx0) (Value.string x1) w R E := by
 unfold T_slices_Index_string_string at h
 unfold F127
 have hj1 : ∀ (H : Hp) (w : World) (_ : Inv w0 ps0 H0 H [Fx0] w) (_ : T_slices_Index_string_string_j1 H K), F127_j1 w R E := by
  intro H w I h
  unfold F127_j1
  intro _
  unfold T_slices_Index_string_string_j1 at h
  exact hR (-1) H _ I h
 refine xcut_i fun j1 hx1 => ?_
 refine opK_pu (pu_len_row Tryd.underlying47 hx0) ?_
 obtain ⟨J_10, m_11, i_12, b_13⟩ := h
 refine xloop_J (J := fun n l w => ∃ (s : Int) (H : Hp) , n = m_11 s ∧ l = [(vi s)] ∧ Inv w0 ps0 H0 H [Fx0] w ∧ J_10 s H) ⟨_, 0, H, rfl, rfl, I, i_12⟩ ?_
 rintro n_14 τ_15 w next2 ⟨s8l2, H, rfl, l_16, I, s_17⟩ hn2
 simp only [List.map_cons, List.map_nil, List.cons.injEq, and_true] at l_16
 have e8 := l_16
 simp only [e8]
 obtain ⟨n2, hm2, h⟩ : ∃ n2 : Int → Hp → Prop, (∀ s' H', n2 s' H' → J_10 s' H' ∧ m_11 s' < m_11 s8l2) ∧ T_slices_Index_string_string_l2 x0 x1 (x0.length : Int) s8l2 H n2 K := ⟨_, fun _ _ h => h, b_13 s8l2 H (fun s' H' => J_10 s' H' ∧ m_11 s' < m_11 s8l2) s_17 (fun _ _ a b => ⟨a, b⟩)⟩
 unfold F127_l2
 unfold T_slices_Index_string_string_l2 at h
 refine opK_pu (pu_lss _ _ _ _ _ _) ?_
 refine xcond_p (fun c_9 => ?_) (fun c_9 => ?_)
 ·replace h := h.1 c_9
  obtain ⟨h_3, x_1, h_4, h⟩ := h
  obtain ⟨g_2, a_6, h_5, h_7⟩ := hx0.addr h_4
  refine opK_pu (pu_ix_47 h_5 _ _ _ _ h_3 (hx0.lt h_3 h_4)) ?_
  refine opK_ld (ld1 (v := (Value.string x_1)) Tryd.isAgg9 (hx0.atW I h_5 h_4)) ?_
  refine opK_pu (pu_eqs _ _ _ _ _) ?_
  refine xcond_p (fun c_8 => ?_) (fun c_8 => ?_)
  ·replace h := h.1 c_8
   exact hR s8l2 H _ I h
  ·replace h := h.2 c_8
   refine opK_pu (pu_add _ _ _ _ _ _) ?_
   exact hn2 _ _ _ (hm2 _ _ h).2 ⟨(IntKind.wrap .i64 (s8l2 + 1)), H, rfl, rfl, I, (hm2 _ _ h).1⟩
 ·replace h := h.2 c_9
  exact hx1 _ _ (hj1 H _ I h)
theorem L_slices_Index_string_string (x0 : (List ByteArray)) (x1 : ByteArray) {H : Hp} {K : Int → Hp → Prop} (h : T_slices_Index_string_string x0 x1 H K) : C_slices_Index_string_string x0 x1 H K := by
 intro sx0 Fx0 hx0 w I
 refine F127_ok ?_
 refine LF_slices_Index_string_string x0 x1 sx0 Fx0 hx0 I (fun r0 H' w' I' hk => ⟨H', _, I', r0, rfl, rfl, hk⟩) h


/- function 24: gnomon/tree.Depth -/
def T_gnomon_tree_Depth (x0 : Tapi_Prog) (H : Hp) (K : Int → Int → Hp → Prop) : Prop :=
 C_gnomon_tree_all x0 H (fun (r0_14 : Ttree_walker) (H_6 : Hp) => 
 (¬ (r0_14.fe = 0) →
 K 0 r0_14.fe H_6) ∧
 (r0_14.fe = 0 →
 K r0_14.fdepth 0 H_6))
theorem LF_gnomon_tree_Depth (x0 : Tapi_Prog) {w0 w : World} {ps0 : Nat → Prop} {H0 H : Hp} {K : Int → Int → Hp → Prop} {R : Value → World → Prop} {E : Pan} (I : Inv w0 ps0 H0 H [] w) (hR : ∀ (r0 : Int) (r1 : Int) (H' : Hp) (w' : World) (_ : Inv w0 ps0 H0 H' [] w') (_ : K r0 r1 H'), R (Value.tuple #[(vi r0), (vi r1)]) w') (h : T_gnomon_tree_Depth x0 H K) : F24 (Value.agg (cs_api_Prog x0).toArray) w R E := by
 unfold T_gnomon_tree_Depth at h
 unfold F24
 refine s_box I (cs := (cs_api_Prog x0)) rfl fun g_2 w_3 I_4 k_5 => ?_
 refine opK_ld (ldA Tryd.isAgg25 Tryd.sizeOf25 rfl (I_4.at1 (o := 0) (vs := (cs_api_Prog x0)) (nb rfl) rfl)) ?_
 refine opK_calls (cap := []) (fun args w => Tryd.call66 args w) ?_
 refine Cv_ct (Fi := []) (Fr := [bx g_2 25 (cs_api_Prog x0)]) I_4 (h) (fun v_10 H_6 F_11 w_7 I_8 l_13 k_9 q_12 => ?_) (fun _ _ _ _ _ q => q.elim)
 obtain ⟨r0_14, gr0_14, rfl, rfl, h⟩ := q_12
 refine opK_pu (pu_nilp _) ?_
 refine opK_pu pu_fa_92_2 ?_
 refine opK_ld (ld1 Tryd.isAgg34 (I_8.at1 (o := 2) (vs := [(vi r0_14.fe)]) (nb rfl) rfl)) ?_
 refine opK_pu (pu_neq _ _ _ _ _ _) ?_
 refine xcond_n (fun c_18 => ?_) (fun c_18 => ?_)
 ·replace h := h.1 c_18
  refine s_dX I_8 fun w_16 I_17 => ?_
  refine qP_pu (pu_nilp _) ?_
  refine qP_pu pu_fa_92_2 ?_
  refine qL_ld (ld1 Tryd.isAgg34 (I_17.at1 (o := 2) (vs := [(vi r0_14.fe)]) (nb rfl) rfl)) ?_
  exact hR 0 r0_14.fe H_6 _ I_17.drop.drop h
 ·replace h := h.2 c_18
  refine opK_pu (pu_nilp _) ?_
  refine opK_pu pu_fa_92_1 ?_
  refine opK_ld (ld1 Tryd.isAgg3 (I_8.at1 (o := 1) (vs := [(vi r0_14.fdepth)]) (nb rfl) rfl)) ?_
  exact hR r0_14.fdepth 0 H_6 _ I_8.drop.drop h
theorem L_gnomon_tree_Depth (x0 : Tapi_Prog) {H : Hp} {K : Int → Int → Hp → Prop} (h : T_gnomon_tree_Depth x0 H K) : C_gnomon_tree_Depth x0 H K := by
 intro w I
 refine F24_ok ?_
 refine LF_gnomon_tree_Depth x0 I (fun r0 r1 H' w' I' hk => ⟨H', _, I', r0, r1, rfl, rfl, hk⟩) h


/- function 27: gnomon/tree.Check -/
def T_gnomon_tree_Check (x0 : Tapi_Prog) (H : Hp) (K : Int → Hp → Prop) : Prop :=
 C_gnomon_tree_all x0 H (fun (r0_14 : Ttree_walker) (H_6 : Hp) => 
 K r0_14.fe H_6)
theorem LF_gnomon_tree_Check (x0 : Tapi_Prog) {w0 w : World} {ps0 : Nat → Prop} {H0 H : Hp} {K : Int → Hp → Prop} {R : Value → World → Prop} {E : Pan} (I : Inv w0 ps0 H0 H [] w) (hR : ∀ (r0 : Int) (H' : Hp) (w' : World) (_ : Inv w0 ps0 H0 H' [] w') (_ : K r0 H'), R (vi r0) w') (h : T_gnomon_tree_Check x0 H K) : F27 (Value.agg (cs_api_Prog x0).toArray) w R E := by
 unfold T_gnomon_tree_Check at h
 unfold F27
 refine s_box I (cs := (cs_api_Prog x0)) rfl fun g_2 w_3 I_4 k_5 => ?_
 refine opK_ld (ldA Tryd.isAgg25 Tryd.sizeOf25 rfl (I_4.at1 (o := 0) (vs := (cs_api_Prog x0)) (nb rfl) rfl)) ?_
 refine opK_calls (cap := []) (fun args w => Tryd.call66 args w) ?_
 refine Cv_ct (Fi := []) (Fr := [bx g_2 25 (cs_api_Prog x0)]) I_4 (h) (fun v_10 H_6 F_11 w_7 I_8 l_13 k_9 q_12 => ?_) (fun _ _ _ _ _ q => q.elim)
 obtain ⟨r0_14, gr0_14, rfl, rfl, h⟩ := q_12
 refine opK_pu (pu_nilp _) ?_
 refine opK_pu pu_fa_92_2 ?_
 refine opK_ld (ld1 Tryd.isAgg34 (I_8.at1 (o := 2) (vs := [(vi r0_14.fe)]) (nb rfl) rfl)) ?_
 exact hR r0_14.fe H_6 _ I_8.drop.drop h
theorem L_gnomon_tree_Check (x0 : Tapi_Prog) {H : Hp} {K : Int → Hp → Prop} (h : T_gnomon_tree_Check x0 H K) : C_gnomon_tree_Check x0 H K := by
 intro w I
 refine F27_ok ?_
 refine LF_gnomon_tree_Check x0 I (fun r0 H' w' I' hk => ⟨H', _, I', r0, rfl, rfl, hk⟩) h


/- function 51: gnomon/tree.bounded -/
def T_gnomon_tree_bounded (x0 : Tapi_Prog) (H : Hp) (K : Bool → Hp → Prop) : Prop :=
 C_gnomon_tree_Check x0 H (fun (r0_14 : Int) (H_6 : Hp) => 
 K ((!decide (r0_14 = 32)) && (!decide (r0_14 = 33))) H_6)
theorem LF_gnomon_tree_bounded (x0 : Tapi_Prog) {w0 w : World} {ps0 : Nat → Prop} {H0 H : Hp} {K : Bool → Hp → Prop} {R : Value → World → Prop} {E : Pan} (I : Inv w0 ps0 H0 H [] w) (hR : ∀ (r0 : Bool) (H' : Hp) (w' : World) (_ : Inv w0 ps0 H0 H' [] w') (_ : K r0 H'), R (Value.bool r0) w') (h : T_gnomon_tree_bounded x0 H K) : F51 (Value.agg (cs_api_Prog x0).toArray) w R E := by
 unfold T_gnomon_tree_bounded at h
 unfold F51
 refine s_box I (cs := (cs_api_Prog x0)) rfl fun g_2 w_3 I_4 k_5 => ?_
 refine opK_ld (ldA Tryd.isAgg25 Tryd.sizeOf25 rfl (I_4.at1 (o := 0) (vs := (cs_api_Prog x0)) (nb rfl) rfl)) ?_
 refine opK_calls (cap := []) (fun args w => Tryd.call27 args w) ?_
 refine Cv_ct (Fi := []) (Fr := [bx g_2 25 (cs_api_Prog x0)]) I_4 (h) (fun v_10 H_6 F_11 w_7 I_8 l_13 k_9 q_12 => ?_) (fun _ _ _ _ _ q => q.elim)
 obtain ⟨r0_14, rfl, rfl, h⟩ := q_12
 refine opK_pu (pu_neq _ _ _ _ _ _) ?_
 try simp only [gval_b]
 refine opK_pu (Pu.g fun hb => by have hb_0 := hb; first | exact (pu_neq _ _ _ _ _ _) | (simp only [gv_t hb_0]; exact (pu_neq _ _ _ _ _ _)) | (simp only [gval_t hb_0, gv_t hb_0, gv_t hb, gva_tf hb_0, gv_n]; exact (pu_neq _ _ _ _ _ _))) ?_
 refine opK_pu (pu_and _ _) ?_
 exact hR ((!decide (r0_14 = 32)) && (!decide (r0_14 = 33))) H_6 _ I_8.drop h
theorem L_gnomon_tree_bounded (x0 : Tapi_Prog) {H : Hp} {K : Bool → Hp → Prop} (h : T_gnomon_tree_bounded x0 H K) : C_gnomon_tree_bounded x0 H K := by
 intro w I
 refine F51_ok ?_
 refine LF_gnomon_tree_bounded x0 I (fun r0 H' w' I' hk => ⟨H', _, I', r0, rfl, rfl, hk⟩) h


/- function 85: slices.EqualFunc[[]gnomon/api.Cond,[]gnomon/api.Cond,gnomon/api.Cond,gnomon/api.Cond] -/
def T_slices_EqualFunc_gnomon_api_Cond_gnomon_api_Cond_gnomon_api_Cond_gnomon_api_Cond_of_gnomon_tree_sameCond_j1 (H : Hp) (K : Bool → Hp → Prop) : Prop :=
 K true H
def T_slices_EqualFunc_gnomon_api_Cond_gnomon_api_Cond_gnomon_api_Cond_gnomon_api_Cond_of_gnomon_tree_sameCond_l2 (s1l2 : Sl) (s15l2 : Sl) (s16l2 : Int) (s17l2 : Int) (H : Hp) (n2 : Int → Hp → Prop) (K : Bool → Hp → Prop) : Prop :=
 (s17l2 < s16l2 →
 (0 : Int) ≤ s17l2 ∧ (s17l2 : Int) < s15l2.n ∧ ∃ x_1 : Tapi_Cond, EltH H s15l2 s17l2 4 (cs_api_Cond x_1) ∧ 
 (0 : Int) ≤ s17l2 ∧ (s17l2 : Int) < s1l2.n ∧ ∃ x_16 : Tapi_Cond, EltH H s1l2 s17l2 4 (cs_api_Cond x_16) ∧ 
 C_gnomon_tree_sameCond x_1 x_16 H (fun (r0_39 : Bool) (H_31 : Hp) => 
 ((!r0_39) = true →
 K false H_31) ∧
 ((!r0_39) = false →
 n2 (IntKind.wrap .i64 (s17l2 + 1)) H_31))) ∧
 (¬ (s17l2 < s16l2) →
 T_slices_EqualFunc_gnomon_api_Cond_gnomon_api_Cond_gnomon_api_Cond_gnomon_api_Cond_of_gnomon_tree_sameCond_j1 H K)
def T_slices_EqualFunc_gnomon_api_Cond_gnomon_api_Cond_gnomon_api_Cond_gnomon_api_Cond_of_gnomon_tree_sameCond (x0 : Sl) (x1 : Sl) (H : Hp) (K : Bool → Hp → Prop) : Prop :=
 (¬ ((x0.n : Int) = (x1.n : Int)) →
 K false H) ∧
 ((x0.n : Int) = (x1.n : Int) →
 TL (0 : Int) H fun (s : Int) H n2 => T_slices_EqualFunc_gnomon_api_Cond_gnomon_api_Cond_gnomon_api_Cond_gnomon_api_Cond_of_gnomon_tree_sameCond_l2 x1 x0 (x0.n : Int) s H n2 K)
theorem LF_slices_EqualFunc_gnomon_api_Cond_gnomon_api_Cond_gnomon_api_Cond_gnomon_api_Cond_of_gnomon_tree_sameCond (x0 : Sl) (x1 : Sl) {w0 w : World} {ps0 : Nat → Prop} {H0 H : Hp} {K : Bool → Hp → Prop} {R : Value → World → Prop} {E : Pan} (I : Inv w0 ps0 H0 H [] w) (hR : ∀ (r0 : Bool) (H' : Hp) (w' : World) (_ : Inv w0 ps0 H0 H' [] w') (_ : K r0 H'), R (Value.bool r0) w') (h : T_slices_EqualFunc_gnomon_api_Cond_gnomon_api_Cond_gnomon_api_Cond_gnomon_api_Cond_of_gnomon_tree_sameCond x0 x1 H K) : F85 (vs x0) (vs x1) (Value.func (.func 86) #[] #[]) w R E := by
 unfold T_slices_EqualFunc_gnomon_api_Cond_gnomon_api_Cond_gnomon_api_Cond_gnomon_api_Cond_of_gnomon_tree_sameCond at h
 unfold F85
 refine opK_pu (pu_len_31 _ _ _) ?_
 refine opK_pu (pu_len_31 _ _ _) ?_
 refine opK_pu (pu_neq _ _ _ _ _ _) ?_
 refine xcond_n (fun c_50 => ?_) (fun c_50 => ?_)
 ·replace h := h.1 c_50
  exact hR false H _ I h
 ·replace h := h.2 c_50
  have hj1 : ∀ (H : Hp) (w : World) (_ : Inv w0 ps0 H0 H [] w) (_ : T_slices_EqualFunc_gnomon_api_Cond_gnomon_api_Cond_gnomon_api_Cond_gnomon_api_Cond_of_gnomon_tree_sameCond_j1 H K), F85_j1 w R E := by
   intro H w I h
   unfold F85_j1
   intro _
   unfold T_slices_EqualFunc_gnomon_api_Cond_gnomon_api_Cond_gnomon_api_Cond_gnomon_api_Cond_of_gnomon_tree_sameCond_j1 at h
   exact hR true H _ I h
  refine xcut_i fun j1 hx1 => ?_
  refine opK_pu (pu_len_31 _ _ _) ?_
  obtain ⟨J_42, m_43, i_44, b_45⟩ := h
  refine xloop_J (J := fun n l w => ∃ (s : Int) (H : Hp) , n = m_43 s ∧ l = [(vi s)] ∧ Inv w0 ps0 H0 H [] w ∧ J_42 s H) ⟨_, 0, H, rfl, rfl, I, i_44⟩ ?_
  rintro n_46 τ_47 w next2 ⟨s17l2, H, rfl, l_48, I, s_49⟩ hn2
  simp only [List.map_cons, List.map_nil, List.cons.injEq, and_true] at l_48
  have e17 := l_48
  simp only [e17]
  obtain ⟨n2, hm2, h⟩ : ∃ n2 : Int → Hp → Prop, (∀ s' H', n2 s' H' → J_42 s' H' ∧ m_43 s' < m_43 s17l2) ∧ T_slices_EqualFunc_gnomon_api_Cond_gnomon_api_Cond_gnomon_api_Cond_gnomon_api_Cond_of_gnomon_tree_sameCond_l2 x1 x0 (x0.n : Int) s17l2 H n2 K := ⟨_, fun _ _ h => h, b_45 s17l2 H (fun s' H' => J_42 s' H' ∧ m_43 s' < m_43 s17l2) s_49 (fun _ _ a b => ⟨a, b⟩)⟩
  unfold F85_l2
  unfold T_slices_EqualFunc_gnomon_api_Cond_gnomon_api_Cond_gnomon_api_Cond_gnomon_api_Cond_of_gnomon_tree_sameCond_l2 at h
  refine opK_pu (pu_lss _ _ _ _ _ _) ?_
  refine xcond_p (fun c_41 => ?_) (fun c_41 => ?_)
  ·replace h := h.1 c_41
   obtain ⟨h_4, h_5, x_1, h_7, h⟩ := h
   obtain ⟨g_2, o_3, h_6, h_7⟩ := h_7
   refine opK_pu (pu_ix_31 h_6 _ _ _ _ h_4 h_5) ?_
   refine opK_ld (ldA (vs := (cs_api_Cond x_1)) Tryd.isAgg33 Tryd.sizeOf33 rfl (I.atH h_7)) ?_
   refine s_alloc I Tryd.zeroValue33 (cs := [(vi 0), (vi 0), (Value.slice none 0 0), (Value.slice none 0 0)]) rfl fun g_9 w_10 I_11 k_12 => ?_
   refine s_store I_11 Tryd.sizeOf33 (vs := (cs_api_Cond x_1)) (cs' := (cs_api_Cond x_1)) rfl rfl (nb rfl) rfl rfl fun w_13 I_14 k_15 => ?_
   obtain ⟨h_19, h_20, x_16, h_22, h⟩ := h
   obtain ⟨g_17, o_18, h_21, h_22⟩ := h_22
   refine opK_pu (pu_ix_31 h_21 _ _ _ _ h_19 h_20) ?_
   refine opK_ld (ldA (vs := (cs_api_Cond x_16)) Tryd.isAgg33 Tryd.sizeOf33 rfl (I_14.atH h_22)) ?_
   refine s_alloc I_14 Tryd.zeroValue33 (cs := [(vi 0), (vi 0), (Value.slice none 0 0), (Value.slice none 0 0)]) rfl fun g_24 w_25 I_26 k_27 => ?_
   refine s_store I_26 Tryd.sizeOf33 (vs := (cs_api_Cond x_16)) (cs' := (cs_api_Cond x_16)) rfl rfl (nb rfl) rfl rfl fun w_28 I_29 k_30 => ?_
   refine opK_ld (ldA Tryd.isAgg33 Tryd.sizeOf33 rfl ((I_29.bring 1).at1 (o := 0) (vs := (cs_api_Cond x_1)) (nb rfl) rfl)) ?_
   refine opK_ld (ldA Tryd.isAgg33 Tryd.sizeOf33 rfl (I_29.at1 (o := 0) (vs := (cs_api_Cond x_16)) (nb rfl) rfl)) ?_
   refine opK_calls (cap := []) (fun args w => Tryd.call86 args w) ?_
   refine Cv_ct (Fi := []) (Fr := [bx g_24 33 (cs_api_Cond x_16), bx g_9 33 (cs_api_Cond x_1)]) I_29 (h) (fun v_35 H_31 F_36 w_32 I_33 l_38 k_34 q_37 => ?_) (fun _ _ _ _ _ q => q.elim)
   obtain ⟨r0_39, rfl, rfl, h⟩ := q_37
   refine opK_pu (pu_not _) ?_
   refine xcond_b (fun c_40 => ?_) (fun c_40 => ?_)
   ·replace h := h.1 c_40
    exact hR false H_31 _ I_33.drop.drop h
   ·replace h := h.2 c_40
    refine opK_pu (pu_add _ _ _ _ _ _) ?_
    exact hn2 _ _ _ (hm2 _ _ h).2 ⟨(IntKind.wrap .i64 (s17l2 + 1)), H_31, rfl, rfl, I_33.drop.drop, (hm2 _ _ h).1⟩
  ·replace h := h.2 c_41
   exact hx1 _ _ (hj1 H _ I h)
theorem L_slices_EqualFunc_gnomon_api_Cond_gnomon_api_Cond_gnomon_api_Cond_gnomon_api_Cond_of_gnomon_tree_sameCond (x0 : Sl) (x1 : Sl) {H : Hp} {K : Bool → Hp → Prop} (h : T_slices_EqualFunc_gnomon_api_Cond_gnomon_api_Cond_gnomon_api_Cond_gnomon_api_Cond_of_gnomon_tree_sameCond x0 x1 H K) : C_slices_EqualFunc_gnomon_api_Cond_gnomon_api_Cond_gnomon_api_Cond_gnomon_api_Cond_of_gnomon_tree_sameCond x0 x1 H K := by
 intro w I
 refine F85_ok ?_
 refine LF_slices_EqualFunc_gnomon_api_Cond_gnomon_api_Cond_gnomon_api_Cond_gnomon_api_Cond_of_gnomon_tree_sameCond x0 x1 I (fun r0 H' w' I' hk => ⟨H', _, I', r0, rfl, rfl, hk⟩) h


/- function 15: gnomon/tree.Equal -/
def T_gnomon_tree_Equal (x0 : Tapi_Prog) (x1 : Tapi_Prog) (H : Hp) (K : Bool → Hp → Prop) : Prop :=
 C_gnomon_tree_bounded x0 H (fun (r0_19 : Bool) (H_11 : Hp) => 
 TG (r0_19 = true) (C_gnomon_tree_bounded x1 H_11) false H_11 (fun (r0_28 : Bool) (H_20 : Hp) =>
 TG ((r0_19 && r0_28) = true) (C_slices_Equal_gnomon_api_Decl_gnomon_api_Decl x0.fDecls x1.fDecls H_20) false H_20 (fun (r0_37 : Bool) (H_29 : Hp) =>
 TG (((r0_19 && r0_28) && r0_37) = true) (C_slices_EqualFunc_gnomon_api_Stmt_gnomon_api_Stmt_gnomon_api_Stmt_gnomon_api_Stmt_of_gnomon_tree_sameStmt x0.fBody x1.fBody H_29) false H_29 (fun (r0_46 : Bool) (H_38 : Hp) =>
 K (((r0_19 && r0_28) && r0_37) && r0_46) H_38))))
theorem LF_gnomon_tree_Equal (x0 : Tapi_Prog) (x1 : Tapi_Prog) {w0 w : World} {ps0 : Nat → Prop} {H0 H : Hp} {K : Bool → Hp → Prop} {R : Value → World → Prop} {E : Pan} (I : Inv w0 ps0 H0 H [] w) (hR : ∀ (r0 : Bool) (H' : Hp) (w' : World) (_ : Inv w0 ps0 H0 H' [] w') (_ : K r0 H'), R (Value.bool r0) w') (h : T_gnomon_tree_Equal x0 x1 H K) : F15 (Value.agg (cs_api_Prog x0).toArray) (Value.agg (cs_api_Prog x1).toArray) w R E := by
 unfold T_gnomon_tree_Equal at h
 unfold F15
 refine s_box I (cs := (cs_api_Prog x0)) rfl fun g_2 w_3 I_4 k_5 => ?_
 refine s_box I_4 (cs := (cs_api_Prog x1)) rfl fun g_7 w_8 I_9 k_10 => ?_
 refine opK_ld (ldA Tryd.isAgg25 Tryd.sizeOf25 rfl ((I_9.bring 1).at1 (o := 0) (vs := (cs_api_Prog x0)) (nb rfl) rfl)) ?_
 refine opK_calls (cap := []) (fun args w => Tryd.call51 args w) ?_
 refine Cv_ct (Fi := []) (Fr := [bx g_7 25 (cs_api_Prog x1), bx g_2 25 (cs_api_Prog x0)]) I_9 (h) (fun v_15 H_11 F_16 w_12 I_13 l_18 k_14 q_17 => ?_) (fun _ _ _ _ _ q => q.elim)
 obtain ⟨r0_19, rfl, rfl, h⟩ := q_17
 refine opK_ld (Ld.g fun hb => by have hb_0 := hb; first | exact (ldA Tryd.isAgg25 Tryd.sizeOf25 rfl (I_13.at1 (o := 0) (vs := (cs_api_Prog x1)) (nb rfl) rfl)) | (simp only [gval_t hb_0, gv_t hb_0, gv_t hb, gva_tt hb_0]; exact (ldA Tryd.isAgg25 Tryd.sizeOf25 rfl (I_13.at1 (o := 0) (vs := (cs_api_Prog x1)) (nb rfl) rfl))) | (simp only [gval_t hb_0, gv_t hb_0, gv_t hb, gva_tf hb_0, gv_n]; exact (ldA Tryd.isAgg25 Tryd.sizeOf25 rfl (I_13.at1 (o := 0) (vs := (cs_api_Prog x1)) (nb rfl) rfl)))) ?_
 refine opK_g2 (D := fun v_24 w_21 => ∃ (r0_28 : Bool) (H_20 : Hp) , v_24 = (gv r0_19 true (Value.bool r0_28)) ∧ (Inv w0 ps0 H0 H_20 [bx g_7 25 (cs_api_Prog x1), bx g_2 25 (cs_api_Prog x0)] w_21) ∧ (∀ i, i < w_12.heap.size → ¬ inF [] i → w_21.heap[i]? = w_12.heap[i]?) ∧ Hle H_11 H_20 ∧ (TG ((r0_19 && r0_28) = true) (C_slices_Equal_gnomon_api_Decl_gnomon_api_Decl x0.fDecls x1.fDecls H_20) false H_20 (fun (r0_37 : Bool) (H_29 : Hp) =>
 TG (((r0_19 && r0_28) && r0_37) = true) (C_slices_EqualFunc_gnomon_api_Stmt_gnomon_api_Stmt_gnomon_api_Stmt_gnomon_api_Stmt_of_gnomon_tree_sameStmt x0.fBody x1.fBody H_29) false H_29 (fun (r0_46 : Bool) (H_38 : Hp) =>
 K (((r0_19 && r0_28) && r0_37) && r0_46) H_38)))) (fun b_49 => ?_) (fun b_49 => ?_) ?_
 ·replace h := h.1 b_49
  have hb_0 := b_49
  try simp only [gv_t hb_0]
  refine opK_calls (cap := []) (fun args w => Tryd.call51 args w) ?_
  refine Cv_ct (Fi := []) (Fr := [bx g_7 25 (cs_api_Prog x1), bx g_2 25 (cs_api_Prog x0)]) I_13 (h) (fun v_24 H_20 F_25 w_21 I_22 l_27 k_23 q_26 => ?_) (fun _ _ _ _ _ q => q.elim)
  obtain ⟨r0_28, rfl, rfl, h⟩ := q_26
  exact ⟨r0_28, H_20, by first | rfl | rw [gv_t b_49], I_22, k_23, l_27, h⟩
 ·exact ⟨false, H_11, by first | rfl | rw [gv_f b_49], I_13, fun _ _ _ => rfl, Hle.refl _, h.2 b_49⟩
 ·clear h
  rintro v_24 w_21 ⟨r0_28, H_20, rfl, I_22, k_23, l_27, h⟩
  refine opK_pu (pu_and _ _) ?_
  refine opK_pu (Pu.g fun hb => by have hb_0 := hb; first | exact pu_fa_25_0 | (simp only [gval_t hb_0, gv_t hb_0, gv_t hb, gva_tt hb_0]; exact pu_fa_25_0) | (simp only [gval_t hb_0, gv_t hb_0, gv_t hb, gva_tf hb_0, gv_n]; exact pu_fa_25_0)) ?_
  refine opK_ld (Ld.g fun hb => by have hb_0 := hb; first | exact (ld1 Tryd.isAgg22 ((I_22.bring 1).at1 (o := 0) (vs := [(vs x0.fDecls)]) (nb rfl) rfl)) | (simp only [gv_t hb_0]; exact (ld1 Tryd.isAgg22 ((I_22.bring 1).at1 (o := 0) (vs := [(vs x0.fDecls)]) (nb rfl) rfl))) | (simp only [gval_t hb_0, gv_t hb_0, gv_t hb, gva_tf hb_0, gv_n]; exact (ld1 Tryd.isAgg22 ((I_22.bring 1).at1 (o := 0) (vs := [(vs x0.fDecls)]) (nb rfl) rfl)))) ?_
  refine opK_pu (Pu.g fun hb => by have hb_0 := hb; first | exact pu_fa_25_0 | (simp only [gval_t hb_0, gv_t hb_0, gv_t hb, gva_tt hb_0]; exact pu_fa_25_0) | (simp only [gval_t hb_0, gv_t hb_0, gv_t hb, gva_tf hb_0, gv_n]; exact pu_fa_25_0)) ?_
  refine opK_ld (Ld.g fun hb => by have hb_0 := hb; first | exact (ld1 Tryd.isAgg22 (I_22.at1 (o := 0) (vs := [(vs x1.fDecls)]) (nb rfl) rfl)) | (simp only [gv_t hb_0]; exact (ld1 Tryd.isAgg22 (I_22.at1 (o := 0) (vs := [(vs x1.fDecls)]) (nb rfl) rfl))) | (simp only [gval_t hb_0, gv_t hb_0, gv_t hb, gva_tf hb_0, gv_n]; exact (ld1 Tryd.isAgg22 (I_22.at1 (o := 0) (vs := [(vs x1.fDecls)]) (nb rfl) rfl)))) ?_
  refine opK_g2 (D := fun v_33 w_30 => ∃ (r0_37 : Bool) (H_29 : Hp) , v_33 = (gv (r0_19 && r0_28) true (Value.bool r0_37)) ∧ (Inv w0 ps0 H0 H_29 [bx g_7 25 (cs_api_Prog x1), bx g_2 25 (cs_api_Prog x0)] w_30) ∧ (∀ i, i < w_21.heap.size → ¬ inF [] i → w_30.heap[i]? = w_21.heap[i]?) ∧ Hle H_20 H_29 ∧ (TG (((r0_19 && r0_28) && r0_37) = true) (C_slices_EqualFunc_gnomon_api_Stmt_gnomon_api_Stmt_gnomon_api_Stmt_gnomon_api_Stmt_of_gnomon_tree_sameStmt x0.fBody x1.fBody H_29) false H_29 (fun (r0_46 : Bool) (H_38 : Hp) =>
 K (((r0_19 && r0_28) && r0_37) && r0_46) H_38))) (fun b_48 => ?_) (fun b_48 => ?_) ?_
  ·replace h := h.1 b_48
   have hb_0 := b_48
   try simp only [gv_t hb_0]
   refine opK_calls (cap := []) (fun args w => Tryd.call52 args w) ?_
   refine Cv_ct (Fi := []) (Fr := [bx g_7 25 (cs_api_Prog x1), bx g_2 25 (cs_api_Prog x0)]) I_22 (h) (fun v_33 H_29 F_34 w_30 I_31 l_36 k_32 q_35 => ?_) (fun _ _ _ _ _ q => q.elim)
   obtain ⟨r0_37, rfl, rfl, h⟩ := q_35
   exact ⟨r0_37, H_29, by first | rfl | rw [gv_t b_48], I_31, k_32, l_36, h⟩
  ·exact ⟨false, H_20, by first | rfl | rw [gv_f b_48], I_22, fun _ _ _ => rfl, Hle.refl _, h.2 b_48⟩
  ·clear h
   rintro v_33 w_30 ⟨r0_37, H_29, rfl, I_31, k_32, l_36, h⟩
   refine opK_pu (pu_and _ _) ?_
   refine opK_pu (Pu.g fun hb => by have hb_0 := hb; first | exact pu_fa_25_1 | (simp only [gval_t hb_0, gv_t hb_0, gv_t hb, gva_tt hb_0]; exact pu_fa_25_1) | (simp only [gval_t hb_0, gv_t hb_0, gv_t hb, gva_tf hb_0, gv_n]; exact pu_fa_25_1)) ?_
   refine opK_ld (Ld.g fun hb => by have hb_0 := hb; first | exact (ld1 Tryd.isAgg23 ((I_31.bring 1).at1 (o := 1) (vs := [(vs x0.fBody)]) (nb rfl) rfl)) | (simp only [gv_t hb_0]; exact (ld1 Tryd.isAgg23 ((I_31.bring 1).at1 (o := 1) (vs := [(vs x0.fBody)]) (nb rfl) rfl))) | (simp only [gval_t hb_0, gv_t hb_0, gv_t hb, gva_tf hb_0, gv_n]; exact (ld1 Tryd.isAgg23 ((I_31.bring 1).at1 (o := 1) (vs := [(vs x0.fBody)]) (nb rfl) rfl)))) ?_
   refine opK_pu (Pu.g fun hb => by have hb_0 := hb; first | exact pu_fa_25_1 | (simp only [gval_t hb_0, gv_t hb_0, gv_t hb, gva_tt hb_0]; exact pu_fa_25_1) | (simp only [gval_t hb_0, gv_t hb_0, gv_t hb, gva_tf hb_0, gv_n]; exact pu_fa_25_1)) ?_
   refine opK_ld (Ld.g fun hb => by have hb_0 := hb; first | exact (ld1 Tryd.isAgg23 (I_31.at1 (o := 1) (vs := [(vs x1.fBody)]) (nb rfl) rfl)) | (simp only [gv_t hb_0]; exact (ld1 Tryd.isAgg23 (I_31.at1 (o := 1) (vs := [(vs x1.fBody)]) (nb rfl) rfl))) | (simp only [gval_t hb_0, gv_t hb_0, gv_t hb, gva_tf hb_0, gv_n]; exact (ld1 Tryd.isAgg23 (I_31.at1 (o := 1) (vs := [(vs x1.fBody)]) (nb rfl) rfl)))) ?_
   refine opK_g2 (D := fun v_42 w_39 => ∃ (r0_46 : Bool) (H_38 : Hp) , v_42 = (gv ((r0_19 && r0_28) && r0_37) true (Value.bool r0_46)) ∧ (Inv w0 ps0 H0 H_38 [bx g_7 25 (cs_api_Prog x1), bx g_2 25 (cs_api_Prog x0)] w_39) ∧ (∀ i, i < w_30.heap.size → ¬ inF [] i → w_39.heap[i]? = w_30.heap[i]?) ∧ Hle H_29 H_38 ∧ (K (((r0_19 && r0_28) && r0_37) && r0_46) H_38)) (fun b_47 => ?_) (fun b_47 => ?_) ?_
   ·replace h := h.1 b_47
    have hb_0 := b_47
    try simp only [gv_t hb_0]
    refine opK_calls (cap := []) (fun args w => Tryd.call53 args w) ?_
    refine Cv_ct (Fi := []) (Fr := [bx g_7 25 (cs_api_Prog x1), bx g_2 25 (cs_api_Prog x0)]) I_31 (h) (fun v_42 H_38 F_43 w_39 I_40 l_45 k_41 q_44 => ?_) (fun _ _ _ _ _ q => q.elim)
    obtain ⟨r0_46, rfl, rfl, h⟩ := q_44
    exact ⟨r0_46, H_38, by first | rfl | rw [gv_t b_47], I_40, k_41, l_45, h⟩
   ·exact ⟨false, H_29, by first | rfl | rw [gv_f b_47], I_31, fun _ _ _ => rfl, Hle.refl _, h.2 b_47⟩
   ·clear h
    rintro v_42 w_39 ⟨r0_46, H_38, rfl, I_40, k_41, l_45, h⟩
    refine opK_pu (pu_and _ _) ?_
    exact hR (((r0_19 && r0_28) && r0_37) && r0_46) H_38 _ I_40.drop.drop h
theorem L_gnomon_tree_Equal (x0 : Tapi_Prog) (x1 : Tapi_Prog) {H : Hp} {K : Bool → Hp → Prop} (h : T_gnomon_tree_Equal x0 x1 H K) : C_gnomon_tree_Equal x0 x1 H K := by
 intro w I
 refine F15_ok ?_
 refine LF_gnomon_tree_Equal x0 x1 I (fun r0 H' w' I' hk => ⟨H', _, I', r0, rfl, rfl, hk⟩) h


/- function 61: (*gnomon/gnomonref3.walk).cond -/
def T_gnomon_gnomonref3_walk_cond_l2 (s2l2 : Int) (cr_1l2 : Tapi_Cond) (s7l2 : Int) (cp0l2 : Tgnomonref3_walk) (H : Hp) (n2 : (Int × Tgnomonref3_walk) → Hp → Prop) (K : Tgnomonref3_walk → Hp → Prop) : Prop :=
 (((decide (s7l2 < (cr_1l2.fParts.n : Int))) && (decide (cp0l2.fbad = 0))) = true →
 (0 : Int) ≤ s7l2 ∧ (s7l2 : Int) < cr_1l2.fParts.n ∧ ∃ x_56 : Tapi_Cond, EltH H cr_1l2.fParts s7l2 4 (cs_api_Cond x_56) ∧ 
 C_gnomon_gnomonref3_walk_cond cp0l2 x_56 (IntKind.wrap .i64 (s2l2 + 1)) H (fun (y0_71 : Tgnomonref3_walk) (H_63 : Hp) => 
 n2 ((IntKind.wrap .i64 (s7l2 + 1)), y0_71) H_63)) ∧
 (((decide (s7l2 < (cr_1l2.fParts.n : Int))) && (decide (cp0l2.fbad = 0))) = false →
 K cp0l2 H)
def T_gnomon_gnomonref3_walk_cond_j1 (s2j1 : Int) (cp0j1 : Tgnomonref3_walk) (cr_1j1 : Tapi_Cond) (H : Hp) (K : Tgnomonref3_walk → Hp → Prop) : Prop :=
 TL ((0, cp0j1) : Int × Tgnomonref3_walk) H fun (s : Int × Tgnomonref3_walk) H n2 => T_gnomon_gnomonref3_walk_cond_l2 s2j1 cr_1j1 s.1 s.2 H n2 K
def T_gnomon_gnomonref3_walk_cond_l3 (s2l3 : Int) (cr_1l3 : Tapi_Cond) (s6l3 : Int) (cp0l3 : Tgnomonref3_walk) (H : Hp) (n3 : (Int × Tgnomonref3_walk) → Hp → Prop) (K : Tgnomonref3_walk → Hp → Prop) : Prop :=
 (((decide (s6l3 < (cr_1l3.fExprs.n : Int))) && (decide (cp0l3.fbad = 0))) = true →
 (0 : Int) ≤ s6l3 ∧ (s6l3 : Int) < cr_1l3.fExprs.n ∧ ∃ x_90 : Tapi_Expr, EltH H cr_1l3.fExprs s6l3 4 (cs_api_Expr x_90) ∧ 
 C_gnomon_gnomonref3_walk_expr cp0l3 x_90 (IntKind.wrap .i64 (s2l3 + 1)) H (fun (y0_105 : Tgnomonref3_walk) (H_97 : Hp) => 
 n3 ((IntKind.wrap .i64 (s6l3 + 1)), y0_105) H_97)) ∧
 (((decide (s6l3 < (cr_1l3.fExprs.n : Int))) && (decide (cp0l3.fbad = 0))) = false →
 T_gnomon_gnomonref3_walk_cond_j1 s2l3 cp0l3 cr_1l3 H K)
def T_gnomon_gnomonref3_walk_cond (x0 : Tgnomonref3_walk) (x1 : Tapi_Cond) (x2 : Int) (H : Hp) (K : Tgnomonref3_walk → Hp → Prop) : Prop :=
 C_gnomon_gnomonref3_walk_node x0 x2 H (fun (r0_14 : Bool) (y0_14 : Tgnomonref3_walk) (H_6 : Hp) => 
 ((!r0_14) = true →
 K y0_14 H_6) ∧
 ((!r0_14) = false →
 TL ((0, y0_14) : Int × Tgnomonref3_walk) H_6 fun (s : Int × Tgnomonref3_walk) H n3 => T_gnomon_gnomonref3_walk_cond_l3 x2 x1 s.1 s.2 H n3 K))
theorem LF_gnomon_gnomonref3_walk_cond (x0 : Tgnomonref3_walk) (x1 : Tapi_Cond) (x2 : Int) (g0 : Nat) {w0 w : World} {ps0 : Nat → Prop} {H0 H : Hp} {K : Tgnomonref3_walk → Hp → Prop} {R : Value → World → Prop} {E : Pan} (I : Inv w0 ps0 H0 H [bx g0 99 (cs_gnomonref3_walk x0)] w) (hR : ∀ (y0 : Tgnomonref3_walk) (H' : Hp) (w' : World) (_ : Inv w0 ps0 H0 H' [bx g0 99 (cs_gnomonref3_walk y0)] w') (_ : K y0 H'), R (Value.tuple #[]) w') (h : T_gnomon_gnomonref3_walk_cond x0 x1 x2 H K) : F61 (Value.pointer (some ⟨g0, 0, none⟩)) (Value.agg (cs_api_Cond x1).toArray) (vi x2) w R E := by
 unfold T_gnomon_gnomonref3_walk_cond at h
 unfold F61
 refine s_box I (cs := (cs_api_Cond x1)) rfl fun g_2 w_3 I_4 k_5 => ?_
 refine opK_calls (cap := []) (fun args w => Tryd.call91 args w) ?_
 refine Cv_ct (Fi := [bx g0 99 (cs_gnomonref3_walk x0)]) (Fr := [bx g_2 33 (cs_api_Cond x1)]) (I_4.bring 1) (h g0) (fun v_10 H_6 F_11 w_7 I_8 l_13 k_9 q_12 => ?_) (fun _ _ _ _ _ q => q.elim)
 obtain ⟨r0_14, y0_14, rfl, rfl, h⟩ := q_12
 refine opK_pu (pu_not _) ?_
 refine xcond_b (fun c_115 => ?_) (fun c_115 => ?_)
 ·replace h := h.1 c_115
  exact hR y0_14 H_6 _ (I_8.bring 1).drop h
 ·replace h := h.2 c_115
  have hj1 : ∀ (cp0j1 : Tgnomonref3_walk) (H : Hp) (w : World) (_ : Inv w0 ps0 H0 H [bx g0 99 (cs_gnomonref3_walk cp0j1), bx g_2 33 (cs_api_Cond x1)] w) (_ : T_gnomon_gnomonref3_walk_cond_j1 x2 cp0j1 x1 H K), F61_j1 (Value.pointer (some ⟨g0, 0, none⟩)) (vi x2) (Value.pointer (some ⟨g_2, 0, none⟩)) w R E := by
   intro cp0j1 H w I h
   unfold F61_j1
   intro _
   unfold T_gnomon_gnomonref3_walk_cond_j1 at h
   obtain ⟨J_73, m_74, i_75, b_76⟩ := h
   refine xloop_J (J := fun n l w => ∃ (s : Int × Tgnomonref3_walk) (H : Hp) , n = m_74 s ∧ l = (match s with | (s7l2, cp0l2) => [(vi s7l2)]) ∧ (match s with | (s7l2, cp0l2) => Inv w0 ps0 H0 H [bx g0 99 (cs_gnomonref3_walk cp0l2), bx g_2 33 (cs_api_Cond x1)] w) ∧ J_73 s H) ⟨_, (0, cp0j1), H, rfl, rfl, ((I.bring 1).bring 1), i_75⟩ ?_
   rintro n_77 τ_78 w next2 ⟨⟨s7l2, cp0l2⟩, H, rfl, l_79, I, s_80⟩ hn2
   dsimp only at l_79 I
   simp only [List.map_cons, List.map_nil, List.cons.injEq, and_true] at l_79
   have e7 := l_79
   simp only [e7]
   obtain ⟨n2, hm2, h⟩ : ∃ n2 : (Int × Tgnomonref3_walk) → Hp → Prop, (∀ s' H', n2 s' H' → J_73 s' H' ∧ m_74 s' < m_74 (s7l2, cp0l2)) ∧ T_gnomon_gnomonref3_walk_cond_l2 x2 x1 s7l2 cp0l2 H n2 K := ⟨_, fun _ _ h => h, b_76 (s7l2, cp0l2) H (fun s' H' => J_73 s' H' ∧ m_74 s' < m_74 (s7l2, cp0l2)) s_80 (fun _ _ a b => ⟨a, b⟩)⟩
   unfold F61_l2
   unfold T_gnomon_gnomonref3_walk_cond_l2 at h
   refine opK_pu pu_fa_33_3 ?_
   refine opK_ld (ld1 Tryd.isAgg31 ((I.bring 1).at1 (o := 3) (vs := [(vs x1.fParts)]) (nb rfl) rfl)) ?_
   refine opK_pu (pu_len_31 _ _ _) ?_
   refine opK_pu (pu_lss _ _ _ _ _ _) ?_
   try simp only [gval_b]
   refine opK_pu (Pu.g fun hb => by have hb_0 := hb; first | exact (pu_nilp _) | (simp only [gv_t hb_0]; exact (pu_nilp _)) | (simp only [gval_t hb_0, gv_t hb_0, gv_t hb, gva_tf hb_0, gv_n]; exact (pu_nilp _))) ?_
   refine opK_pu (Pu.g fun hb => by have hb_0 := hb; first | exact pu_fa_99_2 | (simp only [gv_t hb_0]; exact pu_fa_99_2) | (simp only [gval_t hb_0, gv_t hb_0, gv_t hb, gva_tf hb_0, gv_n]; exact pu_fa_99_2)) ?_
   refine opK_ld (Ld.g fun hb => by have hb_0 := hb; first | exact (ld1 Tryd.isAgg3 (I.at1 (o := 2) (vs := [(vi cp0l2.fbad)]) (nb rfl) rfl)) | (simp only [gv_t hb_0]; exact (ld1 Tryd.isAgg3 (I.at1 (o := 2) (vs := [(vi cp0l2.fbad)]) (nb rfl) rfl))) | (simp only [gval_t hb_0, gv_t hb_0, gv_t hb, gva_tf hb_0, gv_n]; exact (ld1 Tryd.isAgg3 (I.at1 (o := 2) (vs := [(vi cp0l2.fbad)]) (nb rfl) rfl)))) ?_
   refine opK_pu (Pu.g fun hb => by have hb_0 := hb; first | exact (pu_eql _ _ _ _ _ _) | (simp only [gv_t hb_0]; exact (pu_eql _ _ _ _ _ _)) | (simp only [gval_t hb_0, gv_t hb_0, gv_t hb, gva_tf hb_0, gv_n]; exact (pu_eql _ _ _ _ _ _))) ?_
   refine opK_pu (pu_and _ _) ?_
   refine xcond_b (fun c_72 => ?_) (fun c_72 => ?_)
   ·replace h := h.1 c_72
    refine opK_pu pu_fa_33_3 ?_
    refine opK_ld (ld1 Tryd.isAgg31 ((I.bring 1).at1 (o := 3) (vs := [(vs x1.fParts)]) (nb rfl) rfl)) ?_
    obtain ⟨h_59, h_60, x_56, h_62, h⟩ := h
    obtain ⟨g_57, o_58, h_61, h_62⟩ := h_62
    refine opK_pu (pu_ix_31 h_61 _ _ _ _ h_59 h_60) ?_
    refine opK_ld (ldA (vs := (cs_api_Cond x_56)) Tryd.isAgg33 Tryd.sizeOf33 rfl (I.atH h_62)) ?_
    refine opK_pu (pu_add _ _ _ _ _ _) ?_
    refine opK_calls (cap := []) (fun args w => Tryd.call61 args w) ?_
    refine Cv_ct (Fi := [bx g0 99 (cs_gnomonref3_walk cp0l2)]) (Fr := [bx g_2 33 (cs_api_Cond x1)]) I (h g0) (fun v_67 H_63 F_68 w_64 I_65 l_70 k_66 q_69 => ?_) (fun _ _ _ _ _ q => q.elim)
    obtain ⟨y0_71, rfl, rfl, h⟩ := q_69
    refine opK_pu (pu_add _ _ _ _ _ _) ?_
    exact hn2 _ _ _ (hm2 _ _ h).2 ⟨((IntKind.wrap .i64 (s7l2 + 1)), y0_71), H_63, rfl, rfl, ((I_65.bring 1).bring 1), (hm2 _ _ h).1⟩
   ·replace h := h.2 c_72
    exact hR cp0l2 H _ (I.bring 1).drop h
  refine xcut_i fun j1 hx1 => ?_
  obtain ⟨J_107, m_108, i_109, b_110⟩ := h
  refine xloop_J (J := fun n l w => ∃ (s : Int × Tgnomonref3_walk) (H : Hp) , n = m_108 s ∧ l = (match s with | (s6l3, cp0l3) => [(vi s6l3)]) ∧ (match s with | (s6l3, cp0l3) => Inv w0 ps0 H0 H [bx g0 99 (cs_gnomonref3_walk cp0l3), bx g_2 33 (cs_api_Cond x1)] w) ∧ J_107 s H) ⟨_, (0, y0_14), H_6, rfl, rfl, ((I_8.bring 1).bring 1), i_109⟩ ?_
  rintro n_111 τ_112 w next3 ⟨⟨s6l3, cp0l3⟩, H, rfl, l_113, I, s_114⟩ hn3
  dsimp only at l_113 I
  simp only [List.map_cons, List.map_nil, List.cons.injEq, and_true] at l_113
  have e6 := l_113
  simp only [e6]
  obtain ⟨n3, hm3, h⟩ : ∃ n3 : (Int × Tgnomonref3_walk) → Hp → Prop, (∀ s' H', n3 s' H' → J_107 s' H' ∧ m_108 s' < m_108 (s6l3, cp0l3)) ∧ T_gnomon_gnomonref3_walk_cond_l3 x2 x1 s6l3 cp0l3 H n3 K := ⟨_, fun _ _ h => h, b_110 (s6l3, cp0l3) H (fun s' H' => J_107 s' H' ∧ m_108 s' < m_108 (s6l3, cp0l3)) s_114 (fun _ _ a b => ⟨a, b⟩)⟩
  unfold F61_l3
  unfold T_gnomon_gnomonref3_walk_cond_l3 at h
  refine opK_pu pu_fa_33_2 ?_
  refine opK_ld (ld1 Tryd.isAgg28 ((I.bring 1).at1 (o := 2) (vs := [(vs x1.fExprs)]) (nb rfl) rfl)) ?_
  refine opK_pu (pu_len_28 _ _ _) ?_
  refine opK_pu (pu_lss _ _ _ _ _ _) ?_
  try simp only [gval_b]
  refine opK_pu (Pu.g fun hb => by have hb_0 := hb; first | exact (pu_nilp _) | (simp only [gv_t hb_0]; exact (pu_nilp _)) | (simp only [gval_t hb_0, gv_t hb_0, gv_t hb, gva_tf hb_0, gv_n]; exact (pu_nilp _))) ?_
  refine opK_pu (Pu.g fun hb => by have hb_0 := hb; first | exact pu_fa_99_2 | (simp only [gv_t hb_0]; exact pu_fa_99_2) | (simp only [gval_t hb_0, gv_t hb_0, gv_t hb, gva_tf hb_0, gv_n]; exact pu_fa_99_2)) ?_
  refine opK_ld (Ld.g fun hb => by have hb_0 := hb; first | exact (ld1 Tryd.isAgg3 (I.at1 (o := 2) (vs := [(vi cp0l3.fbad)]) (nb rfl) rfl)) | (simp only [gv_t hb_0]; exact (ld1 Tryd.isAgg3 (I.at1 (o := 2) (vs := [(vi cp0l3.fbad)]) (nb rfl) rfl))) | (simp only [gval_t hb_0, gv_t hb_0, gv_t hb, gva_tf hb_0, gv_n]; exact (ld1 Tryd.isAgg3 (I.at1 (o := 2) (vs := [(vi cp0l3.fbad)]) (nb rfl) rfl)))) ?_
  refine opK_pu (Pu.g fun hb => by have hb_0 := hb; first | exact (pu_eql _ _ _ _ _ _) | (simp only [gv_t hb_0]; exact (pu_eql _ _ _ _ _ _)) | (simp only [gval_t hb_0, gv_t hb_0, gv_t hb, gva_tf hb_0, gv_n]; exact (pu_eql _ _ _ _ _ _))) ?_
  refine opK_pu (pu_and _ _) ?_
  refine xcond_b (fun c_106 => ?_) (fun c_106 => ?_)
  ·replace h := h.1 c_106
   refine opK_pu pu_fa_33_2 ?_
   refine opK_ld (ld1 Tryd.isAgg28 ((I.bring 1).at1 (o := 2) (vs := [(vs x1.fExprs)]) (nb rfl) rfl)) ?_
   obtain ⟨h_93, h_94, x_90, h_96, h⟩ := h
   obtain ⟨g_91, o_92, h_95, h_96⟩ := h_96
   refine opK_pu (pu_ix_28 h_95 _ _ _ _ h_93 h_94) ?_
   refine opK_ld (ldA (vs := (cs_api_Expr x_90)) Tryd.isAgg30 Tryd.sizeOf30 rfl (I.atH h_96)) ?_
   refine opK_pu (pu_add _ _ _ _ _ _) ?_
   refine opK_calls (cap := []) (fun args w => Tryd.call58 args w) ?_
   refine Cv_ct (Fi := [bx g0 99 (cs_gnomonref3_walk cp0l3)]) (Fr := [bx g_2 33 (cs_api_Cond x1)]) I (h g0) (fun v_101 H_97 F_102 w_98 I_99 l_104 k_100 q_103 => ?_) (fun _ _ _ _ _ q => q.elim)
   obtain ⟨y0_105, rfl, rfl, h⟩ := q_103
   refine opK_pu (pu_add _ _ _ _ _ _) ?_
   exact hn3 _ _ _ (hm3 _ _ h).2 ⟨((IntKind.wrap .i64 (s6l3 + 1)), y0_105), H_97, rfl, rfl, ((I_99.bring 1).bring 1), (hm3 _ _ h).1⟩
  ·replace h := h.2 c_106
   exact hx1 _ _ (hj1 cp0l3 H _ ((I.bring 1).bring 1) h)
theorem L_gnomon_gnomonref3_walk_cond (x0 : Tgnomonref3_walk) (x1 : Tapi_Cond) (x2 : Int) {H : Hp} {K : Tgnomonref3_walk → Hp → Prop} (h : T_gnomon_gnomonref3_walk_cond x0 x1 x2 H K) : C_gnomon_gnomonref3_walk_cond x0 x1 x2 H K := by
 intro g0 w I
 refine F61_ok ?_
 refine LF_gnomon_gnomonref3_walk_cond x0 x1 x2 g0 I (fun y0 H' w' I' hk => ⟨H', _, I', y0, rfl, rfl, hk⟩) h


/- function 87: gnomon/gnomonref3.SameCond -/
def T_gnomon_gnomonref3_SameCond_j2 (_cr_6j2 : Tapi_Cond) (_cr_1j2 : Tapi_Cond) (H : Hp) (K : Bool → Hp → Prop) : Prop :=
 K true H
def T_gnomon_gnomonref3_SameCond_l3 (cr_6l3 : Tapi_Cond) (cr_1l3 : Tapi_Cond) (s6l3 : Int) (H : Hp) (n3 : Int → Hp → Prop) (K : Bool → Hp → Prop) : Prop :=
 (s6l3 < (cr_1l3.fParts.n : Int) →
 (0 : Int) ≤ s6l3 ∧ (s6l3 : Int) < cr_1l3.fParts.n ∧ ∃ x_39 : Tapi_Cond, EltH H cr_1l3.fParts s6l3 4 (cs_api_Cond x_39) ∧ 
 (0 : Int) ≤ s6l3 ∧ (s6l3 : Int) < cr_6l3.fParts.n ∧ ∃ x_46 : Tapi_Cond, EltH H cr_6l3.fParts s6l3 4 (cs_api_Cond x_46) ∧ 
 C_gnomon_gnomonref3_SameCond x_39 x_46 H (fun (r0_61 : Bool) (H_53 : Hp) => 
 ((!r0_61) = true →
 K false H_53) ∧
 ((!r0_61) = false →
 n3 (IntKind.wrap .i64 (s6l3 + 1)) H_53))) ∧
 (¬ (s6l3 < (cr_1l3.fParts.n : Int)) →
 T_gnomon_gnomonref3_SameCond_j2 cr_6l3 cr_1l3 H K)
def T_gnomon_gnomonref3_SameCond_j1 (cr_6j1 : Tapi_Cond) (cr_1j1 : Tapi_Cond) (H : Hp) (K : Bool → Hp → Prop) : Prop :=
 TL (0 : Int) H fun (s : Int) H n3 => T_gnomon_gnomonref3_SameCond_l3 cr_6j1 cr_1j1 s H n3 K
def T_gnomon_gnomonref3_SameCond_l4 (cr_6l4 : Tapi_Cond) (cr_1l4 : Tapi_Cond) (s5l4 : Int) (H : Hp) (n4 : Int → Hp → Prop) (K : Bool → Hp → Prop) : Prop :=
 (s5l4 < (cr_1l4.fExprs.n : Int) →
 (0 : Int) ≤ s5l4 ∧ (s5l4 : Int) < cr_1l4.fExprs.n ∧ ∃ x_13 : Tapi_Expr, EltH H cr_1l4.fExprs s5l4 4 (cs_api_Expr x_13) ∧ 
 (0 : Int) ≤ s5l4 ∧ (s5l4 : Int) < cr_6l4.fExprs.n ∧ ∃ x_20 : Tapi_Expr, EltH H cr_6l4.fExprs s5l4 4 (cs_api_Expr x_20) ∧ 
 C_gnomon_gnomonref3_SameExpr x_13 x_20 H (fun (r0_35 : Bool) (H_27 : Hp) => 
 ((!r0_35) = true →
 K false H_27) ∧
 ((!r0_35) = false →
 n4 (IntKind.wrap .i64 (s5l4 + 1)) H_27))) ∧
 (¬ (s5l4 < (cr_1l4.fExprs.n : Int)) →
 T_gnomon_gnomonref3_SameCond_j1 cr_6l4 cr_1l4 H K)
def T_gnomon_gnomonref3_SameCond (x0 : Tapi_Cond) (x1 : Tapi_Cond) (H : Hp) (K : Bool → Hp → Prop) : Prop :=
 (((((!decide (x0.fKind = x1.fKind)) || (!decide (x0.fOp = x1.fOp))) || (!decide ((x0.fExprs.n : Int) = (x1.fExprs.n : Int)))) || (!decide ((x0.fParts.n : Int) = (x1.fParts.n : Int)))) = true →
 K false H) ∧
 (((((!decide (x0.fKind = x1.fKind)) || (!decide (x0.fOp = x1.fOp))) || (!decide ((x0.fExprs.n : Int) = (x1.fExprs.n : Int)))) || (!decide ((x0.fParts.n : Int) = (x1.fParts.n : Int)))) = false →
 TL (0 : Int) H fun (s : Int) H n4 => T_gnomon_gnomonref3_SameCond_l4 x1 x0 s H n4 K)
theorem LF_gnomon_gnomonref3_SameCond (x0 : Tapi_Cond) (x1 : Tapi_Cond) {w0 w : World} {ps0 : Nat → Prop} {H0 H : Hp} {K : Bool → Hp → Prop} {R : Value → World → Prop} {E : Pan} (I : Inv w0 ps0 H0 H [] w) (hR : ∀ (r0 : Bool) (H' : Hp) (w' : World) (_ : Inv w0 ps0 H0 H' [] w') (_ : K r0 H'), R (Value.bool r0) w') (h : T_gnomon_gnomonref3_SameCond x0 x1 H K) : F87 (Value.agg (cs_api_Cond x0).toArray) (Value.agg (cs_api_Cond x1).toArray) w R E := by
 unfold T_gnomon_gnomonref3_SameCond at h
 unfold F87
 refine s_box I (cs := (cs_api_Cond x0)) rfl fun g_2 w_3 I_4 k_5 => ?_
 refine s_box I_4 (cs := (cs_api_Cond x1)) rfl fun g_7 w_8 I_9 k_10 => ?_
 refine opK_pu pu_fa_33_0 ?_
 refine opK_ld (ld1 Tryd.isAgg3 ((I_9.bring 1).at1 (o := 0) (vs := [(vi x0.fKind)]) (nb rfl) rfl)) ?_
 refine opK_pu pu_fa_33_0 ?_
 refine opK_ld (ld1 Tryd.isAgg3 (I_9.at1 (o := 0) (vs := [(vi x1.fKind)]) (nb rfl) rfl)) ?_
 refine opK_pu (pu_neq _ _ _ _ _ _) ?_
 refine opK_pu (Pu.g fun hb => by have hb_0 := hb; first | exact pu_fa_33_1 | (simp only [gval_t hb_0, gv_t hb_0, gv_t hb, gva_ft hb_0]; exact pu_fa_33_1) | (simp only [gval_t hb_0, gv_t hb_0, gv_t hb, gva_ff hb_0, gv_n]; exact pu_fa_33_1)) ?_
 refine opK_ld (Ld.g fun hb => by have hb_0 := hb; first | exact (ld1 Tryd.isAgg3 ((I_9.bring 1).at1 (o := 1) (vs := [(vi x0.fOp)]) (nb rfl) rfl)) | (simp only [gv_t hb_0]; exact (ld1 Tryd.isAgg3 ((I_9.bring 1).at1 (o := 1) (vs := [(vi x0.fOp)]) (nb rfl) rfl))) | (simp only [gval_t hb_0, gv_t hb_0, gv_t hb, gva_ff hb_0, gv_n]; exact (ld1 Tryd.isAgg3 ((I_9.bring 1).at1 (o := 1) (vs := [(vi x0.fOp)]) (nb rfl) rfl)))) ?_
 refine opK_pu (Pu.g fun hb => by have hb_0 := hb; first | exact pu_fa_33_1 | (simp only [gval_t hb_0, gv_t hb_0, gv_t hb, gva_ft hb_0]; exact pu_fa_33_1) | (simp only [gval_t hb_0, gv_t hb_0, gv_t hb, gva_ff hb_0, gv_n]; exact pu_fa_33_1)) ?_
 refine opK_ld (Ld.g fun hb => by have hb_0 := hb; first | exact (ld1 Tryd.isAgg3 (I_9.at1 (o := 1) (vs := [(vi x1.fOp)]) (nb rfl) rfl)) | (simp only [gv_t hb_0]; exact (ld1 Tryd.isAgg3 (I_9.at1 (o := 1) (vs := [(vi x1.fOp)]) (nb rfl) rfl))) | (simp only [gval_t hb_0, gv_t hb_0, gv_t hb, gva_ff hb_0, gv_n]; exact (ld1 Tryd.isAgg3 (I_9.at1 (o := 1) (vs := [(vi x1.fOp)]) (nb rfl) rfl)))) ?_
 refine opK_pu (Pu.g fun hb => by have hb_0 := hb; first | exact (pu_neq _ _ _ _ _ _) | (simp only [gv_t hb_0]; exact (pu_neq _ _ _ _ _ _)) | (simp only [gval_t hb_0, gv_t hb_0, gv_t hb, gva_ff hb_0, gv_n]; exact (pu_neq _ _ _ _ _ _))) ?_
 refine opK_pu (pu_or _ _) ?_
 refine opK_pu (Pu.g fun hb => by have hb_0 := hb; first | exact pu_fa_33_2 | (simp only [gval_t hb_0, gv_t hb_0, gv_t hb, gva_ft hb_0]; exact pu_fa_33_2) | (simp only [gval_t hb_0, gv_t hb_0, gv_t hb, gva_ff hb_0, gv_n]; exact pu_fa_33_2)) ?_
 refine opK_ld (Ld.g fun hb => by have hb_0 := hb; first | exact (ld1 Tryd.isAgg28 ((I_9.bring 1).at1 (o := 2) (vs := [(vs x0.fExprs)]) (nb rfl) rfl)) | (simp only [gv_t hb_0]; exact (ld1 Tryd.isAgg28 ((I_9.bring 1).at1 (o := 2) (vs := [(vs x0.fExprs)]) (nb rfl) rfl))) | (simp only [gval_t hb_0, gv_t hb_0, gv_t hb, gva_ff hb_0, gv_n]; exact (ld1 Tryd.isAgg28 ((I_9.bring 1).at1 (o := 2) (vs := [(vs x0.fExprs)]) (nb rfl) rfl)))) ?_
 refine opK_pu (Pu.g fun hb => by have hb_0 := hb; first | exact (pu_len_28 _ _ _) | (simp only [gv_t hb_0]; exact (pu_len_28 _ _ _)) | (simp only [gval_t hb_0, gv_t hb_0, gv_t hb, gva_ff hb_0, gv_n]; exact (pu_len_28 _ _ _))) ?_
 refine opK_pu (Pu.g fun hb => by have hb_0 := hb; first | exact pu_fa_33_2 | (simp only [gval_t hb_0, gv_t hb_0, gv_t hb, gva_ft hb_0]; exact pu_fa_33_2) | (simp only [gval_t hb_0, gv_t hb_0, gv_t hb, gva_ff hb_0, gv_n]; exact pu_fa_33_2)) ?_
 refine opK_ld (Ld.g fun hb => by have hb_0 := hb; first | exact (ld1 Tryd.isAgg28 (I_9.at1 (o := 2) (vs := [(vs x1.fExprs)]) (nb rfl) rfl)) | (simp only [gv_t hb_0]; exact (ld1 Tryd.isAgg28 (I_9.at1 (o := 2) (vs := [(vs x1.fExprs)]) (nb rfl) rfl))) | (simp only [gval_t hb_0, gv_t hb_0, gv_t hb, gva_ff hb_0, gv_n]; exact (ld1 Tryd.isAgg28 (I_9.at1 (o := 2) (vs := [(vs x1.fExprs)]) (nb rfl) rfl)))) ?_
 refine opK_pu (Pu.g fun hb => by have hb_0 := hb; first | exact (pu_len_28 _ _ _) | (simp only [gv_t hb_0]; exact (pu_len_28 _ _ _)) | (simp only [gval_t hb_0, gv_t hb_0, gv_t hb, gva_ff hb_0, gv_n]; exact (pu_len_28 _ _ _))) ?_
 refine opK_pu (Pu.g fun hb => by have hb_0 := hb; first | exact (pu_neq _ _ _ _ _ _) | (simp only [gv_t hb_0]; exact (pu_neq _ _ _ _ _ _)) | (simp only [gval_t hb_0, gv_t hb_0, gv_t hb, gva_ff hb_0, gv_n]; exact (pu_neq _ _ _ _ _ _))) ?_
 refine opK_pu (pu_or _ _) ?_
 refine opK_pu (Pu.g fun hb => by have hb_0 := hb; first | exact pu_fa_33_3 | (simp only [gval_t hb_0, gv_t hb_0, gv_t hb, gva_ft hb_0]; exact pu_fa_33_3) | (simp only [gval_t hb_0, gv_t hb_0, gv_t hb, gva_ff hb_0, gv_n]; exact pu_fa_33_3)) ?_
 refine opK_ld (Ld.g fun hb => by have hb_0 := hb; first | exact (ld1 Tryd.isAgg31 ((I_9.bring 1).at1 (o := 3) (vs := [(vs x0.fParts)]) (nb rfl) rfl)) | (simp only [gv_t hb_0]; exact (ld1 Tryd.isAgg31 ((I_9.bring 1).at1 (o := 3) (vs := [(vs x0.fParts)]) (nb rfl) rfl))) | (simp only [gval_t hb_0, gv_t hb_0, gv_t hb, gva_ff hb_0, gv_n]; exact (ld1 Tryd.isAgg31 ((I_9.bring 1).at1 (o := 3) (vs := [(vs x0.fParts)]) (nb rfl) rfl)))) ?_
 refine opK_pu (Pu.g fun hb => by have hb_0 := hb; first | exact (pu_len_31 _ _ _) | (simp only [gv_t hb_0]; exact (pu_len_31 _ _ _)) | (simp only [gval_t hb_0, gv_t hb_0, gv_t hb, gva_ff hb_0, gv_n]; exact (pu_len_31 _ _ _))) ?_
 refine opK_pu (Pu.g fun hb => by have hb_0 := hb; first | exact pu_fa_33_3 | (simp only [gval_t hb_0, gv_t hb_0, gv_t hb, gva_ft hb_0]; exact pu_fa_33_3) | (simp only [gval_t hb_0, gv_t hb_0, gv_t hb, gva_ff hb_0, gv_n]; exact pu_fa_33_3)) ?_
 refine opK_ld (Ld.g fun hb => by have hb_0 := hb; first | exact (ld1 Tryd.isAgg31 (I_9.at1 (o := 3) (vs := [(vs x1.fParts)]) (nb rfl) rfl)) | (simp only [gv_t hb_0]; exact (ld1 Tryd.isAgg31 (I_9.at1 (o := 3) (vs := [(vs x1.fParts)]) (nb rfl) rfl))) | (simp only [gval_t hb_0, gv_t hb_0, gv_t hb, gva_ff hb_0, gv_n]; exact (ld1 Tryd.isAgg31 (I_9.at1 (o := 3) (vs := [(vs x1.fParts)]) (nb rfl) rfl)))) ?_
 refine opK_pu (Pu.g fun hb => by have hb_0 := hb; first | exact (pu_len_31 _ _ _) | (simp only [gv_t hb_0]; exact (pu_len_31 _ _ _)) | (simp only [gval_t hb_0, gv_t hb_0, gv_t hb, gva_ff hb_0, gv_n]; exact (pu_len_31 _ _ _))) ?_
 refine opK_pu (Pu.g fun hb => by have hb_0 := hb; first | exact (pu_neq _ _ _ _ _ _) | (simp only [gv_t hb_0]; exact (pu_neq _ _ _ _ _ _)) | (simp only [gval_t hb_0, gv_t hb_0, gv_t hb, gva_ff hb_0, gv_n]; exact (pu_neq _ _ _ _ _ _))) ?_
 refine opK_pu (pu_or _ _) ?_
 refine xcond_b (fun c_81 => ?_) (fun c_81 => ?_)
 ·replace h := h.1 c_81
  exact hR false H _ I_9.drop.drop h
 ·replace h := h.2 c_81
  have hj1 : ∀ (H : Hp) (w : World) (_ : Inv w0 ps0 H0 H [bx g_7 33 (cs_api_Cond x1), bx g_2 33 (cs_api_Cond x0)] w) (_ : T_gnomon_gnomonref3_SameCond_j1 x1 x0 H K), F87_j1 (Value.pointer (some ⟨g_2, 0, none⟩)) (Value.pointer (some ⟨g_7, 0, none⟩)) w R E := by
   intro H w I h
   unfold F87_j1
   intro _
   unfold T_gnomon_gnomonref3_SameCond_j1 at h
   have hj2 : ∀ (H : Hp) (w : World) (_ : Inv w0 ps0 H0 H [bx g_7 33 (cs_api_Cond x1), bx g_2 33 (cs_api_Cond x0)] w) (_ : T_gnomon_gnomonref3_SameCond_j2 x1 x0 H K), F87_j2 w R E := by
    intro H w I h
    unfold F87_j2
    intro _
    unfold T_gnomon_gnomonref3_SameCond_j2 at h
    exact hR true H _ I.drop.drop h
   refine xcut_i fun j2 hx2 => ?_
   obtain ⟨J_64, m_65, i_66, b_67⟩ := h
   refine xloop_J (J := fun n l w => ∃ (s : Int) (H : Hp) , n = m_65 s ∧ l = [(vi s)] ∧ Inv w0 ps0 H0 H [bx g_7 33 (cs_api_Cond x1), bx g_2 33 (cs_api_Cond x0)] w ∧ J_64 s H) ⟨_, 0, H, rfl, rfl, ((I.bring 1).bring 1), i_66⟩ ?_
   rintro n_68 τ_69 w next3 ⟨s6l3, H, rfl, l_70, I, s_71⟩ hn3
   simp only [List.map_cons, List.map_nil, List.cons.injEq, and_true] at l_70
   have e6 := l_70
   simp only [e6]
   obtain ⟨n3, hm3, h⟩ : ∃ n3 : Int → Hp → Prop, (∀ s' H', n3 s' H' → J_64 s' H' ∧ m_65 s' < m_65 s6l3) ∧ T_gnomon_gnomonref3_SameCond_l3 x1 x0 s6l3 H n3 K := ⟨_, fun _ _ h => h, b_67 s6l3 H (fun s' H' => J_64 s' H' ∧ m_65 s' < m_65 s6l3) s_71 (fun _ _ a b => ⟨a, b⟩)⟩
   unfold F87_l3
   unfold T_gnomon_gnomonref3_SameCond_l3 at h
   refine opK_pu pu_fa_33_3 ?_
   refine opK_ld (ld1 Tryd.isAgg31 ((I.bring 1).at1 (o := 3) (vs := [(vs x0.fParts)]) (nb rfl) rfl)) ?_
   refine opK_pu (pu_len_31 _ _ _) ?_
   refine opK_pu (pu_lss _ _ _ _ _ _) ?_
   refine xcond_p (fun c_63 => ?_) (fun c_63 => ?_)
   ·replace h := h.1 c_63
    refine s_dX I fun w_37 I_38 => ?_
    refine qP_pu pu_fa_33_3 ?_
    refine qP_pu pu_fa_33_3 ?_
    refine qL_ld (ld1 Tryd.isAgg31 ((I_38.bring 1).at1 (o := 3) (vs := [(vs x0.fParts)]) (nb rfl) rfl)) ?_
    obtain ⟨h_42, h_43, x_39, h_45, h⟩ := h
    obtain ⟨g_40, o_41, h_44, h_45⟩ := h_45
    refine qP_pu (pu_ix_31 h_44 _ _ _ _ h_42 h_43) ?_
    refine qL_ld (ldA (vs := (cs_api_Cond x_39)) Tryd.isAgg33 Tryd.sizeOf33 rfl (I_38.atH h_45)) ?_
    refine qL_ld (ld1 Tryd.isAgg31 (I_38.at1 (o := 3) (vs := [(vs x1.fParts)]) (nb rfl) rfl)) ?_
    obtain ⟨h_49, h_50, x_46, h_52, h⟩ := h
    obtain ⟨g_47, o_48, h_51, h_52⟩ := h_52
    refine qP_pu (pu_ix_31 h_51 _ _ _ _ h_49 h_50) ?_
    refine qL_ld (ldA (vs := (cs_api_Cond x_46)) Tryd.isAgg33 Tryd.sizeOf33 rfl (I_38.atH h_52)) ?_
    refine opK_calls (cap := []) (fun args w => Tryd.call87 args w) ?_
    refine Cv_ct (Fi := []) (Fr := [bx g_7 33 (cs_api_Cond x1), bx g_2 33 (cs_api_Cond x0)]) I_38 (h) (fun v_57 H_53 F_58 w_54 I_55 l_60 k_56 q_59 => ?_) (fun _ _ _ _ _ q => q.elim)
    obtain ⟨r0_61, rfl, rfl, h⟩ := q_59
    refine qP_pu (pu_not _) ?_
    refine xcond_b (fun c_62 => ?_) (fun c_62 => ?_)
    ·replace h := h.1 c_62
     exact hR false H_53 _ I_55.drop.drop h
    ·replace h := h.2 c_62
     refine opK_pu (pu_add _ _ _ _ _ _) ?_
     exact hn3 _ _ _ (hm3 _ _ h).2 ⟨(IntKind.wrap .i64 (s6l3 + 1)), H_53, rfl, rfl, ((I_55.bring 1).bring 1), (hm3 _ _ h).1⟩
   ·replace h := h.2 c_63
    exact hx2 _ _ (hj2 H _ ((I.bring 1).bring 1) h)
  refine xcut_i fun j1 hx1 => ?_
  obtain ⟨J_73, m_74, i_75, b_76⟩ := h
  refine xloop_J (J := fun n l w => ∃ (s : Int) (H : Hp) , n = m_74 s ∧ l = [(vi s)] ∧ Inv w0 ps0 H0 H [bx g_7 33 (cs_api_Cond x1), bx g_2 33 (cs_api_Cond x0)] w ∧ J_73 s H) ⟨_, 0, H, rfl, rfl, ((I_9.bring 1).bring 1), i_75⟩ ?_
  rintro n_77 τ_78 w next4 ⟨s5l4, H, rfl, l_79, I, s_80⟩ hn4
  simp only [List.map_cons, List.map_nil, List.cons.injEq, and_true] at l_79
  have e5 := l_79
  simp only [e5]
  obtain ⟨n4, hm4, h⟩ : ∃ n4 : Int → Hp → Prop, (∀ s' H', n4 s' H' → J_73 s' H' ∧ m_74 s' < m_74 s5l4) ∧ T_gnomon_gnomonref3_SameCond_l4 x1 x0 s5l4 H n4 K := ⟨_, fun _ _ h => h, b_76 s5l4 H (fun s' H' => J_73 s' H' ∧ m_74 s' < m_74 s5l4) s_80 (fun _ _ a b => ⟨a, b⟩)⟩
  unfold F87_l4
  unfold T_gnomon_gnomonref3_SameCond_l4 at h
  refine opK_pu pu_fa_33_2 ?_
  refine opK_ld (ld1 Tryd.isAgg28 ((I.bring 1).at1 (o := 2) (vs := [(vs x0.fExprs)]) (nb rfl) rfl)) ?_
  refine opK_pu (pu_len_28 _ _ _) ?_
  refine opK_pu (pu_lss _ _ _ _ _ _) ?_
  refine xcond_p (fun c_72 => ?_) (fun c_72 => ?_)
  ·replace h := h.1 c_72
   refine s_dX I fun w_11 I_12 => ?_
   refine qP_pu pu_fa_33_2 ?_
   refine qP_pu pu_fa_33_2 ?_
   refine qL_ld (ld1 Tryd.isAgg28 ((I_12.bring 1).at1 (o := 2) (vs := [(vs x0.fExprs)]) (nb rfl) rfl)) ?_
   obtain ⟨h_16, h_17, x_13, h_19, h⟩ := h
   obtain ⟨g_14, o_15, h_18, h_19⟩ := h_19
   refine qP_pu (pu_ix_28 h_18 _ _ _ _ h_16 h_17) ?_
   refine qL_ld (ldA (vs := (cs_api_Expr x_13)) Tryd.isAgg30 Tryd.sizeOf30 rfl (I_12.atH h_19)) ?_
   refine qL_ld (ld1 Tryd.isAgg28 (I_12.at1 (o := 2) (vs := [(vs x1.fExprs)]) (nb rfl) rfl)) ?_
   obtain ⟨h_23, h_24, x_20, h_26, h⟩ := h
   obtain ⟨g_21, o_22, h_25, h_26⟩ := h_26
   refine qP_pu (pu_ix_28 h_25 _ _ _ _ h_23 h_24) ?_
   refine qL_ld (ldA (vs := (cs_api_Expr x_20)) Tryd.isAgg30 Tryd.sizeOf30 rfl (I_12.atH h_26)) ?_
   refine opK_calls (cap := []) (fun args w => Tryd.call88 args w) ?_
   refine Cv_ct (Fi := []) (Fr := [bx g_7 33 (cs_api_Cond x1), bx g_2 33 (cs_api_Cond x0)]) I_12 (h) (fun v_31 H_27 F_32 w_28 I_29 l_34 k_30 q_33 => ?_) (fun _ _ _ _ _ q => q.elim)
   obtain ⟨r0_35, rfl, rfl, h⟩ := q_33
   refine qP_pu (pu_not _) ?_
   refine xcond_b (fun c_36 => ?_) (fun c_36 => ?_)
   ·replace h := h.1 c_36
    exact hR false H_27 _ I_29.drop.drop h
   ·replace h := h.2 c_36
    refine opK_pu (pu_add _ _ _ _ _ _) ?_
    exact hn4 _ _ _ (hm4 _ _ h).2 ⟨(IntKind.wrap .i64 (s5l4 + 1)), H_27, rfl, rfl, ((I_29.bring 1).bring 1), (hm4 _ _ h).1⟩
  ·replace h := h.2 c_72
   exact hx1 _ _ (hj1 H _ ((I.bring 1).bring 1) h)
theorem L_gnomon_gnomonref3_SameCond (x0 : Tapi_Cond) (x1 : Tapi_Cond) {H : Hp} {K : Bool → Hp → Prop} (h : T_gnomon_gnomonref3_SameCond x0 x1 H K) : C_gnomon_gnomonref3_SameCond x0 x1 H K := by
 intro w I
 refine F87_ok ?_
 refine LF_gnomon_gnomonref3_SameCond x0 x1 I (fun r0 H' w' I' hk => ⟨H', _, I', r0, rfl, rfl, hk⟩) h


/- function 16: gnomon/gnomonref3.Equal -/
def T_gnomon_gnomonref3_Equal_j1 (_cr_6j1 : Tapi_Prog) (_cr_1j1 : Tapi_Prog) (H : Hp) (K : Bool → Hp → Prop) : Prop :=
 K true H
def T_gnomon_gnomonref3_Equal_l2 (cr_6l2 : Tapi_Prog) (cr_1l2 : Tapi_Prog) (s5l2 : Int) (H : Hp) (n2 : Int → Hp → Prop) (K : Bool → Hp → Prop) : Prop :=
 (s5l2 < (cr_1l2.fDecls.n : Int) →
 (0 : Int) ≤ s5l2 ∧ (s5l2 : Int) < cr_1l2.fDecls.n ∧ ∃ x_40 : Tapi_Decl, EltH H cr_1l2.fDecls s5l2 2 (cs_api_Decl x_40) ∧ 
 (0 : Int) ≤ s5l2 ∧ (s5l2 : Int) < cr_6l2.fDecls.n ∧ ∃ x_47 : Tapi_Decl, EltH H cr_6l2.fDecls s5l2 2 (cs_api_Decl x_47) ∧ 
 (¬ (x_40.fName = x_47.fName ∧ x_40.fSize = x_47.fSize) →
 K false H) ∧
 (x_40.fName = x_47.fName ∧ x_40.fSize = x_47.fSize →
 n2 (IntKind.wrap .i64 (s5l2 + 1)) H)) ∧
 (¬ (s5l2 < (cr_1l2.fDecls.n : Int)) →
 T_gnomon_gnomonref3_Equal_j1 cr_6l2 cr_1l2 H K)
def T_gnomon_gnomonref3_Equal (x0 : Tapi_Prog) (x1 : Tapi_Prog) (H : Hp) (K : Bool → Hp → Prop) : Prop :=
 C_gnomon_gnomonref3_Few x0 H (fun (r0_19 : Bool) (H_11 : Hp) => 
 TG ((!r0_19) = false) (C_gnomon_gnomonref3_Few x1 H_11) false H_11 (fun (r0_28 : Bool) (H_20 : Hp) =>
 TG ((((!r0_19) || (!r0_28)) || (!decide ((x0.fDecls.n : Int) = (x1.fDecls.n : Int)))) = false) (C_gnomon_gnomonref3_sameStmts x0.fBody x1.fBody H_20) false H_20 (fun (r0_37 : Bool) (H_29 : Hp) =>
 (((((!r0_19) || (!r0_28)) || (!decide ((x0.fDecls.n : Int) = (x1.fDecls.n : Int)))) || (!r0_37)) = true →
 K false H_29) ∧
 (((((!r0_19) || (!r0_28)) || (!decide ((x0.fDecls.n : Int) = (x1.fDecls.n : Int)))) || (!r0_37)) = false →
 TL (0 : Int) H_29 fun (s : Int) H n2 => T_gnomon_gnomonref3_Equal_l2 x1 x0 s H n2 K))))
theorem LF_gnomon_gnomonref3_Equal (x0 : Tapi_Prog) (x1 : Tapi_Prog) {w0 w : World} {ps0 : Nat → Prop} {H0 H : Hp} {K : Bool → Hp → Prop} {R : Value → World → Prop} {E : Pan} (I : Inv w0 ps0 H0 H [] w) (hR : ∀ (r0 : Bool) (H' : Hp) (w' : World) (_ : Inv w0 ps0 H0 H' [] w') (_ : K r0 H'), R (Value.bool r0) w') (h : T_gnomon_gnomonref3_Equal x0 x1 H K) : F16 (Value.agg (cs_api_Prog x0).toArray) (Value.agg (cs_api_Prog x1).toArray) w R E := by
 unfold T_gnomon_gnomonref3_Equal at h
 unfold F16
 refine s_box I (cs := (cs_api_Prog x0)) rfl fun g_2 w_3 I_4 k_5 => ?_
 refine s_box I_4 (cs := (cs_api_Prog x1)) rfl fun g_7 w_8 I_9 k_10 => ?_
 refine opK_ld (ldA Tryd.isAgg25 Tryd.sizeOf25 rfl ((I_9.bring 1).at1 (o := 0) (vs := (cs_api_Prog x0)) (nb rfl) rfl)) ?_
 refine opK_calls (cap := []) (fun args w => Tryd.call55 args w) ?_
 refine Cv_ct (Fi := []) (Fr := [bx g_7 25 (cs_api_Prog x1), bx g_2 25 (cs_api_Prog x0)]) I_9 (h) (fun v_15 H_11 F_16 w_12 I_13 l_18 k_14 q_17 => ?_) (fun _ _ _ _ _ q => q.elim)
 obtain ⟨r0_19, rfl, rfl, h⟩ := q_17
 refine opK_pu (pu_not _) ?_
 refine opK_ld (Ld.g fun hb => by have hb_0 := hb; first | exact (ldA Tryd.isAgg25 Tryd.sizeOf25 rfl (I_13.at1 (o := 0) (vs := (cs_api_Prog x1)) (nb rfl) rfl)) | (simp only [gval_t hb_0, gv_t hb_0, gv_t hb, gva_ft hb_0]; exact (ldA Tryd.isAgg25 Tryd.sizeOf25 rfl (I_13.at1 (o := 0) (vs := (cs_api_Prog x1)) (nb rfl) rfl))) | (simp only [gval_t hb_0, gv_t hb_0, gv_t hb, gva_ff hb_0, gv_n]; exact (ldA Tryd.isAgg25 Tryd.sizeOf25 rfl (I_13.at1 (o := 0) (vs := (cs_api_Prog x1)) (nb rfl) rfl)))) ?_
 refine opK_g2 (D := fun v_24 w_21 => ∃ (r0_28 : Bool) (H_20 : Hp) , v_24 = (gv (!r0_19) false (Value.bool r0_28)) ∧ (Inv w0 ps0 H0 H_20 [bx g_7 25 (cs_api_Prog x1), bx g_2 25 (cs_api_Prog x0)] w_21) ∧ (∀ i, i < w_12.heap.size → ¬ inF [] i → w_21.heap[i]? = w_12.heap[i]?) ∧ Hle H_11 H_20 ∧ (TG ((((!r0_19) || (!r0_28)) || (!decide ((x0.fDecls.n : Int) = (x1.fDecls.n : Int)))) = false) (C_gnomon_gnomonref3_sameStmts x0.fBody x1.fBody H_20) false H_20 (fun (r0_37 : Bool) (H_29 : Hp) =>
 (((((!r0_19) || (!r0_28)) || (!decide ((x0.fDecls.n : Int) = (x1.fDecls.n : Int)))) || (!r0_37)) = true →
 K false H_29) ∧
 (((((!r0_19) || (!r0_28)) || (!decide ((x0.fDecls.n : Int) = (x1.fDecls.n : Int)))) || (!r0_37)) = false →
 TL (0 : Int) H_29 fun (s : Int) H n2 => T_gnomon_gnomonref3_Equal_l2 x1 x0 s H n2 K)))) (fun b_66 => ?_) (fun b_66 => ?_) ?_
 ·replace h := h.1 b_66
  have hb_0 := b_66
  try simp only [gv_t hb_0]
  refine opK_calls (cap := []) (fun args w => Tryd.call55 args w) ?_
  refine Cv_ct (Fi := []) (Fr := [bx g_7 25 (cs_api_Prog x1), bx g_2 25 (cs_api_Prog x0)]) I_13 (h) (fun v_24 H_20 F_25 w_21 I_22 l_27 k_23 q_26 => ?_) (fun _ _ _ _ _ q => q.elim)
  obtain ⟨r0_28, rfl, rfl, h⟩ := q_26
  exact ⟨r0_28, H_20, by first | rfl | rw [gv_t b_66], I_22, k_23, l_27, h⟩
 ·exact ⟨false, H_11, by first | rfl | rw [gv_f b_66], I_13, fun _ _ _ => rfl, Hle.refl _, h.2 b_66⟩
 ·clear h
  rintro v_24 w_21 ⟨r0_28, H_20, rfl, I_22, k_23, l_27, h⟩
  refine opK_pu (Pu.g fun hb => by have hb_0 := hb; first | exact (pu_not _) | (simp only [gv_t hb_0]; exact (pu_not _)) | (simp only [gval_t hb_0, gv_t hb_0, gv_t hb, gva_ff hb_0, gv_n]; exact (pu_not _))) ?_
  refine opK_pu (pu_or _ _) ?_
  refine opK_pu (Pu.g fun hb => by have hb_0 := hb; first | exact pu_fa_25_0 | (simp only [gval_t hb_0, gv_t hb_0, gv_t hb, gva_ft hb_0]; exact pu_fa_25_0) | (simp only [gval_t hb_0, gv_t hb_0, gv_t hb, gva_ff hb_0, gv_n]; exact pu_fa_25_0)) ?_
  refine opK_ld (Ld.g fun hb => by have hb_0 := hb; first | exact (ld1 Tryd.isAgg22 ((I_22.bring 1).at1 (o := 0) (vs := [(vs x0.fDecls)]) (nb rfl) rfl)) | (simp only [gv_t hb_0]; exact (ld1 Tryd.isAgg22 ((I_22.bring 1).at1 (o := 0) (vs := [(vs x0.fDecls)]) (nb rfl) rfl))) | (simp only [gval_t hb_0, gv_t hb_0, gv_t hb, gva_ff hb_0, gv_n]; exact (ld1 Tryd.isAgg22 ((I_22.bring 1).at1 (o := 0) (vs := [(vs x0.fDecls)]) (nb rfl) rfl)))) ?_
  refine opK_pu (Pu.g fun hb => by have hb_0 := hb; first | exact (pu_len_22 _ _ _) | (simp only [gv_t hb_0]; exact (pu_len_22 _ _ _)) | (simp only [gval_t hb_0, gv_t hb_0, gv_t hb, gva_ff hb_0, gv_n]; exact (pu_len_22 _ _ _))) ?_
  refine opK_pu (Pu.g fun hb => by have hb_0 := hb; first | exact pu_fa_25_0 | (simp only [gval_t hb_0, gv_t hb_0, gv_t hb, gva_ft hb_0]; exact pu_fa_25_0) | (simp only [gval_t hb_0, gv_t hb_0, gv_t hb, gva_ff hb_0, gv_n]; exact pu_fa_25_0)) ?_
  refine opK_ld (Ld.g fun hb => by have hb_0 := hb; first | exact (ld1 Tryd.isAgg22 (I_22.at1 (o := 0) (vs := [(vs x1.fDecls)]) (nb rfl) rfl)) | (simp only [gv_t hb_0]; exact (ld1 Tryd.isAgg22 (I_22.at1 (o := 0) (vs := [(vs x1.fDecls)]) (nb rfl) rfl))) | (simp only [gval_t hb_0, gv_t hb_0, gv_t hb, gva_ff hb_0, gv_n]; exact (ld1 Tryd.isAgg22 (I_22.at1 (o := 0) (vs := [(vs x1.fDecls)]) (nb rfl) rfl)))) ?_
  refine opK_pu (Pu.g fun hb => by have hb_0 := hb; first | exact (pu_len_22 _ _ _) | (simp only [gv_t hb_0]; exact (pu_len_22 _ _ _)) | (simp only [gval_t hb_0, gv_t hb_0, gv_t hb, gva_ff hb_0, gv_n]; exact (pu_len_22 _ _ _))) ?_
  refine opK_pu (Pu.g fun hb => by have hb_0 := hb; first | exact (pu_neq _ _ _ _ _ _) | (simp only [gv_t hb_0]; exact (pu_neq _ _ _ _ _ _)) | (simp only [gval_t hb_0, gv_t hb_0, gv_t hb, gva_ff hb_0, gv_n]; exact (pu_neq _ _ _ _ _ _))) ?_
  refine opK_pu (pu_or _ _) ?_
  refine opK_pu (Pu.g fun hb => by have hb_0 := hb; first | exact pu_fa_25_1 | (simp only [gval_t hb_0, gv_t hb_0, gv_t hb, gva_ft hb_0]; exact pu_fa_25_1) | (simp only [gval_t hb_0, gv_t hb_0, gv_t hb, gva_ff hb_0, gv_n]; exact pu_fa_25_1)) ?_
  refine opK_ld (Ld.g fun hb => by have hb_0 := hb; first | exact (ld1 Tryd.isAgg23 ((I_22.bring 1).at1 (o := 1) (vs := [(vs x0.fBody)]) (nb rfl) rfl)) | (simp only [gv_t hb_0]; exact (ld1 Tryd.isAgg23 ((I_22.bring 1).at1 (o := 1) (vs := [(vs x0.fBody)]) (nb rfl) rfl))) | (simp only [gval_t hb_0, gv_t hb_0, gv_t hb, gva_ff hb_0, gv_n]; exact (ld1 Tryd.isAgg23 ((I_22.bring 1).at1 (o := 1) (vs := [(vs x0.fBody)]) (nb rfl) rfl)))) ?_
  refine opK_pu (Pu.g fun hb => by have hb_0 := hb; first | exact pu_fa_25_1 | (simp only [gval_t hb_0, gv_t hb_0, gv_t hb, gva_ft hb_0]; exact pu_fa_25_1) | (simp only [gval_t hb_0, gv_t hb_0, gv_t hb, gva_ff hb_0, gv_n]; exact pu_fa_25_1)) ?_
  refine opK_ld (Ld.g fun hb => by have hb_0 := hb; first | exact (ld1 Tryd.isAgg23 (I_22.at1 (o := 1) (vs := [(vs x1.fBody)]) (nb rfl) rfl)) | (simp only [gv_t hb_0]; exact (ld1 Tryd.isAgg23 (I_22.at1 (o := 1) (vs := [(vs x1.fBody)]) (nb rfl) rfl))) | (simp only [gval_t hb_0, gv_t hb_0, gv_t hb, gva_ff hb_0, gv_n]; exact (ld1 Tryd.isAgg23 (I_22.at1 (o := 1) (vs := [(vs x1.fBody)]) (nb rfl) rfl)))) ?_
  refine opK_g2 (D := fun v_33 w_30 => ∃ (r0_37 : Bool) (H_29 : Hp) , v_33 = (gv (((!r0_19) || (!r0_28)) || (!decide ((x0.fDecls.n : Int) = (x1.fDecls.n : Int)))) false (Value.bool r0_37)) ∧ (Inv w0 ps0 H0 H_29 [bx g_7 25 (cs_api_Prog x1), bx g_2 25 (cs_api_Prog x0)] w_30) ∧ (∀ i, i < w_21.heap.size → ¬ inF [] i → w_30.heap[i]? = w_21.heap[i]?) ∧ Hle H_20 H_29 ∧ ((((((!r0_19) || (!r0_28)) || (!decide ((x0.fDecls.n : Int) = (x1.fDecls.n : Int)))) || (!r0_37)) = true →
 K false H_29) ∧
 (((((!r0_19) || (!r0_28)) || (!decide ((x0.fDecls.n : Int) = (x1.fDecls.n : Int)))) || (!r0_37)) = false →
 TL (0 : Int) H_29 fun (s : Int) H n2 => T_gnomon_gnomonref3_Equal_l2 x1 x0 s H n2 K))) (fun b_65 => ?_) (fun b_65 => ?_) ?_
  ·replace h := h.1 b_65
   have hb_0 := b_65
   try simp only [gv_t hb_0]
   refine opK_calls (cap := []) (fun args w => Tryd.call56 args w) ?_
   refine Cv_ct (Fi := []) (Fr := [bx g_7 25 (cs_api_Prog x1), bx g_2 25 (cs_api_Prog x0)]) I_22 (h) (fun v_33 H_29 F_34 w_30 I_31 l_36 k_32 q_35 => ?_) (fun _ _ _ _ _ q => q.elim)
   obtain ⟨r0_37, rfl, rfl, h⟩ := q_35
   exact ⟨r0_37, H_29, by first | rfl | rw [gv_t b_65], I_31, k_32, l_36, h⟩
  ·exact ⟨false, H_20, by first | rfl | rw [gv_f b_65], I_22, fun _ _ _ => rfl, Hle.refl _, h.2 b_65⟩
  ·clear h
   rintro v_33 w_30 ⟨r0_37, H_29, rfl, I_31, k_32, l_36, h⟩
   refine opK_pu (Pu.g fun hb => by have hb_0 := hb; first | exact (pu_not _) | (simp only [gv_t hb_0]; exact (pu_not _)) | (simp only [gval_t hb_0, gv_t hb_0, gv_t hb, gva_ff hb_0, gv_n]; exact (pu_not _))) ?_
   refine opK_pu (pu_or _ _) ?_
   refine xcond_b (fun c_64 => ?_) (fun c_64 => ?_)
   ·replace h := h.1 c_64
    exact hR false H_29 _ I_31.drop.drop h
   ·replace h := h.2 c_64
    have hj1 : ∀ (H : Hp) (w : World) (_ : Inv w0 ps0 H0 H [bx g_7 25 (cs_api_Prog x1), bx g_2 25 (cs_api_Prog x0)] w) (_ : T_gnomon_gnomonref3_Equal_j1 x1 x0 H K), F16_j1 w R E := by
     intro H w I h
     unfold F16_j1
     intro _
     unfold T_gnomon_gnomonref3_Equal_j1 at h
     exact hR true H _ I.drop.drop h
    refine xcut_i fun j1 hx1 => ?_
    obtain ⟨J_56, m_57, i_58, b_59⟩ := h
    refine xloop_J (J := fun n l w => ∃ (s : Int) (H : Hp) , n = m_57 s ∧ l = [(vi s)] ∧ Inv w0 ps0 H0 H [bx g_7 25 (cs_api_Prog x1), bx g_2 25 (cs_api_Prog x0)] w ∧ J_56 s H) ⟨_, 0, H_29, rfl, rfl, ((I_31.bring 1).bring 1), i_58⟩ ?_
    rintro n_60 τ_61 w next2 ⟨s5l2, H, rfl, l_62, I, s_63⟩ hn2
    simp only [List.map_cons, List.map_nil, List.cons.injEq, and_true] at l_62
    have e5 := l_62
    simp only [e5]
    obtain ⟨n2, hm2, h⟩ : ∃ n2 : Int → Hp → Prop, (∀ s' H', n2 s' H' → J_56 s' H' ∧ m_57 s' < m_57 s5l2) ∧ T_gnomon_gnomonref3_Equal_l2 x1 x0 s5l2 H n2 K := ⟨_, fun _ _ h => h, b_59 s5l2 H (fun s' H' => J_56 s' H' ∧ m_57 s' < m_57 s5l2) s_63 (fun _ _ a b => ⟨a, b⟩)⟩
    unfold F16_l2
    unfold T_gnomon_gnomonref3_Equal_l2 at h
    refine opK_pu pu_fa_25_0 ?_
    refine opK_ld (ld1 Tryd.isAgg22 ((I.bring 1).at1 (o := 0) (vs := [(vs x0.fDecls)]) (nb rfl) rfl)) ?_
    refine opK_pu (pu_len_22 _ _ _) ?_
    refine opK_pu (pu_lss _ _ _ _ _ _) ?_
    refine xcond_p (fun c_55 => ?_) (fun c_55 => ?_)
    ·replace h := h.1 c_55
     refine s_dX I fun w_38 I_39 => ?_
     refine qP_pu pu_fa_25_0 ?_
     refine qP_pu pu_fa_25_0 ?_
     refine qL_ld (ld1 Tryd.isAgg22 ((I_39.bring 1).at1 (o := 0) (vs := [(vs x0.fDecls)]) (nb rfl) rfl)) ?_
     obtain ⟨h_43, h_44, x_40, h_46, h⟩ := h
     obtain ⟨g_41, o_42, h_45, h_46⟩ := h_46
     refine qP_pu (pu_ix_22 h_45 _ _ _ _ h_43 h_44) ?_
     refine qL_ld (ldA (vs := (cs_api_Decl x_40)) Tryd.isAgg67 Tryd.sizeOf67 rfl (I_39.atH h_46)) ?_
     refine qL_ld (ld1 Tryd.isAgg22 (I_39.at1 (o := 0) (vs := [(vs x1.fDecls)]) (nb rfl) rfl)) ?_
     obtain ⟨h_50, h_51, x_47, h_53, h⟩ := h
     obtain ⟨g_48, o_49, h_52, h_53⟩ := h_53
     refine qP_pu (pu_ix_22 h_52 _ _ _ _ h_50 h_51) ?_
     refine qL_ld (ldA (vs := (cs_api_Decl x_47)) Tryd.isAgg67 Tryd.sizeOf67 rfl (I_39.atH h_53)) ?_
     refine qP_pu (pu_ne_67 _ _ _ _ _ _) ?_
     refine xcond_n (fun c_54 => ?_) (fun c_54 => ?_)
     ·replace h := h.1 c_54
      exact hR false H _ I_39.drop.drop h
     ·replace h := h.2 c_54
      refine opK_pu (pu_add _ _ _ _ _ _) ?_
      exact hn2 _ _ _ (hm2 _ _ h).2 ⟨(IntKind.wrap .i64 (s5l2 + 1)), H, rfl, rfl, ((I_39.bring 1).bring 1), (hm2 _ _ h).1⟩
    ·replace h := h.2 c_55
     exact hx1 _ _ (hj1 H _ ((I.bring 1).bring 1) h)
theorem L_gnomon_gnomonref3_Equal (x0 : Tapi_Prog) (x1 : Tapi_Prog) {H : Hp} {K : Bool → Hp → Prop} (h : T_gnomon_gnomonref3_Equal x0 x1 H K) : C_gnomon_gnomonref3_Equal x0 x1 H K := by
 intro w I
 refine F16_ok ?_
 refine LF_gnomon_gnomonref3_Equal x0 x1 I (fun r0 H' w' I' hk => ⟨H', _, I', r0, rfl, rfl, hk⟩) h


/- function 158: (gnomon/tree.stmt).form -/
def T_gnomon_tree_stmt_form_j1 (s5j1 : Bool) (s35j1 : Int) (s83j1 : Bool) (cr_6j1 : Ttree_has_213) (_cr_1j1 : Ttree_stmt) (H : Hp) (K : Bool → Hp → Prop) : Prop :=
 (s83j1 = true →
 K (s5j1 && (decide (cr_6j1.fexprs = 0 ∧ cr_6j1.fconds = 1))) H) ∧
 (s83j1 = false →
 (s35j1 = 7 →
 K (s5j1 && (decide (cr_6j1.fexprs = 0 ∧ cr_6j1.fconds = 0))) H) ∧
 (¬ (s35j1 = 7) →
 K false H))
def T_gnomon_tree_stmt_form (x0 : Ttree_stmt) (H : Hp) (K : Bool → Hp → Prop) : Prop :=
 (x0.fStmt.fKind = 1 →
 K ((!(decide (0 < (IntKind.wrap .i64 ((x0.fStmt.fThen.n : Int) + (x0.fStmt.fElse.n : Int)))))) && (decide ((x0.fStmt.fExprs.n : Int) = 1 ∧ (x0.fStmt.fConds.n : Int) = 0))) H) ∧
 (¬ (x0.fStmt.fKind = 1) →
 (x0.fStmt.fKind = 2 →
 K ((!(decide (0 < (IntKind.wrap .i64 ((x0.fStmt.fThen.n : Int) + (x0.fStmt.fElse.n : Int)))))) && (decide ((x0.fStmt.fExprs.n : Int) = 2 ∧ (x0.fStmt.fConds.n : Int) = 0))) H) ∧
 (¬ (x0.fStmt.fKind = 2) →
 (x0.fStmt.fKind = 3 →
 K ((decide (x0.fStmt.fName = ⟨#[]⟩)) && (decide ((x0.fStmt.fExprs.n : Int) = 0 ∧ (x0.fStmt.fConds.n : Int) = 1))) H) ∧
 (¬ (x0.fStmt.fKind = 3) →
 (x0.fStmt.fKind = 4 →
 K (((decide (x0.fStmt.fName = ⟨#[]⟩)) && (decide ((x0.fStmt.fElse.n : Int) = 0))) && (decide ((x0.fStmt.fExprs.n : Int) = 0 ∧ (x0.fStmt.fConds.n : Int) = 1))) H) ∧
 (¬ (x0.fStmt.fKind = 4) →
 (x0.fStmt.fKind = 5 →
 T_gnomon_tree_stmt_form_j1 ((decide (x0.fStmt.fName = ⟨#[]⟩)) && (!(decide (0 < (IntKind.wrap .i64 ((x0.fStmt.fThen.n : Int) + (x0.fStmt.fElse.n : Int))))))) x0.fStmt.fKind (decide (x0.fStmt.fKind = 5)) (Ttree_has_213.mk (x0.fStmt.fExprs.n : Int) (x0.fStmt.fConds.n : Int)) x0 H K) ∧
 (¬ (x0.fStmt.fKind = 5) →
 T_gnomon_tree_stmt_form_j1 ((decide (x0.fStmt.fName = ⟨#[]⟩)) && (!(decide (0 < (IntKind.wrap .i64 ((x0.fStmt.fThen.n : Int) + (x0.fStmt.fElse.n : Int))))))) x0.fStmt.fKind (decide (x0.fStmt.fKind = 6)) (Ttree_has_213.mk (x0.fStmt.fExprs.n : Int) (x0.fStmt.fConds.n : Int)) x0 H K)))))
theorem LF_gnomon_tree_stmt_form (x0 : Ttree_stmt) {w0 w : World} {ps0 : Nat → Prop} {H0 H : Hp} {K : Bool → Hp → Prop} {R : Value → World → Prop} {E : Pan} (I : Inv w0 ps0 H0 H [] w) (hR : ∀ (r0 : Bool) (H' : Hp) (w' : World) (_ : Inv w0 ps0 H0 H' [] w') (_ : K r0 H'), R (Value.bool r0) w') (h : T_gnomon_tree_stmt_form x0 H K) : F158 (Value.agg (cs_api_Stmt x0.fStmt).toArray) w R E := by
 unfold T_gnomon_tree_stmt_form at h
 unfold F158
 refine s_box I (cs := (cs_api_Stmt x0.fStmt)) rfl fun g_2 w_3 I_4 k_5 => ?_
 refine opK_pu pu_fa_177_0 ?_
 refine opK_pu pu_fa_88_4 ?_
 refine opK_ld (ld1 Tryd.isAgg23 (I_4.at1 (o := 4) (vs := [(vs x0.fStmt.fThen)]) (nb rfl) rfl)) ?_
 refine opK_pu (pu_len_23 _ _ _) ?_
 refine opK_pu pu_fa_177_0 ?_
 refine opK_pu pu_fa_88_5 ?_
 refine opK_ld (ld1 Tryd.isAgg23 (I_4.at1 (o := 5) (vs := [(vs x0.fStmt.fElse)]) (nb rfl) rfl)) ?_
 refine opK_pu (pu_len_23 _ _ _) ?_
 refine opK_pu (pu_add _ _ _ _ _ _) ?_
 refine opK_pu (pu_gtr _ _ _ _ _ _) ?_
 refine opK_pu pu_fa_177_0 ?_
 refine opK_pu pu_fa_88_2 ?_
 refine opK_ld (ld1 Tryd.isAgg28 (I_4.at1 (o := 2) (vs := [(vs x0.fStmt.fExprs)]) (nb rfl) rfl)) ?_
 refine opK_pu (pu_len_28 _ _ _) ?_
 refine opK_pu pu_fa_177_0 ?_
 refine opK_pu pu_fa_88_3 ?_
 refine opK_ld (ld1 Tryd.isAgg31 (I_4.at1 (o := 3) (vs := [(vs x0.fStmt.fConds)]) (nb rfl) rfl)) ?_
 refine opK_pu (pu_len_31 _ _ _) ?_
 refine opK_pu (pu_bld_213_0_1 _ _) ?_
 refine s_alloc I_4 Tryd.zeroValue213 (cs := [(vi 0), (vi 0)]) rfl fun g_7 w_8 I_9 k_10 => ?_
 refine s_store I_9 Tryd.sizeOf213 (vs := [(vi (x0.fStmt.fExprs.n : Int)), (vi (x0.fStmt.fConds.n : Int))]) (cs' := [(vi (x0.fStmt.fExprs.n : Int)), (vi (x0.fStmt.fConds.n : Int))]) rfl rfl (nb rfl) rfl rfl fun w_11 I_12 k_13 => ?_
 refine opK_pu pu_fa_177_0 ?_
 refine opK_pu pu_fa_88_1 ?_
 refine opK_ld (ld1 Tryd.isAgg9 ((I_12.bring 1).at1 (o := 1) (vs := [(Value.string x0.fStmt.fName)]) (nb rfl) rfl)) ?_
 refine opK_pu (pu_eqs _ _ _ _ _) ?_
 try simp only [gval_b]
 refine opK_pu (Pu.g fun hb => by have hb_0 := hb; first | exact (pu_not _) | (simp only [gv_t hb_0]; exact (pu_not _)) | (simp only [gval_t hb_0, gv_t hb_0, gv_t hb, gva_tf hb_0, gv_n]; exact (pu_not _))) ?_
 refine opK_pu (pu_and _ _) ?_
 refine opK_pu pu_fa_177_0 ?_
 refine opK_pu pu_fa_88_0 ?_
 refine opK_ld (ld1 Tryd.isAgg3 ((I_12.bring 1).at1 (o := 0) (vs := [(vi x0.fStmt.fKind)]) (nb rfl) rfl)) ?_
 refine opK_pu (pu_eql _ _ _ _ _ _) ?_
 refine xcond_p (fun c_20 => ?_) (fun c_20 => ?_)
 ·replace h := h.1 c_20
  refine opK_pu (pu_not _) ?_
  refine opK_ld (Ld.g fun hb => by have hb_0 := hb; first | exact (ldA Tryd.isAgg213 Tryd.sizeOf213 rfl (I_12.at1 (o := 0) (vs := [(vi (x0.fStmt.fExprs.n : Int)), (vi (x0.fStmt.fConds.n : Int))]) (nb rfl) rfl)) | (simp only [gval_t hb_0, gv_t hb_0, gv_t hb, gva_tt hb_0]; exact (ldA Tryd.isAgg213 Tryd.sizeOf213 rfl (I_12.at1 (o := 0) (vs := [(vi (x0.fStmt.fExprs.n : Int)), (vi (x0.fStmt.fConds.n : Int))]) (nb rfl) rfl))) | (simp only [gval_t hb_0, gv_t hb_0, gv_t hb, gva_tf hb_0, gv_n]; exact (ldA Tryd.isAgg213 Tryd.sizeOf213 rfl (I_12.at1 (o := 0) (vs := [(vi (x0.fStmt.fExprs.n : Int)), (vi (x0.fStmt.fConds.n : Int))]) (nb rfl) rfl)))) ?_
  refine opK_pu (Pu.g fun hb => by have hb_0 := hb; first | exact (pu_bld_213_0_1 _ _) | (simp only [gval_t hb_0, gv_t hb_0, gv_t hb, gva_tt hb_0]; exact (pu_bld_213_0_1 _ _)) | (simp only [gval_t hb_0, gv_t hb_0, gv_t hb, gva_tf hb_0, gv_n]; exact (pu_bld_213_0_1 _ _))) ?_
  refine opK_pu (Pu.g fun hb => by have hb_0 := hb; first | exact (pu_eq_213 _ _ _ _ _ _) | (simp only [gv_t hb_0]; exact (pu_eq_213 _ _ _ _ _ _)) | (simp only [gval_t hb_0, gv_t hb_0, gv_t hb, gva_tf hb_0, gv_n]; exact (pu_eq_213 _ _ _ _ _ _))) ?_
  refine opK_pu (pu_and _ _) ?_
  exact hR ((!(decide (0 < (IntKind.wrap .i64 ((x0.fStmt.fThen.n : Int) + (x0.fStmt.fElse.n : Int)))))) && (decide ((x0.fStmt.fExprs.n : Int) = 1 ∧ (x0.fStmt.fConds.n : Int) = 0))) H _ I_12.drop.drop h
 ·replace h := h.2 c_20
  refine opK_pu (pu_eql _ _ _ _ _ _) ?_
  refine xcond_p (fun c_19 => ?_) (fun c_19 => ?_)
  ·replace h := h.1 c_19
   refine opK_pu (pu_not _) ?_
   refine opK_ld (Ld.g fun hb => by have hb_0 := hb; first | exact (ldA Tryd.isAgg213 Tryd.sizeOf213 rfl (I_12.at1 (o := 0) (vs := [(vi (x0.fStmt.fExprs.n : Int)), (vi (x0.fStmt.fConds.n : Int))]) (nb rfl) rfl)) | (simp only [gval_t hb_0, gv_t hb_0, gv_t hb, gva_tt hb_0]; exact (ldA Tryd.isAgg213 Tryd.sizeOf213 rfl (I_12.at1 (o := 0) (vs := [(vi (x0.fStmt.fExprs.n : Int)), (vi (x0.fStmt.fConds.n : Int))]) (nb rfl) rfl))) | (simp only [gval_t hb_0, gv_t hb_0, gv_t hb, gva_tf hb_0, gv_n]; exact (ldA Tryd.isAgg213 Tryd.sizeOf213 rfl (I_12.at1 (o := 0) (vs := [(vi (x0.fStmt.fExprs.n : Int)), (vi (x0.fStmt.fConds.n : Int))]) (nb rfl) rfl)))) ?_
   refine opK_pu (Pu.g fun hb => by have hb_0 := hb; first | exact (pu_bld_213_0_1 _ _) | (simp only [gval_t hb_0, gv_t hb_0, gv_t hb, gva_tt hb_0]; exact (pu_bld_213_0_1 _ _)) | (simp only [gval_t hb_0, gv_t hb_0, gv_t hb, gva_tf hb_0, gv_n]; exact (pu_bld_213_0_1 _ _))) ?_
   refine opK_pu (Pu.g fun hb => by have hb_0 := hb; first | exact (pu_eq_213 _ _ _ _ _ _) | (simp only [gv_t hb_0]; exact (pu_eq_213 _ _ _ _ _ _)) | (simp only [gval_t hb_0, gv_t hb_0, gv_t hb, gva_tf hb_0, gv_n]; exact (pu_eq_213 _ _ _ _ _ _))) ?_
   refine opK_pu (pu_and _ _) ?_
   exact hR ((!(decide (0 < (IntKind.wrap .i64 ((x0.fStmt.fThen.n : Int) + (x0.fStmt.fElse.n : Int)))))) && (decide ((x0.fStmt.fExprs.n : Int) = 2 ∧ (x0.fStmt.fConds.n : Int) = 0))) H _ I_12.drop.drop h
  ·replace h := h.2 c_19
   refine opK_pu (pu_eql _ _ _ _ _ _) ?_
   refine xcond_p (fun c_18 => ?_) (fun c_18 => ?_)
   ·replace h := h.1 c_18
    refine opK_pu pu_fa_177_0 ?_
    refine opK_pu pu_fa_88_1 ?_
    refine opK_ld (ld1 Tryd.isAgg9 ((I_12.bring 1).at1 (o := 1) (vs := [(Value.string x0.fStmt.fName)]) (nb rfl) rfl)) ?_
    refine opK_pu (pu_eqs _ _ _ _ _) ?_
    refine opK_ld (Ld.g fun hb => by have hb_0 := hb; first | exact (ldA Tryd.isAgg213 Tryd.sizeOf213 rfl (I_12.at1 (o := 0) (vs := [(vi (x0.fStmt.fExprs.n : Int)), (vi (x0.fStmt.fConds.n : Int))]) (nb rfl) rfl)) | (simp only [gval_t hb_0, gv_t hb_0, gv_t hb, gva_tt hb_0]; exact (ldA Tryd.isAgg213 Tryd.sizeOf213 rfl (I_12.at1 (o := 0) (vs := [(vi (x0.fStmt.fExprs.n : Int)), (vi (x0.fStmt.fConds.n : Int))]) (nb rfl) rfl))) | (simp only [gval_t hb_0, gv_t hb_0, gv_t hb, gva_tf hb_0, gv_n]; exact (ldA Tryd.isAgg213 Tryd.sizeOf213 rfl (I_12.at1 (o := 0) (vs := [(vi (x0.fStmt.fExprs.n : Int)), (vi (x0.fStmt.fConds.n : Int))]) (nb rfl) rfl)))) ?_
    refine opK_pu (Pu.g fun hb => by have hb_0 := hb; first | exact (pu_bld_213_0_1 _ _) | (simp only [gval_t hb_0, gv_t hb_0, gv_t hb, gva_tt hb_0]; exact (pu_bld_213_0_1 _ _)) | (simp only [gval_t hb_0, gv_t hb_0, gv_t hb, gva_tf hb_0, gv_n]; exact (pu_bld_213_0_1 _ _))) ?_
    refine opK_pu (Pu.g fun hb => by have hb_0 := hb; first | exact (pu_eq_213 _ _ _ _ _ _) | (simp only [gv_t hb_0]; exact (pu_eq_213 _ _ _ _ _ _)) | (simp only [gval_t hb_0, gv_t hb_0, gv_t hb, gva_tf hb_0, gv_n]; exact (pu_eq_213 _ _ _ _ _ _))) ?_
    refine opK_pu (pu_and _ _) ?_
    exact hR ((decide (x0.fStmt.fName = ⟨#[]⟩)) && (decide ((x0.fStmt.fExprs.n : Int) = 0 ∧ (x0.fStmt.fConds.n : Int) = 1))) H _ I_12.drop.drop h
   ·replace h := h.2 c_18
    refine opK_pu (pu_eql _ _ _ _ _ _) ?_
    refine xcond_p (fun c_17 => ?_) (fun c_17 => ?_)
    ·replace h := h.1 c_17
     refine opK_pu pu_fa_177_0 ?_
     refine opK_pu pu_fa_88_1 ?_
     refine opK_ld (ld1 Tryd.isAgg9 ((I_12.bring 1).at1 (o := 1) (vs := [(Value.string x0.fStmt.fName)]) (nb rfl) rfl)) ?_
     refine opK_pu (pu_eqs _ _ _ _ _) ?_
     refine opK_pu (Pu.g fun hb => by have hb_0 := hb; first | exact pu_fa_177_0 | (simp only [gval_t hb_0, gv_t hb_0, gv_t hb, gva_tt hb_0]; exact pu_fa_177_0) | (simp only [gval_t hb_0, gv_t hb_0, gv_t hb, gva_tf hb_0, gv_n]; exact pu_fa_177_0)) ?_
     refine opK_pu (Pu.g fun hb => by have hb_0 := hb; first | exact pu_fa_88_5 | (simp only [gv_t hb_0]; exact pu_fa_88_5) | (simp only [gval_t hb_0, gv_t hb_0, gv_t hb, gva_tf hb_0, gv_n]; exact pu_fa_88_5)) ?_
     refine opK_ld (Ld.g fun hb => by have hb_0 := hb; first | exact (ld1 Tryd.isAgg23 ((I_12.bring 1).at1 (o := 5) (vs := [(vs x0.fStmt.fElse)]) (nb rfl) rfl)) | (simp only [gv_t hb_0]; exact (ld1 Tryd.isAgg23 ((I_12.bring 1).at1 (o := 5) (vs := [(vs x0.fStmt.fElse)]) (nb rfl) rfl))) | (simp only [gval_t hb_0, gv_t hb_0, gv_t hb, gva_tf hb_0, gv_n]; exact (ld1 Tryd.isAgg23 ((I_12.bring 1).at1 (o := 5) (vs := [(vs x0.fStmt.fElse)]) (nb rfl) rfl)))) ?_
     refine opK_pu (Pu.g fun hb => by have hb_0 := hb; first | exact (pu_len_23 _ _ _) | (simp only [gv_t hb_0]; exact (pu_len_23 _ _ _)) | (simp only [gval_t hb_0, gv_t hb_0, gv_t hb, gva_tf hb_0, gv_n]; exact (pu_len_23 _ _ _))) ?_
     refine opK_pu (Pu.g fun hb => by have hb_0 := hb; first | exact (pu_eql _ _ _ _ _ _) | (simp only [gv_t hb_0]; exact (pu_eql _ _ _ _ _ _)) | (simp only [gval_t hb_0, gv_t hb_0, gv_t hb, gva_tf hb_0, gv_n]; exact (pu_eql _ _ _ _ _ _))) ?_
     refine opK_pu (pu_and _ _) ?_
     refine opK_ld (Ld.g fun hb => by have hb_0 := hb; first | exact (ldA Tryd.isAgg213 Tryd.sizeOf213 rfl (I_12.at1 (o := 0) (vs := [(vi (x0.fStmt.fExprs.n : Int)), (vi (x0.fStmt.fConds.n : Int))]) (nb rfl) rfl)) | (simp only [gval_t hb_0, gv_t hb_0, gv_t hb, gva_tt hb_0]; exact (ldA Tryd.isAgg213 Tryd.sizeOf213 rfl (I_12.at1 (o := 0) (vs := [(vi (x0.fStmt.fExprs.n : Int)), (vi (x0.fStmt.fConds.n : Int))]) (nb rfl) rfl))) | (simp only [gval_t hb_0, gv_t hb_0, gv_t hb, gva_tf hb_0, gv_n]; exact (ldA Tryd.isAgg213 Tryd.sizeOf213 rfl (I_12.at1 (o := 0) (vs := [(vi (x0.fStmt.fExprs.n : Int)), (vi (x0.fStmt.fConds.n : Int))]) (nb rfl) rfl)))) ?_
     refine opK_pu (Pu.g fun hb => by have hb_0 := hb; first | exact (pu_bld_213_0_1 _ _) | (simp only [gval_t hb_0, gv_t hb_0, gv_t hb, gva_tt hb_0]; exact (pu_bld_213_0_1 _ _)) | (simp only [gval_t hb_0, gv_t hb_0, gv_t hb, gva_tf hb_0, gv_n]; exact (pu_bld_213_0_1 _ _))) ?_
     refine opK_pu (Pu.g fun hb => by have hb_0 := hb; first | exact (pu_eq_213 _ _ _ _ _ _) | (simp only [gv_t hb_0]; exact (pu_eq_213 _ _ _ _ _ _)) | (simp only [gval_t hb_0, gv_t hb_0, gv_t hb, gva_tf hb_0, gv_n]; exact (pu_eq_213 _ _ _ _ _ _))) ?_
     refine opK_pu (pu_and _ _) ?_
     exact hR (((decide (x0.fStmt.fName = ⟨#[]⟩)) && (decide ((x0.fStmt.fElse.n : Int) = 0))) && (decide ((x0.fStmt.fExprs.n : Int) = 0 ∧ (x0.fStmt.fConds.n : Int) = 1))) H _ I_12.drop.drop h
    ·replace h := h.2 c_17
     have hj1 : ∀ (s83j1 : Bool) (H : Hp) (w : World) (_ : Inv w0 ps0 H0 H [bx g_7 213 [(vi (Ttree_has_213.mk (x0.fStmt.fExprs.n : Int) (x0.fStmt.fConds.n : Int)).fexprs), (vi (Ttree_has_213.mk (x0.fStmt.fExprs.n : Int) (x0.fStmt.fConds.n : Int)).fconds)], bx g_2 177 (cs_api_Stmt x0.fStmt)] w) (_ : T_gnomon_tree_stmt_form_j1 ((decide (x0.fStmt.fName = ⟨#[]⟩)) && (!(decide (0 < (IntKind.wrap .i64 ((x0.fStmt.fThen.n : Int) + (x0.fStmt.fElse.n : Int))))))) x0.fStmt.fKind s83j1 (Ttree_has_213.mk (x0.fStmt.fExprs.n : Int) (x0.fStmt.fConds.n : Int)) x0 H K), F158_j1 (Value.pointer (some ⟨g_7, 0, none⟩)) (Value.bool ((decide (x0.fStmt.fName = ⟨#[]⟩)) && (!(decide (0 < (IntKind.wrap .i64 ((x0.fStmt.fThen.n : Int) + (x0.fStmt.fElse.n : Int)))))))) (vi x0.fStmt.fKind) (Value.bool s83j1) w R E := by
      intro s83j1 H w I h
      unfold F158_j1
      intro _
      unfold T_gnomon_tree_stmt_form_j1 at h
      refine xcond_b (fun c_15 => ?_) (fun c_15 => ?_)
      ·replace h := h.1 c_15
       refine opK_ld (Ld.g fun hb => by have hb_0 := hb; first | exact (ldA Tryd.isAgg213 Tryd.sizeOf213 rfl (I.at1 (o := 0) (vs := [(vi (Ttree_has_213.mk (x0.fStmt.fExprs.n : Int) (x0.fStmt.fConds.n : Int)).fexprs), (vi (Ttree_has_213.mk (x0.fStmt.fExprs.n : Int) (x0.fStmt.fConds.n : Int)).fconds)]) (nb rfl) rfl)) | (simp only [gval_t hb_0, gv_t hb_0, gv_t hb, gva_tt hb_0]; exact (ldA Tryd.isAgg213 Tryd.sizeOf213 rfl (I.at1 (o := 0) (vs := [(vi (Ttree_has_213.mk (x0.fStmt.fExprs.n : Int) (x0.fStmt.fConds.n : Int)).fexprs), (vi (Ttree_has_213.mk (x0.fStmt.fExprs.n : Int) (x0.fStmt.fConds.n : Int)).fconds)]) (nb rfl) rfl))) | (simp only [gval_t hb_0, gv_t hb_0, gv_t hb, gva_tf hb_0, gv_n]; exact (ldA Tryd.isAgg213 Tryd.sizeOf213 rfl (I.at1 (o := 0) (vs := [(vi (Ttree_has_213.mk (x0.fStmt.fExprs.n : Int) (x0.fStmt.fConds.n : Int)).fexprs), (vi (Ttree_has_213.mk (x0.fStmt.fExprs.n : Int) (x0.fStmt.fConds.n : Int)).fconds)]) (nb rfl) rfl)))) ?_
       refine opK_pu (Pu.g fun hb => by have hb_0 := hb; first | exact (pu_bld_213_0_1 _ _) | (simp only [gval_t hb_0, gv_t hb_0, gv_t hb, gva_tt hb_0]; exact (pu_bld_213_0_1 _ _)) | (simp only [gval_t hb_0, gv_t hb_0, gv_t hb, gva_tf hb_0, gv_n]; exact (pu_bld_213_0_1 _ _))) ?_
       refine opK_pu (Pu.g fun hb => by have hb_0 := hb; first | exact (pu_eq_213 _ _ _ _ _ _) | (simp only [gv_t hb_0]; exact (pu_eq_213 _ _ _ _ _ _)) | (simp only [gval_t hb_0, gv_t hb_0, gv_t hb, gva_tf hb_0, gv_n]; exact (pu_eq_213 _ _ _ _ _ _))) ?_
       refine opK_pu (pu_and _ _) ?_
       exact hR (((decide (x0.fStmt.fName = ⟨#[]⟩)) && (!(decide (0 < (IntKind.wrap .i64 ((x0.fStmt.fThen.n : Int) + (x0.fStmt.fElse.n : Int))))))) && (decide ((Ttree_has_213.mk (x0.fStmt.fExprs.n : Int) (x0.fStmt.fConds.n : Int)).fexprs = 0 ∧ (Ttree_has_213.mk (x0.fStmt.fExprs.n : Int) (x0.fStmt.fConds.n : Int)).fconds = 1))) H _ I.drop.drop h
      ·replace h := h.2 c_15
       refine opK_pu (pu_eql _ _ _ _ _ _) ?_
       refine xcond_p (fun c_14 => ?_) (fun c_14 => ?_)
       ·replace h := h.1 c_14
        refine opK_ld (Ld.g fun hb => by have hb_0 := hb; first | exact (ldA Tryd.isAgg213 Tryd.sizeOf213 rfl (I.at1 (o := 0) (vs := [(vi (Ttree_has_213.mk (x0.fStmt.fExprs.n : Int) (x0.fStmt.fConds.n : Int)).fexprs), (vi (Ttree_has_213.mk (x0.fStmt.fExprs.n : Int) (x0.fStmt.fConds.n : Int)).fconds)]) (nb rfl) rfl)) | (simp only [gval_t hb_0, gv_t hb_0, gv_t hb, gva_tt hb_0]; exact (ldA Tryd.isAgg213 Tryd.sizeOf213 rfl (I.at1 (o := 0) (vs := [(vi (Ttree_has_213.mk (x0.fStmt.fExprs.n : Int) (x0.fStmt.fConds.n : Int)).fexprs), (vi (Ttree_has_213.mk (x0.fStmt.fExprs.n : Int) (x0.fStmt.fConds.n : Int)).fconds)]) (nb rfl) rfl))) | (simp only [gval_t hb_0, gv_t hb_0, gv_t hb, gva_tf hb_0, gv_n]; exact (ldA Tryd.isAgg213 Tryd.sizeOf213 rfl (I.at1 (o := 0) (vs := [(vi (Ttree_has_213.mk (x0.fStmt.fExprs.n : Int) (x0.fStmt.fConds.n : Int)).fexprs), (vi (Ttree_has_213.mk (x0.fStmt.fExprs.n : Int) (x0.fStmt.fConds.n : Int)).fconds)]) (nb rfl) rfl)))) ?_
        refine opK_pu (Pu.g fun hb => by have hb_0 := hb; first | exact (pu_bld_213 ) | (simp only [gval_t hb_0, gv_t hb_0, gv_t hb, gva_tt hb_0]; exact (pu_bld_213 )) | (simp only [gval_t hb_0, gv_t hb_0, gv_t hb, gva_tf hb_0, gv_n]; exact (pu_bld_213 ))) ?_
        refine opK_pu (Pu.g fun hb => by have hb_0 := hb; first | exact (pu_eq_213 _ _ _ _ _ _) | (simp only [gv_t hb_0]; exact (pu_eq_213 _ _ _ _ _ _)) | (simp only [gval_t hb_0, gv_t hb_0, gv_t hb, gva_tf hb_0, gv_n]; exact (pu_eq_213 _ _ _ _ _ _))) ?_
        refine opK_pu (pu_and _ _) ?_
        exact hR (((decide (x0.fStmt.fName = ⟨#[]⟩)) && (!(decide (0 < (IntKind.wrap .i64 ((x0.fStmt.fThen.n : Int) + (x0.fStmt.fElse.n : Int))))))) && (decide ((Ttree_has_213.mk (x0.fStmt.fExprs.n : Int) (x0.fStmt.fConds.n : Int)).fexprs = 0 ∧ (Ttree_has_213.mk (x0.fStmt.fExprs.n : Int) (x0.fStmt.fConds.n : Int)).fconds = 0))) H _ I.drop.drop h
       ·replace h := h.2 c_14
        exact hR false H _ I.drop.drop h
     refine xcut_i fun j1 hx1 => ?_
     refine opK_pu (pu_eql _ _ _ _ _ _) ?_
     refine xcond_p (fun c_16 => ?_) (fun c_16 => ?_)
     ·replace h := h.1 c_16
      exact hx1 _ _ (hj1 (decide (x0.fStmt.fKind = 5)) H _ ((I_12.bring 1).bring 1) h)
     ·replace h := h.2 c_16
      refine opK_pu (pu_eql _ _ _ _ _ _) ?_
      exact hx1 _ _ (hj1 (decide (x0.fStmt.fKind = 6)) H _ ((I_12.bring 1).bring 1) h)
theorem L_gnomon_tree_stmt_form (x0 : Ttree_stmt) {H : Hp} {K : Bool → Hp → Prop} (h : T_gnomon_tree_stmt_form x0 H K) : C_gnomon_tree_stmt_form x0 H K := by
 intro w I
 refine F158_ok ?_
 refine LF_gnomon_tree_stmt_form x0 I (fun r0 H' w' I' hk => ⟨H', _, I', r0, rfl, rfl, hk⟩) h


/- function 159: (gnomon/tree.stmt).parts -/
def T_gnomon_tree_stmt_parts (x0 : Ttree_stmt) (H : Hp) (K : Sl → Hp → Prop) : Prop :=
 C_gnomon_tree_each_gnomon_api_Cond_of_gnomon_tree_condOf x0.fStmt.fConds H (fun (r0_16 : Sl) (H_8 : Hp) => 
 C_gnomon_tree_each_gnomon_api_Expr_of_gnomon_tree_exprOf x0.fStmt.fExprs H_8 (fun (r0_25 : Sl) (H_17 : Hp) => 
 C_gnomon_tree_each_gnomon_api_Stmt_of_gnomon_tree_stmtOf x0.fStmt.fThen H_17 (fun (r0_34 : Sl) (H_26 : Hp) => 
 C_gnomon_tree_each_gnomon_api_Stmt_of_gnomon_tree_stmtOf x0.fStmt.fElse H_26 (fun (r0_43 : Sl) (H_35 : Hp) => 
 ∀ (s_45 : Sl) (H_51 : Hp), Hle H_35 H_51 → SlH H_51 1 csl s_45 [r0_16, r0_25, r0_34, r0_43] → s_45.n ≤ s_45.c →
 C_slices_Concat_gnomon_tree_node_gnomon_tree_node s_45 H_51 (fun (r0_64 : Sl) (H_56 : Hp) => 
 K r0_64 H_56)))))
theorem LF_gnomon_tree_stmt_parts (x0 : Ttree_stmt) {w0 w : World} {ps0 : Nat → Prop} {H0 H : Hp} {K : Sl → Hp → Prop} {R : Value → World → Prop} {E : Pan} (I : Inv w0 ps0 H0 H [] w) (hR : ∀ (r0 : Sl) (H' : Hp) (w' : World) (_ : Inv w0 ps0 H0 H' [] w') (_ : K r0 H'), R (vs r0) w') (h : T_gnomon_tree_stmt_parts x0 H K) : F159 (Value.agg (cs_api_Stmt x0.fStmt).toArray) w R E := by
 unfold T_gnomon_tree_stmt_parts at h
 unfold F159
 refine s_box I (cs := (cs_api_Stmt x0.fStmt)) rfl fun g_2 w_3 I_4 k_5 => ?_
 refine s_dX I_4 fun w_6 I_7 => ?_
 refine qP_pu pu_fa_177_0 ?_
 refine qP_pu pu_fa_88_3 ?_
 refine qP_pu pu_fa_177_0 ?_
 refine qP_pu pu_fa_88_2 ?_
 refine qP_pu pu_fa_177_0 ?_
 refine qP_pu pu_fa_88_4 ?_
 refine qP_pu pu_fa_177_0 ?_
 refine qP_pu pu_fa_88_5 ?_
 refine qL_ld (ld1 Tryd.isAgg31 (I_7.at1 (o := 3) (vs := [(vs x0.fStmt.fConds)]) (nb rfl) rfl)) ?_
 refine qL_ld (ld1 Tryd.isAgg28 (I_7.at1 (o := 2) (vs := [(vs x0.fStmt.fExprs)]) (nb rfl) rfl)) ?_
 refine qL_ld (ld1 Tryd.isAgg23 (I_7.at1 (o := 4) (vs := [(vs x0.fStmt.fThen)]) (nb rfl) rfl)) ?_
 refine qL_ld (ld1 Tryd.isAgg23 (I_7.at1 (o := 5) (vs := [(vs x0.fStmt.fElse)]) (nb rfl) rfl)) ?_
 refine opK_calls (cap := []) (fun args w => Tryd.call154 args w) ?_
 refine Cv_ct (Fi := []) (Fr := [bx g_2 177 (cs_api_Stmt x0.fStmt)]) I_7 (h) (fun v_12 H_8 F_13 w_9 I_10 l_15 k_11 q_14 => ?_) (fun _ _ _ _ _ q => q.elim)
 obtain ⟨r0_16, rfl, rfl, h⟩ := q_14
 refine ⟨(k_11 _ I_7.lt1 (Inv.not_in (Fi := []) I_7)), (k_11 _ I_7.lt1 (Inv.not_in (Fi := []) I_7)), (k_11 _ I_7.lt1 (Inv.not_in (Fi := []) I_7)), ?_⟩
 refine opK_calls (cap := []) (fun args w => Tryd.call150 args w) ?_
 refine Cv_ct (Fi := []) (Fr := [bx g_2 177 (cs_api_Stmt x0.fStmt)]) I_10 (h) (fun v_21 H_17 F_22 w_18 I_19 l_24 k_20 q_23 => ?_) (fun _ _ _ _ _ q => q.elim)
 obtain ⟨r0_25, rfl, rfl, h⟩ := q_23
 refine ⟨(k_20 _ I_10.lt1 (Inv.not_in (Fi := []) I_10)), (k_20 _ I_10.lt1 (Inv.not_in (Fi := []) I_10)), ?_⟩
 refine opK_calls (cap := []) (fun args w => Tryd.call97 args w) ?_
 refine Cv_ct (Fi := []) (Fr := [bx g_2 177 (cs_api_Stmt x0.fStmt)]) I_19 (h) (fun v_30 H_26 F_31 w_27 I_28 l_33 k_29 q_32 => ?_) (fun _ _ _ _ _ q => q.elim)
 obtain ⟨r0_34, rfl, rfl, h⟩ := q_32
 refine ⟨(k_29 _ I_19.lt1 (Inv.not_in (Fi := []) I_19)), ?_⟩
 refine opK_calls (cap := []) (fun args w => Tryd.call97 args w) ?_
 refine Cv_ct (Fi := []) (Fr := [bx g_2 177 (cs_api_Stmt x0.fStmt)]) I_28 (h) (fun v_39 H_35 F_40 w_36 I_37 l_42 k_38 q_41 => ?_) (fun _ _ _ _ _ q => q.elim)
 obtain ⟨r0_43, rfl, rfl, h⟩ := q_41
 refine s_bs (e := 97) (c := csl) (xs := [r0_16, r0_25, r0_34, r0_43]) I_37 (bs_172_4 _ _ _ _ _ _ _ _ _ _ _ _) rfl rfl csl_l csl_o (nb rfl) fun s_45 F_46 w_47 h_48 I_49 k_50 => ?_
 obtain ⟨H_51, I_52, l_53, h_54, h_55⟩ := Inv.freezeC I_49 h_48 (by decide)
 replace h := h s_45 H_51 l_53 h_54 h_55
 refine opK_calls (cap := []) (fun args w => Tryd.call94 args w) ?_
 refine Cv_ct (Fi := []) (Fr := [bx g_2 177 (cs_api_Stmt x0.fStmt)]) I_52 (h) (fun v_60 H_56 F_61 w_57 I_58 l_63 k_59 q_62 => ?_) (fun _ _ _ _ _ q => q.elim)
 obtain ⟨r0_64, rfl, rfl, h⟩ := q_62
 exact hR r0_64 H_56 _ I_58.drop h
theorem L_gnomon_tree_stmt_parts (x0 : Ttree_stmt) {H : Hp} {K : Sl → Hp → Prop} (h : T_gnomon_tree_stmt_parts x0 H K) : C_gnomon_tree_stmt_parts x0 H K := by
 intro w I
 refine F159_ok ?_
 refine LF_gnomon_tree_stmt_parts x0 I (fun r0 H' w' I' hk => ⟨H', _, I', r0, rfl, rfl, hk⟩) h


end Go.Proofs.YthldnpmfelniiaaDoor
