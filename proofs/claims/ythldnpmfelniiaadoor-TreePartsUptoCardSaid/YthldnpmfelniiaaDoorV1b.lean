/-
  Typed formulas of the program's functions, and the theorems that the contracts follow from them; printed by lift.py off the code.
-/
import Derived.Test.YthldnpmfelniiaaDoorV1
namespace Go.Proofs.YthldnpmfelniiaaDoor
open Go.RowKit
set_option maxRecDepth 100000
set_option maxHeartbeats 2000000

/- function 50: gnomon/gnomonlaw3.one -/
def T_gnomon_gnomonlaw3_one (H : Hp) (K : Tapi_Prog → Hp → Prop) : Prop :=
 ∀ (s_7 : Sl) (H_28 : Hp), Hle H H_28 → SlH H_28 4 cs_api_Expr s_7 [(Tapi_Expr.mk 2 0 ⟨#[120]⟩ (Sl.mk none 0 0)), (Tapi_Expr.mk 1 1 ⟨#[]⟩ (Sl.mk none 0 0))] → s_7.n ≤ s_7.c →
 ∀ (s_34 : Sl) (H_40 : Hp), Hle H_28 H_40 → SlH H_40 4 cs_api_Expr s_34 [(Tapi_Expr.mk 6 0 ⟨#[]⟩ s_7)] → s_34.n ≤ s_34.c →
 ∀ (s_22 : Sl) (H_55 : Hp), Hle H_40 H_55 → SlH H_55 2 cs_api_Decl s_22 [(Tapi_Decl.mk ⟨#[120]⟩ 0)] → s_22.n ≤ s_22.c →
 ∀ (s_46 : Sl) (H_60 : Hp), Hle H_55 H_60 → SlH H_60 6 cs_api_Stmt s_46 [(Tapi_Stmt.mk 1 ⟨#[120]⟩ s_34 (Sl.mk none 0 0) (Sl.mk none 0 0) (Sl.mk none 0 0))] → s_46.n ≤ s_46.c →
 K (Tapi_Prog.mk s_22 s_46) H_60
theorem LF_gnomon_gnomonlaw3_one {w0 w : World} {ps0 : Nat → Prop} {H0 H : Hp} {K : Tapi_Prog → Hp → Prop} {R : Value → World → Prop} {E : Pan} (I : Inv w0 ps0 H0 H [] w) (hR : ∀ (r0 : Tapi_Prog) (H' : Hp) (w' : World) (_ : Inv w0 ps0 H0 H' [] w') (_ : K r0 H'), R (Value.agg (cs_api_Prog r0).toArray) w') (h : T_gnomon_gnomonlaw3_one H K) : F50 w R E := by
 unfold T_gnomon_gnomonlaw3_one at h
 unfold F50
 refine s_alloc I Tryd.zeroValue25 (cs := [(Value.slice none 0 0), (Value.slice none 0 0)]) rfl fun g_2 w_3 I_4 k_5 => ?_
 refine opK_pu (pu_bld_30_0_2 _ _) ?_
 refine opK_pu (pu_bld_30_0_1 _ _) ?_
 refine s_bs (e := 30) (c := cs_api_Expr) (xs := [(Tapi_Expr.mk 2 0 ⟨#[120]⟩ (Sl.mk none 0 0)), (Tapi_Expr.mk 1 1 ⟨#[]⟩ (Sl.mk none 0 0))]) I_4 (bs_28_2 _ _ _ _ _ _ _ _ _ _ _ _) rfl rfl cs_api_Expr_l cs_api_Expr_o (nb rfl) fun s_7 F_8 w_9 h_10 I_11 k_12 => ?_
 refine opK_pu (pu_bld_30_0_3 _ _ _ _) ?_
 refine s_alloc I_11 Tryd.zeroValue30 (cs := [(vi 0), (vi 0), (Value.string ⟨#[]⟩), (Value.slice none 0 0)]) rfl fun g_14 w_15 I_16 k_17 => ?_
 refine s_store I_16 Tryd.sizeOf30 (vs := [(vi 6), (vi 0), (Value.string ⟨#[]⟩), (vs s_7)]) (cs' := [(vi 6), (vi 0), (Value.string ⟨#[]⟩), (vs s_7)]) rfl rfl (nb rfl) rfl rfl fun w_18 I_19 k_20 => ?_
 refine opK_pu (pu_bld_67_0 _) ?_
 refine s_bs (e := 67) (c := cs_api_Decl) (xs := [(Tapi_Decl.mk ⟨#[120]⟩ 0)]) I_19 (bs_22_1 _ _) rfl rfl cs_api_Decl_l cs_api_Decl_o (nb rfl) fun s_22 F_23 w_24 h_25 I_26 k_27 => ?_
 refine opK_ld (ldA Tryd.isAgg30 Tryd.sizeOf30 rfl ((I_26.bring 1).at1 (o := 0) (vs := [(vi 6), (vi 0), (Value.string ⟨#[]⟩), (vs s_7)]) (nb rfl) rfl)) ?_
 obtain ⟨H_28, I_29, l_30, h_31, h_32⟩ := Inv.freezeC (I_26.bring 2) h_10 (by decide)
 replace h := h s_7 H_28 l_30 h_31 h_32
 refine s_bs (e := 30) (c := cs_api_Expr) (xs := [(Tapi_Expr.mk 6 0 ⟨#[]⟩ s_7)]) I_29 (bs_28_1 _ _ _ _ _ _) rfl rfl cs_api_Expr_l cs_api_Expr_o (nb rfl) fun s_34 F_35 w_36 h_37 I_38 k_39 => ?_
 refine opK_pu (pu_bld_88_0_1_2 _ _ _ _ _) ?_
 obtain ⟨H_40, I_41, l_42, h_43, h_44⟩ := Inv.freezeC I_38 h_37 (by decide)
 replace h := h s_34 H_40 l_42 h_43 h_44
 refine s_bs (e := 88) (c := cs_api_Stmt) (xs := [(Tapi_Stmt.mk 1 ⟨#[120]⟩ s_34 (Sl.mk none 0 0) (Sl.mk none 0 0) (Sl.mk none 0 0))]) I_41 (bs_23_1 _ _ _ _ _ _ _ _ _ _ _ _ _ _) rfl rfl cs_api_Stmt_l cs_api_Stmt_o (nb rfl) fun s_46 F_47 w_48 h_49 I_50 k_51 => ?_
 refine opK_pu (pu_bld_25_0_1 _ _ _ _ _ _) ?_
 refine s_store (I_50.bring 3) Tryd.sizeOf25 (vs := [(vs s_22), (vs s_46)]) (cs' := [(vs s_22), (vs s_46)]) rfl rfl (nb rfl) rfl rfl fun w_52 I_53 k_54 => ?_
 refine xcell_A Tryd.isAgg25 Tryd.sizeOf25 rfl (I_53.at1 (o := 0) (vs := [(vs s_22), (vs s_46)]) (nb rfl) rfl) ?_
 obtain ⟨H_55, I_56, l_57, h_58, h_59⟩ := Inv.freezeC (I_53.bring 2) h_25 (by decide)
 replace h := h s_22 H_55 l_57 h_58 h_59
 obtain ⟨H_60, I_61, l_62, h_63, h_64⟩ := Inv.freezeC (I_56.bring 1) h_49 (by decide)
 replace h := h s_46 H_60 l_62 h_63 h_64
 exact hR (Tapi_Prog.mk s_22 s_46) H_60 _ I_61.drop.drop h
theorem L_gnomon_gnomonlaw3_one {H : Hp} {K : Tapi_Prog → Hp → Prop} (h : T_gnomon_gnomonlaw3_one H K) : C_gnomon_gnomonlaw3_one H K := by
 intro w I
 refine F50_ok ?_
 refine LF_gnomon_gnomonlaw3_one I (fun r0 H' w' I' hk => ⟨H', _, I', r0, rfl, rfl, hk⟩) h


/- function 94: slices.Concat[[]gnomon/tree.node,gnomon/tree.node] -/
def T_slices_Concat_gnomon_tree_node_gnomon_tree_node_j5 (_s0j5 : Sl) (s3j5 : Int) (_s9j5 : Sl) (_s10j5 : Int) (s11j5 : Int) (H : Hp) (n4 : (Int × Int) → Hp → Prop) (_K : Sl → Hp → Prop) : Prop :=
 n4 (s3j5, (IntKind.wrap .i64 (s11j5 + 1))) H
def T_slices_Concat_gnomon_tree_node_gnomon_tree_node_j2 (cs6j2 : (List Itree_node)) (H : Hp) (K : Sl → Hp → Prop) : Prop :=
 ∀ (ss6j2 : Sl) (H_35 : Hp), Hle H H_35 → SlH H_35 1 cs_tree_node ss6j2 cs6j2 → ss6j2.n ≤ ss6j2.c →
 K ss6j2 H_35
def T_slices_Concat_gnomon_tree_node_gnomon_tree_node_l3 (s25l3 : Sl) (s26l3 : Int) (cs6l3 : (List Itree_node)) (s27l3 : Int) (H : Hp) (n3 : ((List Itree_node) × Int) → Hp → Prop) (K : Sl → Hp → Prop) : Prop :=
 (s27l3 < s26l3 →
 (0 : Int) ≤ s27l3 ∧ (s27l3 : Int) < s25l3.n ∧ ∃ x_19 : Sl, EltH H s25l3 s27l3 1 [(vs x_19)] ∧ 
 ∃ ys_33 : List Itree_node, SlH H 1 cs_tree_node x_19 ys_33 ∧ (cs6l3.length + ys_33.length) * 17 ≤ 140737488355328 ∧
 n3 ((cs6l3 ++ ys_33), (IntKind.wrap .i64 (s27l3 + 1))) H) ∧
 (¬ (s27l3 < s26l3) →
 T_slices_Concat_gnomon_tree_node_gnomon_tree_node_j2 cs6l3 H K)
def T_slices_Concat_gnomon_tree_node_gnomon_tree_node_j1 (s0j1 : Sl) (s3j1 : Int) (H : Hp) (K : Sl → Hp → Prop) : Prop :=
 C_slices_Grow_gnomon_tree_node_gnomon_tree_node_of_nil s3j1 H (fun (r0_17 : (List Itree_node)) (H_9 : Hp) => 
 TL ((r0_17, 0) : (List Itree_node) × Int) H_9 fun (s : (List Itree_node) × Int) H n3 => T_slices_Concat_gnomon_tree_node_gnomon_tree_node_l3 s0j1 (s0j1.n : Int) s.1 s.2 H n3 K)
def T_slices_Concat_gnomon_tree_node_gnomon_tree_node_l4 (s0l4 : Sl) (s9l4 : Sl) (s10l4 : Int) (s3l4 : Int) (s11l4 : Int) (H : Hp) (n4 : (Int × Int) → Hp → Prop) (K : Sl → Hp → Prop) : Prop :=
 (s11l4 < s10l4 →
 (0 : Int) ≤ s11l4 ∧ (s11l4 : Int) < s9l4.n ∧ ∃ x_1 : Sl, EltH H s9l4 s11l4 1 [(vs x_1)] ∧ 
 ((IntKind.wrap .i64 (s3l4 + (x_1.n : Int))) < 0 →
 False) ∧
 (¬ ((IntKind.wrap .i64 (s3l4 + (x_1.n : Int))) < 0) →
 T_slices_Concat_gnomon_tree_node_gnomon_tree_node_j5 s0l4 (IntKind.wrap .i64 (s3l4 + (x_1.n : Int))) s9l4 s10l4 s11l4 H n4 K)) ∧
 (¬ (s11l4 < s10l4) →
 T_slices_Concat_gnomon_tree_node_gnomon_tree_node_j1 s0l4 s3l4 H K)
def T_slices_Concat_gnomon_tree_node_gnomon_tree_node (x0 : Sl) (H : Hp) (K : Sl → Hp → Prop) : Prop :=
 TL ((0, 0) : Int × Int) H fun (s : Int × Int) H n4 => T_slices_Concat_gnomon_tree_node_gnomon_tree_node_l4 x0 x0 (x0.n : Int) s.1 s.2 H n4 K
theorem LF_slices_Concat_gnomon_tree_node_gnomon_tree_node (x0 : Sl) {w0 w : World} {ps0 : Nat → Prop} {H0 H : Hp} {K : Sl → Hp → Prop} {R : Value → World → Prop} {E : Pan} (I : Inv w0 ps0 H0 H [] w) (hR : ∀ (r0 : Sl) (H' : Hp) (w' : World) (_ : Inv w0 ps0 H0 H' [] w') (_ : K r0 H'), R (vs r0) w') (h : T_slices_Concat_gnomon_tree_node_gnomon_tree_node x0 H K) : F94 (vs x0) w R E := by
 unfold T_slices_Concat_gnomon_tree_node_gnomon_tree_node at h
 unfold F94
 have hj1 : ∀ (s3j1 : Int) (H : Hp) (w : World) (_ : Inv w0 ps0 H0 H [] w) (_ : T_slices_Concat_gnomon_tree_node_gnomon_tree_node_j1 x0 s3j1 H K), F94_j1 (vs x0) (vi s3j1) w R E := by
  intro s3j1 H w I h
  unfold F94_j1
  intro _
  unfold T_slices_Concat_gnomon_tree_node_gnomon_tree_node_j1 at h
  refine opK_calls (cap := []) (fun args w => Tryd.call120 args w) ?_
  refine Cv_ct (Fi := []) (Fr := []) I (h) (fun v_13 H_9 F_14 w_10 I_11 l_16 k_12 q_15 => ?_) (fun _ _ _ _ _ q => q.elim)
  obtain ⟨r0_17, sr0_17, Fr0_17, rfl, rfl, hr0_17, h⟩ := q_15
  have hj2 : ∀ (cs6j2 : (List Itree_node)) (ss6j2 : Sl) (Fs6j2 : Frag) (H : Hp) (w : World) (_ : RowL 141 1 cs_tree_node ss6j2 cs6j2 Fs6j2) (_ : Inv w0 ps0 H0 H [Fs6j2] w) (_ : T_slices_Concat_gnomon_tree_node_gnomon_tree_node_j2 cs6j2 H K), F94_j2 (vs ss6j2) w R E := by
   intro cs6j2 ss6j2 Fs6j2 H w hs6j2 I h
   unfold F94_j2
   intro _
   unfold T_slices_Concat_gnomon_tree_node_gnomon_tree_node_j2 at h
   obtain ⟨H_35, I_36, l_37, h_38, h_39⟩ := Inv.freezeC I hs6j2 (by decide)
   replace h := h ss6j2 H_35 l_37 h_38 h_39
   exact hR ss6j2 H_35 _ I_36 h
  refine xcut_i fun j2 hx2 => ?_
  refine opK_pu (pu_len_172 _ _ _) ?_
  obtain ⟨J_41, m_42, i_43, b_44⟩ := h
  refine xloop_J (J := fun n l w => ∃ (s : (List Itree_node) × Int) (H : Hp) (ss6l3 : Sl) (Fs6l3 : Frag) , n = m_42 s ∧ l = (match s with | (cs6l3, s27l3) => [(vs ss6l3), (vi s27l3)]) ∧ (match s with | (cs6l3, s27l3) => RowL 141 1 cs_tree_node ss6l3 cs6l3 Fs6l3) ∧ (match s with | (cs6l3, s27l3) => Inv w0 ps0 H0 H [Fs6l3] w) ∧ J_41 s H) ⟨_, (r0_17, 0), H_9, sr0_17, Fr0_17, rfl, rfl, hr0_17, I_11, i_43⟩ ?_
  rintro n_45 τ_46 w next3 ⟨⟨cs6l3, s27l3⟩, H, ss6l3, Fs6l3, rfl, l_47, hs6l3, I, s_48⟩ hn3
  dsimp only at l_47 I hs6l3
  simp only [List.map_cons, List.map_nil, List.cons.injEq, and_true] at l_47
  obtain ⟨e6, e27⟩ := l_47
  simp only [e6, e27]
  obtain ⟨n3, hm3, h⟩ : ∃ n3 : ((List Itree_node) × Int) → Hp → Prop, (∀ s' H', n3 s' H' → J_41 s' H' ∧ m_42 s' < m_42 (cs6l3, s27l3)) ∧ T_slices_Concat_gnomon_tree_node_gnomon_tree_node_l3 x0 (x0.n : Int) cs6l3 s27l3 H n3 K := ⟨_, fun _ _ h => h, b_44 (cs6l3, s27l3) H (fun s' H' => J_41 s' H' ∧ m_42 s' < m_42 (cs6l3, s27l3)) s_48 (fun _ _ a b => ⟨a, b⟩)⟩
  unfold F94_l3
  unfold T_slices_Concat_gnomon_tree_node_gnomon_tree_node_l3 at h
  refine opK_pu (pu_lss _ _ _ _ _ _) ?_
  refine xcond_p (fun c_40 => ?_) (fun c_40 => ?_)
  ·replace h := h.1 c_40
   obtain ⟨h_22, h_23, x_19, h_25, h⟩ := h
   obtain ⟨g_20, o_21, h_24, h_25⟩ := h_25
   refine opK_pu (pu_ix_172 h_24 _ _ _ _ h_22 h_23) ?_
   refine opK_ld (ld1 (v := (vs x_19)) Tryd.isAgg97 (I.atH h_25)) ?_
   obtain ⟨ys_33, h_34, h⟩ := h
   obtain ⟨h_32, h⟩ := h
   refine app_97 (s := ss6l3) (xs := cs6l3) I hs6l3 (SlH.src I h_34 cs_tree_node_l) h_32 fun s_26 F_27 w_28 h_29 I_30 k_31 => ?_
   refine opK_pu (pu_add _ _ _ _ _ _) ?_
   exact hn3 _ _ _ (hm3 _ _ h).2 ⟨((cs6l3 ++ ys_33), (IntKind.wrap .i64 (s27l3 + 1))), H, s_26, F_27, rfl, rfl, h_29, I_30, (hm3 _ _ h).1⟩
  ·replace h := h.2 c_40
   exact hx2 _ _ (hj2 cs6l3 ss6l3 Fs6l3 H _ hs6l3 I h)
 refine xcut_i fun j1 hx1 => ?_
 refine opK_pu (pu_len_172 _ _ _) ?_
 obtain ⟨J_50, m_51, i_52, b_53⟩ := h
 refine xloop_J (J := fun n l w => ∃ (s : Int × Int) (H : Hp) , n = m_51 s ∧ l = (match s with | (s3l4, s11l4) => [(vi s3l4), (vi s11l4)]) ∧ (match s with | (s3l4, s11l4) => Inv w0 ps0 H0 H [] w) ∧ J_50 s H) ⟨_, (0, 0), H, rfl, rfl, I, i_52⟩ ?_
 rintro n_54 τ_55 w next4 ⟨⟨s3l4, s11l4⟩, H, rfl, l_56, I, s_57⟩ hn4
 dsimp only at l_56 I
 simp only [List.map_cons, List.map_nil, List.cons.injEq, and_true] at l_56
 obtain ⟨e3, e11⟩ := l_56
 simp only [e3, e11]
 obtain ⟨n4, hm4, h⟩ : ∃ n4 : (Int × Int) → Hp → Prop, (∀ s' H', n4 s' H' → J_50 s' H' ∧ m_51 s' < m_51 (s3l4, s11l4)) ∧ T_slices_Concat_gnomon_tree_node_gnomon_tree_node_l4 x0 x0 (x0.n : Int) s3l4 s11l4 H n4 K := ⟨_, fun _ _ h => h, b_53 (s3l4, s11l4) H (fun s' H' => J_50 s' H' ∧ m_51 s' < m_51 (s3l4, s11l4)) s_57 (fun _ _ a b => ⟨a, b⟩)⟩
 unfold F94_l4
 unfold T_slices_Concat_gnomon_tree_node_gnomon_tree_node_l4 at h
 refine opK_pu (pu_lss _ _ _ _ _ _) ?_
 refine xcond_p (fun c_49 => ?_) (fun c_49 => ?_)
 ·replace h := h.1 c_49
  have hj5 : ∀ (s3j5 : Int) (H : Hp) (w : World) (_ : Inv w0 ps0 H0 H [] w) (_ : T_slices_Concat_gnomon_tree_node_gnomon_tree_node_j5 x0 s3j5 x0 (x0.n : Int) s11l4 H n4 K), F94_j5 (vs x0) (vi s3j5) (vs x0) (vi (x0.n : Int)) (vi s11l4) w next4 R E := by
   intro s3j5 H w I h
   unfold F94_j5
   intro _
   unfold T_slices_Concat_gnomon_tree_node_gnomon_tree_node_j5 at h
   refine opK_pu (pu_add _ _ _ _ _ _) ?_
   exact hn4 _ _ _ (hm4 _ _ h).2 ⟨(s3j5, (IntKind.wrap .i64 (s11l4 + 1))), H, rfl, rfl, I, (hm4 _ _ h).1⟩
  refine xcut_i fun j5 hx5 => ?_
  obtain ⟨h_4, h_5, x_1, h_7, h⟩ := h
  obtain ⟨g_2, o_3, h_6, h_7⟩ := h_7
  refine opK_pu (pu_ix_172 h_6 _ _ _ _ h_4 h_5) ?_
  refine opK_ld (ld1 (v := (vs x_1)) Tryd.isAgg97 (I.atH h_7)) ?_
  refine opK_pu (pu_len_97 _ _ _) ?_
  refine opK_pu (pu_add _ _ _ _ _ _) ?_
  refine opK_pu (pu_lss _ _ _ _ _ _) ?_
  refine xcond_p (fun c_8 => ?_) (fun c_8 => ?_)
  ·replace h := h.1 c_8
   refine opK_pu (pu_mkis_9 _) ?_
   exact h.elim
  ·replace h := h.2 c_8
   exact hx5 _ _ (hj5 (IntKind.wrap .i64 (s3l4 + (x_1.n : Int))) H _ I h)
 ·replace h := h.2 c_49
  exact hx1 _ _ (hj1 s3l4 H _ I h)
theorem L_slices_Concat_gnomon_tree_node_gnomon_tree_node (x0 : Sl) {H : Hp} {K : Sl → Hp → Prop} (h : T_slices_Concat_gnomon_tree_node_gnomon_tree_node x0 H K) : C_slices_Concat_gnomon_tree_node_gnomon_tree_node x0 H K := by
 intro w I
 refine F94_ok ?_
 refine LF_slices_Concat_gnomon_tree_node_gnomon_tree_node x0 I (fun r0 H' w' I' hk => ⟨H', _, I', r0, rfl, rfl, hk⟩) h


/- function 116: slices.Contains[[]string,string] -/
def T_slices_Contains_string_string (x0 : (List ByteArray)) (x1 : ByteArray) (H : Hp) (K : Bool → Hp → Prop) : Prop :=
 C_slices_Index_string_string x0 x1 H (fun (r0_9 : Int) (H_1 : Hp) => 
 K (decide (0 ≤ r0_9)) H_1)
theorem LF_slices_Contains_string_string (x0 : (List ByteArray)) (x1 : ByteArray) (sx0 : Sl) (Fx0 : Frag) (hx0 : RowL 9 1 cs_string sx0 x0 Fx0) {w0 w : World} {ps0 : Nat → Prop} {H0 H : Hp} {K : Bool → Hp → Prop} {R : Value → World → Prop} {E : Pan} (I : Inv w0 ps0 H0 H [Fx0] w) (hR : ∀ (r0 : Bool) (H' : Hp) (w' : World) (_ : Inv w0 ps0 H0 H' [Fx0] w') (_ : K r0 H'), R (Value.bool r0) w') (h : T_slices_Contains_string_string x0 x1 H K) : F116 (vs sx0) (Value.string x1) w R E := by
 unfold T_slices_Contains_string_string at h
 unfold F116
 refine opK_calls (cap := []) (fun args w => Tryd.call127 args w) ?_
 refine Cv_ct (Fi := [Fx0]) (Fr := []) I (h sx0 Fx0 hx0) (fun v_5 H_1 F_6 w_2 I_3 l_8 k_4 q_7 => ?_) (fun _ _ _ _ _ q => q.elim)
 obtain ⟨r0_9, rfl, rfl, h⟩ := q_7
 refine opK_pu (pu_geq _ _ _ _ _ _) ?_
 exact hR (decide (0 ≤ r0_9)) H_1 _ I_3 h
theorem L_slices_Contains_string_string (x0 : (List ByteArray)) (x1 : ByteArray) {H : Hp} {K : Bool → Hp → Prop} (h : T_slices_Contains_string_string x0 x1 H K) : C_slices_Contains_string_string x0 x1 H K := by
 intro sx0 Fx0 hx0 w I
 refine F116_ok ?_
 refine LF_slices_Contains_string_string x0 x1 sx0 Fx0 hx0 I (fun r0 H' w' I' hk => ⟨H', _, I', r0, rfl, rfl, hk⟩) h


/- function 90: (*gnomon/tree.walker).meets -/
def T_gnomon_tree_walker_meets_j1 (cp0j1_0 : Int) (cp0j1_1 : Int) (cp0j1_2 : Int) (cp0j1_3 : Bool) (cp0j1_4 : Bool) (ccp0j1_5 : (List ByteArray)) (H : Hp) (K : Bool → Ttree_walker → (List ByteArray) → Hp → Prop) : Prop :=
 K true (Ttree_walker.mk cp0j1_0 cp0j1_1 cp0j1_2 cp0j1_3 cp0j1_4 (Sl.mk none 0 0)) ccp0j1_5 H
def T_gnomon_tree_walker_meets (x0 : Ttree_walker) (x0_5 : (List ByteArray)) (x1 : Itree_node) (x2 : Int) (H : Hp) (K : Bool → Ttree_walker → (List ByteArray) → Hp → Prop) : Prop :=
 (4096 < (IntKind.wrap .i64 (x0.fnodes + 1)) →
 K false (Ttree_walker.mk (IntKind.wrap .i64 (x0.fnodes + 1)) x0.fdepth 33 x0.fform x0.fnamed (Sl.mk none 0 0)) x0_5 H) ∧
 (¬ (4096 < (IntKind.wrap .i64 (x0.fnodes + 1))) →
 (64 < x2 →
 K false (Ttree_walker.mk (IntKind.wrap .i64 (x0.fnodes + 1)) x0.fdepth 32 x0.fform x0.fnamed (Sl.mk none 0 0)) x0_5 H) ∧
 (¬ (64 < x2) →
 TG (x0.fform = false) (C_inv_tree_node_form x1 H) false H (fun (r0_18 : Bool) (H_13 : Hp) =>
 C_gnomon_tree_name x1 H_13 (fun (r0_30 : ByteArray) (r1_30 : Bool) (H_22 : Hp) => 
 (r1_30 = true →
 TG (x0.fnamed = false) (C_gnomon_lex_Name r0_30 H_22) false H_22 (fun (r0_39 : Bool) (H_31 : Hp) =>
 C_slices_Contains_string_string x0_5 r0_30 H_31 (fun (r0_51 : Bool) (H_43 : Hp) => 
 ((!r0_51) = true →
 (x0_5.length + ([r0_30] : List ByteArray).length) * 17 ≤ 140737488355328 ∧
 T_gnomon_tree_walker_meets_j1 (IntKind.wrap .i64 (x0.fnodes + 1)) (if x2 > x0.fdepth then x2 else x0.fdepth) x0.fe (x0.fform || (!r0_18)) (x0.fnamed || (!r0_39)) (x0_5 ++ [r0_30]) H_43 K) ∧
 ((!r0_51) = false →
 T_gnomon_tree_walker_meets_j1 (IntKind.wrap .i64 (x0.fnodes + 1)) (if x2 > x0.fdepth then x2 else x0.fdepth) x0.fe (x0.fform || (!r0_18)) (x0.fnamed || (!r0_39)) x0_5 H_43 K)))) ∧
 (r1_30 = false →
 T_gnomon_tree_walker_meets_j1 (IntKind.wrap .i64 (x0.fnodes + 1)) (if x2 > x0.fdepth then x2 else x0.fdepth) x0.fe (x0.fform || (!r0_18)) x0.fnamed x0_5 H_22 K)))))
theorem LF_gnomon_tree_walker_meets (x0 : Ttree_walker) (x0_5 : (List ByteArray)) (x1 : Itree_node) (x2 : Int) (g0 : Nat) (sx0_5 : Sl) (Fx0_5 : Frag) (hx0_5 : RowL 9 1 cs_string sx0_5 x0_5 Fx0_5) {w0 w : World} {ps0 : Nat → Prop} {H0 H : Hp} {K : Bool → Ttree_walker → (List ByteArray) → Hp → Prop} {R : Value → World → Prop} {E : Pan} (I : Inv w0 ps0 H0 H [bx g0 92 [(vi x0.fnodes), (vi x0.fdepth), (vi x0.fe), (Value.bool x0.fform), (Value.bool x0.fnamed), (vs sx0_5)], Fx0_5] w) (hR : ∀ (r0 : Bool) (y0 : Ttree_walker) (y0_5 : (List ByteArray)) (sy0_5 : Sl) (Fy0_5 : Frag) (H' : Hp) (w' : World) (_ : RowL 9 1 cs_string sy0_5 y0_5 Fy0_5) (_ : Inv w0 ps0 H0 H' [bx g0 92 [(vi y0.fnodes), (vi y0.fdepth), (vi y0.fe), (Value.bool y0.fform), (Value.bool y0.fnamed), (vs sy0_5)], Fy0_5] w') (_ : K r0 y0 y0_5 H'), R (Value.bool r0) w') (h : T_gnomon_tree_walker_meets x0 x0_5 x1 x2 H K) : F90 (Value.pointer (some ⟨g0, 0, none⟩)) (vItree_node x1) (vi x2) w R E := by
 unfold T_gnomon_tree_walker_meets at h
 unfold F90
 refine opK_pu (pu_nilp _) ?_
 refine opK_pu pu_fa_92_0 ?_
 refine opK_ld (ld1 Tryd.isAgg3 (I.at1 (o := 0) (vs := [(vi x0.fnodes)]) (nb rfl) rfl)) ?_
 refine opK_pu (pu_add _ _ _ _ _ _) ?_
 refine opK_pu (pu_nilp _) ?_
 refine opK_pu pu_fa_92_0 ?_
 refine s_store I Tryd.sizeOf3 (vs := [(vi (IntKind.wrap .i64 (x0.fnodes + 1)))]) (cs' := [(vi (IntKind.wrap .i64 (x0.fnodes + 1))), (vi x0.fdepth), (vi x0.fe), (Value.bool x0.fform), (Value.bool x0.fnamed), (vs sx0_5)]) rfl rfl (nb rfl) rfl rfl fun w_1 I_2 k_3 => ?_
 refine opK_pu (pu_nilp _) ?_
 refine opK_pu pu_fa_92_0 ?_
 refine opK_ld (ld1 Tryd.isAgg3 (I_2.at1 (o := 0) (vs := [(vi (IntKind.wrap .i64 (x0.fnodes + 1)))]) (nb rfl) rfl)) ?_
 refine opK_pu (pu_gtr _ _ _ _ _ _) ?_
 refine xcond_p (fun c_75 => ?_) (fun c_75 => ?_)
 ·replace h := h.1 c_75
  refine opK_pu (pu_nilp _) ?_
  refine opK_pu pu_fa_92_2 ?_
  refine s_store I_2 Tryd.sizeOf34 (vs := [(vi 33)]) (cs' := [(vi (IntKind.wrap .i64 (x0.fnodes + 1))), (vi x0.fdepth), (vi 33), (Value.bool x0.fform), (Value.bool x0.fnamed), (vs sx0_5)]) rfl rfl (nb rfl) rfl rfl fun w_4 I_5 k_6 => ?_
  exact hR false (Ttree_walker.mk (IntKind.wrap .i64 (x0.fnodes + 1)) x0.fdepth 33 x0.fform x0.fnamed (Sl.mk none 0 0)) x0_5 sx0_5 Fx0_5 H _ hx0_5 ((I_5.bring 1).bring 1) h
 ·replace h := h.2 c_75
  refine opK_pu (pu_gtr _ _ _ _ _ _) ?_
  refine xcond_p (fun c_74 => ?_) (fun c_74 => ?_)
  ·replace h := h.1 c_74
   refine opK_pu (pu_nilp _) ?_
   refine opK_pu pu_fa_92_2 ?_
   refine s_store I_2 Tryd.sizeOf34 (vs := [(vi 32)]) (cs' := [(vi (IntKind.wrap .i64 (x0.fnodes + 1))), (vi x0.fdepth), (vi 32), (Value.bool x0.fform), (Value.bool x0.fnamed), (vs sx0_5)]) rfl rfl (nb rfl) rfl rfl fun w_7 I_8 k_9 => ?_
   exact hR false (Ttree_walker.mk (IntKind.wrap .i64 (x0.fnodes + 1)) x0.fdepth 32 x0.fform x0.fnamed (Sl.mk none 0 0)) x0_5 sx0_5 Fx0_5 H _ hx0_5 ((I_8.bring 1).bring 1) h
  ·replace h := h.2 c_74
   refine opK_pu (pu_nilp _) ?_
   refine opK_pu pu_fa_92_1 ?_
   refine opK_ld (ld1 Tryd.isAgg3 (I_2.at1 (o := 1) (vs := [(vi x0.fdepth)]) (nb rfl) rfl)) ?_
   refine opK_pu (pu_max _ _ _ _ _) ?_
   refine opK_pu (pu_nilp _) ?_
   refine opK_pu pu_fa_92_1 ?_
   refine s_store I_2 Tryd.sizeOf3 (vs := [(vi (if x2 > x0.fdepth then x2 else x0.fdepth))]) (cs' := [(vi (IntKind.wrap .i64 (x0.fnodes + 1))), (vi (if x2 > x0.fdepth then x2 else x0.fdepth)), (vi x0.fe), (Value.bool x0.fform), (Value.bool x0.fnamed), (vs sx0_5)]) rfl rfl (nb rfl) rfl rfl fun w_10 I_11 k_12 => ?_
   refine opK_pu (pu_nilp _) ?_
   refine opK_pu pu_fa_92_3 ?_
   refine opK_ld (ld1 Tryd.isAgg4 (I_11.at1 (o := 3) (vs := [(Value.bool x0.fform)]) (nb rfl) rfl)) ?_
   try simp only [gval_b]
   refine opK_g2 (D := fun v_73 w_14 => ∃ (r0_18 : Bool) (H_13 : Hp), v_73 = (gv x0.fform false (Value.bool r0_18)) ∧ (Inv w0 ps0 H0 H_13 [bx g0 92 [(vi (IntKind.wrap .i64 (x0.fnodes + 1))), (vi (if x2 > x0.fdepth then x2 else x0.fdepth)), (vi x0.fe), (Value.bool x0.fform), (Value.bool x0.fnamed), (vs sx0_5)], Fx0_5] w_14) ∧ (∀ i, i < w_10.heap.size → ¬ inF [] i → w_14.heap[i]? = w_10.heap[i]?) ∧ Hle H H_13 ∧ (C_gnomon_tree_name x1 H_13 (fun (r0_30 : ByteArray) (r1_30 : Bool) (H_22 : Hp) => 
 (r1_30 = true →
 TG (x0.fnamed = false) (C_gnomon_lex_Name r0_30 H_22) false H_22 (fun (r0_39 : Bool) (H_31 : Hp) =>
 C_slices_Contains_string_string x0_5 r0_30 H_31 (fun (r0_51 : Bool) (H_43 : Hp) => 
 ((!r0_51) = true →
 (x0_5.length + ([r0_30] : List ByteArray).length) * 17 ≤ 140737488355328 ∧
 T_gnomon_tree_walker_meets_j1 (IntKind.wrap .i64 (x0.fnodes + 1)) (if x2 > x0.fdepth then x2 else x0.fdepth) x0.fe (x0.fform || (!r0_18)) (x0.fnamed || (!r0_39)) (x0_5 ++ [r0_30]) H_43 K) ∧
 ((!r0_51) = false →
 T_gnomon_tree_walker_meets_j1 (IntKind.wrap .i64 (x0.fnodes + 1)) (if x2 > x0.fdepth then x2 else x0.fdepth) x0.fe (x0.fform || (!r0_18)) (x0.fnamed || (!r0_39)) x0_5 H_43 K)))) ∧
 (r1_30 = false →
 T_gnomon_tree_walker_meets_j1 (IntKind.wrap .i64 (x0.fnodes + 1)) (if x2 > x0.fdepth then x2 else x0.fdepth) x0.fe (x0.fform || (!r0_18)) x0.fnamed x0_5 H_22 K)))) (fun b_72 => ?_) (fun b_72 => ?_) ?_
   ·replace h := h.1 b_72
    have hb_0 := b_72
    try simp only [gv_t hb_0]
    refine ct_inv_tree_node_form I_11 h (fun r0_18 H_13 w_14 I_15 l_17 k_16 h => ?_)
    exact ⟨r0_18, H_13, by first | rfl | rw [gv_t b_72], I_15, k_16, l_17, h⟩
   ·exact ⟨false, H, by first | rfl | rw [gv_f b_72], I_11, fun _ _ _ => rfl, Hle.refl _, h.2 b_72⟩
   ·clear h
    rintro v_73 w_14 ⟨r0_18, H_13, rfl, I_15, k_16, l_17, h⟩
    refine opK_pu (Pu.g fun hb => by have hb_0 := hb; first | exact (pu_not _) | (simp only [gv_t hb_0]; exact (pu_not _)) | (simp only [gval_t hb_0, gv_t hb_0, gv_t hb, gva_ff hb_0, gv_n]; exact (pu_not _))) ?_
    refine opK_pu (pu_or _ _) ?_
    refine opK_pu (pu_nilp _) ?_
    refine opK_pu pu_fa_92_3 ?_
    refine s_store I_15 Tryd.sizeOf4 (vs := [(Value.bool (x0.fform || (!r0_18)))]) (cs' := [(vi (IntKind.wrap .i64 (x0.fnodes + 1))), (vi (if x2 > x0.fdepth then x2 else x0.fdepth)), (vi x0.fe), (Value.bool (x0.fform || (!r0_18))), (Value.bool x0.fnamed), (vs sx0_5)]) rfl rfl (nb rfl) rfl rfl fun w_19 I_20 k_21 => ?_
    have hj1 : ∀ (cp0j1_0 : Int) (cp0j1_1 : Int) (cp0j1_2 : Int) (cp0j1_3 : Bool) (cp0j1_4 : Bool) (ccp0j1_5 : (List ByteArray)) (scp0j1_5 : Sl) (Fcp0j1_5 : Frag) (H : Hp) (w : World) (_ : RowL 9 1 cs_string scp0j1_5 ccp0j1_5 Fcp0j1_5) (_ : Inv w0 ps0 H0 H [bx g0 92 [(vi cp0j1_0), (vi cp0j1_1), (vi cp0j1_2), (Value.bool cp0j1_3), (Value.bool cp0j1_4), (vs scp0j1_5)], Fcp0j1_5] w) (_ : T_gnomon_tree_walker_meets_j1 cp0j1_0 cp0j1_1 cp0j1_2 cp0j1_3 cp0j1_4 ccp0j1_5 H K), F90_j1 w R E := by
     intro cp0j1_0 cp0j1_1 cp0j1_2 cp0j1_3 cp0j1_4 ccp0j1_5 scp0j1_5 Fcp0j1_5 H w hcp0j1_5 I h
     unfold F90_j1
     intro _
     unfold T_gnomon_tree_walker_meets_j1 at h
     exact hR true (Ttree_walker.mk cp0j1_0 cp0j1_1 cp0j1_2 cp0j1_3 cp0j1_4 (Sl.mk none 0 0)) ccp0j1_5 scp0j1_5 Fcp0j1_5 H _ hcp0j1_5 ((I.bring 1).bring 1) h
    refine xcut_i fun j1 hx1 => ?_
    refine opK_calls (cap := []) (fun args w => Tryd.call114 args w) ?_
    refine Cv_ct (Fi := []) (Fr := [bx g0 92 [(vi (IntKind.wrap .i64 (x0.fnodes + 1))), (vi (if x2 > x0.fdepth then x2 else x0.fdepth)), (vi x0.fe), (Value.bool (x0.fform || (!r0_18))), (Value.bool x0.fnamed), (vs sx0_5)], Fx0_5]) I_20 (h) (fun v_26 H_22 F_27 w_23 I_24 l_29 k_25 q_28 => ?_) (fun _ _ _ _ _ q => q.elim)
    obtain ⟨r0_30, r1_30, rfl, rfl, h⟩ := q_28
    refine opK_pu (pu_extract _ _ _ rfl) ?_
    refine opK_pu (pu_extract _ _ _ rfl) ?_
    refine xcond_b (fun c_71 => ?_) (fun c_71 => ?_)
    ·replace h := h.1 c_71
     refine opK_pu (pu_nilp _) ?_
     refine opK_pu pu_fa_92_4 ?_
     refine opK_ld (ld1 Tryd.isAgg4 (I_24.at1 (o := 4) (vs := [(Value.bool x0.fnamed)]) (nb rfl) rfl)) ?_
     try simp only [gval_b]
     refine opK_g2 (D := fun v_35 w_32 => ∃ (r0_39 : Bool) (H_31 : Hp) , v_35 = (gv x0.fnamed false (Value.bool r0_39)) ∧ (Inv w0 ps0 H0 H_31 [bx g0 92 [(vi (IntKind.wrap .i64 (x0.fnodes + 1))), (vi (if x2 > x0.fdepth then x2 else x0.fdepth)), (vi x0.fe), (Value.bool (x0.fform || (!r0_18))), (Value.bool x0.fnamed), (vs sx0_5)], Fx0_5] w_32) ∧ (∀ i, i < w_23.heap.size → ¬ inF [] i → w_32.heap[i]? = w_23.heap[i]?) ∧ Hle H_22 H_31 ∧ (C_slices_Contains_string_string x0_5 r0_30 H_31 (fun (r0_51 : Bool) (H_43 : Hp) => 
 ((!r0_51) = true →
 (x0_5.length + ([r0_30] : List ByteArray).length) * 17 ≤ 140737488355328 ∧
 T_gnomon_tree_walker_meets_j1 (IntKind.wrap .i64 (x0.fnodes + 1)) (if x2 > x0.fdepth then x2 else x0.fdepth) x0.fe (x0.fform || (!r0_18)) (x0.fnamed || (!r0_39)) (x0_5 ++ [r0_30]) H_43 K) ∧
 ((!r0_51) = false →
 T_gnomon_tree_walker_meets_j1 (IntKind.wrap .i64 (x0.fnodes + 1)) (if x2 > x0.fdepth then x2 else x0.fdepth) x0.fe (x0.fform || (!r0_18)) (x0.fnamed || (!r0_39)) x0_5 H_43 K)))) (fun b_70 => ?_) (fun b_70 => ?_) ?_
     ·replace h := h.1 b_70
      have hb_0 := b_70
      try simp only [gv_t hb_0]
      refine opK_calls (cap := []) (fun args w => Tryd.call115 args w) ?_
      refine Cv_ct (Fi := []) (Fr := [bx g0 92 [(vi (IntKind.wrap .i64 (x0.fnodes + 1))), (vi (if x2 > x0.fdepth then x2 else x0.fdepth)), (vi x0.fe), (Value.bool (x0.fform || (!r0_18))), (Value.bool x0.fnamed), (vs sx0_5)], Fx0_5]) I_24 (h) (fun v_35 H_31 F_36 w_32 I_33 l_38 k_34 q_37 => ?_) (fun _ _ _ _ _ q => q.elim)
      obtain ⟨r0_39, rfl, rfl, h⟩ := q_37
      exact ⟨r0_39, H_31, by first | rfl | rw [gv_t b_70], I_33, k_34, l_38, h⟩
     ·exact ⟨false, H_22, by first | rfl | rw [gv_f b_70], I_24, fun _ _ _ => rfl, Hle.refl _, h.2 b_70⟩
     ·clear h
      rintro v_35 w_32 ⟨r0_39, H_31, rfl, I_33, k_34, l_38, h⟩
      refine opK_pu (Pu.g fun hb => by have hb_0 := hb; first | exact (pu_not _) | (simp only [gv_t hb_0]; exact (pu_not _)) | (simp only [gval_t hb_0, gv_t hb_0, gv_t hb, gva_ff hb_0, gv_n]; exact (pu_not _))) ?_
      refine opK_pu (pu_or _ _) ?_
      refine opK_pu (pu_nilp _) ?_
      refine opK_pu pu_fa_92_4 ?_
      refine s_store I_33 Tryd.sizeOf4 (vs := [(Value.bool (x0.fnamed || (!r0_39)))]) (cs' := [(vi (IntKind.wrap .i64 (x0.fnodes + 1))), (vi (if x2 > x0.fdepth then x2 else x0.fdepth)), (vi x0.fe), (Value.bool (x0.fform || (!r0_18))), (Value.bool (x0.fnamed || (!r0_39))), (vs sx0_5)]) rfl rfl (nb rfl) rfl rfl fun w_40 I_41 k_42 => ?_
      refine opK_pu (pu_nilp _) ?_
      refine opK_pu pu_fa_92_5 ?_
      refine opK_ld (ld1 Tryd.isAgg47 (I_41.at1 (o := 5) (vs := [(vs sx0_5)]) (nb rfl) rfl)) ?_
      refine opK_calls (cap := []) (fun args w => Tryd.call116 args w) ?_
      refine Cv_ct (Fi := [Fx0_5]) (Fr := [bx g0 92 [(vi (IntKind.wrap .i64 (x0.fnodes + 1))), (vi (if x2 > x0.fdepth then x2 else x0.fdepth)), (vi x0.fe), (Value.bool (x0.fform || (!r0_18))), (Value.bool (x0.fnamed || (!r0_39))), (vs sx0_5)]]) (I_41.bring 1) (h sx0_5 Fx0_5 hx0_5) (fun v_47 H_43 F_48 w_44 I_45 l_50 k_46 q_49 => ?_) (fun _ _ _ _ _ q => q.elim)
      obtain ⟨r0_51, rfl, rfl, h⟩ := q_49
      refine opK_pu (pu_not _) ?_
      refine xcond_b (fun c_69 => ?_) (fun c_69 => ?_)
      ·replace h := h.1 c_69
       refine opK_pu (pu_nilp _) ?_
       refine opK_pu pu_fa_92_5 ?_
       refine opK_ld (ld1 Tryd.isAgg47 ((I_45.bring 1).at1 (o := 5) (vs := [(vs sx0_5)]) (nb rfl) rfl)) ?_
       refine s_bs (e := 9) (c := cs_string) (xs := [r0_30]) I_45 (bs_47_1 _) rfl rfl cs_string_l cs_string_o (nb rfl) fun s_53 F_54 w_55 h_56 I_57 k_58 => ?_
       obtain ⟨h_65, h⟩ := h
       refine app_47 (s := sx0_5) (xs := x0_5) (I_57.bring 1) hx0_5 (h_56.srcO ((I_57.bring 1).bring 1)) h_65 fun s_59 F_60 w_61 h_62 I_63 k_64 => ?_
       refine opK_pu (pu_nilp _) ?_
       refine opK_pu pu_fa_92_5 ?_
       refine s_store ((I_63.bring 1).drop.bring 1) Tryd.sizeOf47 (vs := [(vs s_59)]) (cs' := [(vi (IntKind.wrap .i64 (x0.fnodes + 1))), (vi (if x2 > x0.fdepth then x2 else x0.fdepth)), (vi x0.fe), (Value.bool (x0.fform || (!r0_18))), (Value.bool (x0.fnamed || (!r0_39))), (vs s_59)]) rfl rfl (nb rfl) rfl rfl fun w_66 I_67 k_68 => ?_
       exact hx1 _ _ (hj1 (IntKind.wrap .i64 (x0.fnodes + 1)) (if x2 > x0.fdepth then x2 else x0.fdepth) x0.fe (x0.fform || (!r0_18)) (x0.fnamed || (!r0_39)) (x0_5 ++ [r0_30]) s_59 F_60 H_43 _ h_62 ((I_67.bring 1).bring 1) h)
      ·replace h := h.2 c_69
       exact hx1 _ _ (hj1 (IntKind.wrap .i64 (x0.fnodes + 1)) (if x2 > x0.fdepth then x2 else x0.fdepth) x0.fe (x0.fform || (!r0_18)) (x0.fnamed || (!r0_39)) x0_5 sx0_5 Fx0_5 H_43 _ hx0_5 (I_45.bring 1) h)
    ·replace h := h.2 c_71
     exact hx1 _ _ (hj1 (IntKind.wrap .i64 (x0.fnodes + 1)) (if x2 > x0.fdepth then x2 else x0.fdepth) x0.fe (x0.fform || (!r0_18)) x0.fnamed x0_5 sx0_5 Fx0_5 H_22 _ hx0_5 ((I_24.bring 1).bring 1) h)
theorem L_gnomon_tree_walker_meets (x0 : Ttree_walker) (x0_5 : (List ByteArray)) (x1 : Itree_node) (x2 : Int) {H : Hp} {K : Bool → Ttree_walker → (List ByteArray) → Hp → Prop} (h : T_gnomon_tree_walker_meets x0 x0_5 x1 x2 H K) : C_gnomon_tree_walker_meets x0 x0_5 x1 x2 H K := by
 intro g0 sx0_5 Fx0_5 hx0_5 w I
 refine F90_ok ?_
 refine LF_gnomon_tree_walker_meets x0 x0_5 x1 x2 g0 sx0_5 Fx0_5 hx0_5 I (fun r0 y0 y0_5 sy0_5 Fy0_5 H' w' khy0_5 I' hk => ⟨H', _, I', r0, y0, y0_5, sy0_5, Fy0_5, rfl, rfl, khy0_5, hk⟩) h


/- function 17: gnomon/tree.Expr -/
def T_gnomon_tree_Expr (x0 : Tapi_Expr) (H : Hp) (K : Int → Hp → Prop) : Prop :=
 ∀ (s_7 : Sl) (H_13 : Hp), Hle H H_13 → SlH H_13 1 cs_tree_node s_7 [(Itree_node.c_tree_expr (Ttree_expr.mk x0))] → s_7.n ≤ s_7.c →
 C_gnomon_tree_walked s_7 H_13 (fun (r0_26 : Ttree_walker) (H_18 : Hp) => 
 K r0_26.fe H_18)
theorem LF_gnomon_tree_Expr (x0 : Tapi_Expr) {w0 w : World} {ps0 : Nat → Prop} {H0 H : Hp} {K : Int → Hp → Prop} {R : Value → World → Prop} {E : Pan} (I : Inv w0 ps0 H0 H [] w) (hR : ∀ (r0 : Int) (H' : Hp) (w' : World) (_ : Inv w0 ps0 H0 H' [] w') (_ : K r0 H'), R (vi r0) w') (h : T_gnomon_tree_Expr x0 H K) : F17 (Value.agg (cs_api_Expr x0).toArray) w R E := by
 unfold T_gnomon_tree_Expr at h
 unfold F17
 refine s_box I (cs := (cs_api_Expr x0)) rfl fun g_2 w_3 I_4 k_5 => ?_
 refine opK_ld (ldA Tryd.isAgg30 Tryd.sizeOf30 rfl (I_4.at1 (o := 0) (vs := (cs_api_Expr x0)) (nb rfl) rfl)) ?_
 refine opK_pu (pu_bld_96_0 _ _ _ _ _ _) ?_
 refine opK_pu (pu_mki_141_96 (Ttree_expr.mk x0)) ?_
 refine s_bs (e := 141) (c := cs_tree_node) (xs := [(Itree_node.c_tree_expr (Ttree_expr.mk x0))]) I_4 (bs_97_1 _) rfl rfl cs_tree_node_l cs_tree_node_o (nb rfl) fun s_7 F_8 w_9 h_10 I_11 k_12 => ?_
 obtain ⟨H_13, I_14, l_15, h_16, h_17⟩ := Inv.freezeC I_11 h_10 (by decide)
 replace h := h s_7 H_13 l_15 h_16 h_17
 refine opK_calls (cap := []) (fun args w => Tryd.call57 args w) ?_
 refine Cv_ct (Fi := []) (Fr := [bx g_2 30 (cs_api_Expr x0)]) I_14 (h) (fun v_22 H_18 F_23 w_19 I_20 l_25 k_21 q_24 => ?_) (fun _ _ _ _ _ q => q.elim)
 obtain ⟨r0_26, gr0_26, rfl, rfl, h⟩ := q_24
 refine opK_pu (pu_nilp _) ?_
 refine opK_pu pu_fa_92_2 ?_
 refine opK_ld (ld1 Tryd.isAgg34 (I_20.at1 (o := 2) (vs := [(vi r0_26.fe)]) (nb rfl) rfl)) ?_
 exact hR r0_26.fe H_18 _ I_20.drop.drop h
theorem L_gnomon_tree_Expr (x0 : Tapi_Expr) {H : Hp} {K : Int → Hp → Prop} (h : T_gnomon_tree_Expr x0 H K) : C_gnomon_tree_Expr x0 H K := by
 intro w I
 refine F17_ok ?_
 refine LF_gnomon_tree_Expr x0 I (fun r0 H' w' I' hk => ⟨H', _, I', r0, rfl, rfl, hk⟩) h


/- function 52: slices.Equal[[]gnomon/api.Decl,gnomon/api.Decl] -/
def T_slices_Equal_gnomon_api_Decl_gnomon_api_Decl_j1 (H : Hp) (K : Bool → Hp → Prop) : Prop :=
 K true H
def T_slices_Equal_gnomon_api_Decl_gnomon_api_Decl_l2 (s0l2 : Sl) (s1l2 : Sl) (s12l2 : Int) (s13l2 : Int) (H : Hp) (n2 : Int → Hp → Prop) (K : Bool → Hp → Prop) : Prop :=
 (s13l2 < s12l2 →
 (0 : Int) ≤ s13l2 ∧ (s13l2 : Int) < s0l2.n ∧ ∃ x_3 : Tapi_Decl, EltH H s0l2 s13l2 2 (cs_api_Decl x_3) ∧ 
 (0 : Int) ≤ s13l2 ∧ (s13l2 : Int) < s1l2.n ∧ ∃ x_10 : Tapi_Decl, EltH H s1l2 s13l2 2 (cs_api_Decl x_10) ∧ 
 (¬ (x_3.fName = x_10.fName ∧ x_3.fSize = x_10.fSize) →
 K false H) ∧
 (x_3.fName = x_10.fName ∧ x_3.fSize = x_10.fSize →
 n2 (IntKind.wrap .i64 (s13l2 + 1)) H)) ∧
 (¬ (s13l2 < s12l2) →
 T_slices_Equal_gnomon_api_Decl_gnomon_api_Decl_j1 H K)
def T_slices_Equal_gnomon_api_Decl_gnomon_api_Decl (x0 : Sl) (x1 : Sl) (H : Hp) (K : Bool → Hp → Prop) : Prop :=
 (¬ ((x0.n : Int) = (x1.n : Int)) →
 K false H) ∧
 ((x0.n : Int) = (x1.n : Int) →
 TL (0 : Int) H fun (s : Int) H n2 => T_slices_Equal_gnomon_api_Decl_gnomon_api_Decl_l2 x0 x1 (x0.n : Int) s H n2 K)
theorem LF_slices_Equal_gnomon_api_Decl_gnomon_api_Decl (x0 : Sl) (x1 : Sl) {w0 w : World} {ps0 : Nat → Prop} {H0 H : Hp} {K : Bool → Hp → Prop} {R : Value → World → Prop} {E : Pan} (I : Inv w0 ps0 H0 H [] w) (hR : ∀ (r0 : Bool) (H' : Hp) (w' : World) (_ : Inv w0 ps0 H0 H' [] w') (_ : K r0 H'), R (Value.bool r0) w') (h : T_slices_Equal_gnomon_api_Decl_gnomon_api_Decl x0 x1 H K) : F52 (vs x0) (vs x1) w R E := by
 unfold T_slices_Equal_gnomon_api_Decl_gnomon_api_Decl at h
 unfold F52
 refine opK_pu (pu_len_22 _ _ _) ?_
 refine opK_pu (pu_len_22 _ _ _) ?_
 refine opK_pu (pu_neq _ _ _ _ _ _) ?_
 refine xcond_n (fun c_27 => ?_) (fun c_27 => ?_)
 ·replace h := h.1 c_27
  exact hR false H _ I h
 ·replace h := h.2 c_27
  have hj1 : ∀ (H : Hp) (w : World) (_ : Inv w0 ps0 H0 H [] w) (_ : T_slices_Equal_gnomon_api_Decl_gnomon_api_Decl_j1 H K), F52_j1 w R E := by
   intro H w I h
   unfold F52_j1
   intro _
   unfold T_slices_Equal_gnomon_api_Decl_gnomon_api_Decl_j1 at h
   exact hR true H _ I h
  refine xcut_i fun j1 hx1 => ?_
  refine opK_pu (pu_len_22 _ _ _) ?_
  obtain ⟨J_19, m_20, i_21, b_22⟩ := h
  refine xloop_J (J := fun n l w => ∃ (s : Int) (H : Hp) , n = m_20 s ∧ l = [(vi s)] ∧ Inv w0 ps0 H0 H [] w ∧ J_19 s H) ⟨_, 0, H, rfl, rfl, I, i_21⟩ ?_
  rintro n_23 τ_24 w next2 ⟨s13l2, H, rfl, l_25, I, s_26⟩ hn2
  simp only [List.map_cons, List.map_nil, List.cons.injEq, and_true] at l_25
  have e13 := l_25
  simp only [e13]
  obtain ⟨n2, hm2, h⟩ : ∃ n2 : Int → Hp → Prop, (∀ s' H', n2 s' H' → J_19 s' H' ∧ m_20 s' < m_20 s13l2) ∧ T_slices_Equal_gnomon_api_Decl_gnomon_api_Decl_l2 x0 x1 (x0.n : Int) s13l2 H n2 K := ⟨_, fun _ _ h => h, b_22 s13l2 H (fun s' H' => J_19 s' H' ∧ m_20 s' < m_20 s13l2) s_26 (fun _ _ a b => ⟨a, b⟩)⟩
  unfold F52_l2
  unfold T_slices_Equal_gnomon_api_Decl_gnomon_api_Decl_l2 at h
  refine opK_pu (pu_lss _ _ _ _ _ _) ?_
  refine xcond_p (fun c_18 => ?_) (fun c_18 => ?_)
  ·replace h := h.1 c_18
   refine s_dX I fun w_1 I_2 => ?_
   obtain ⟨h_6, h_7, x_3, h_9, h⟩ := h
   obtain ⟨g_4, o_5, h_8, h_9⟩ := h_9
   refine qP_pu (pu_ix_22 h_8 _ _ _ _ h_6 h_7) ?_
   obtain ⟨h_13, h_14, x_10, h_16, h⟩ := h
   obtain ⟨g_11, o_12, h_15, h_16⟩ := h_16
   refine qP_pu (pu_ix_22 h_15 _ _ _ _ h_13 h_14) ?_
   refine qL_ld (ldA (vs := (cs_api_Decl x_3)) Tryd.isAgg67 Tryd.sizeOf67 rfl (I_2.atH h_9)) ?_
   refine qL_ld (ldA (vs := (cs_api_Decl x_10)) Tryd.isAgg67 Tryd.sizeOf67 rfl (I_2.atH h_16)) ?_
   refine qP_pu (pu_ne_67 _ _ _ _ _ _) ?_
   refine xcond_n (fun c_17 => ?_) (fun c_17 => ?_)
   ·replace h := h.1 c_17
    exact hR false H _ I_2 h
   ·replace h := h.2 c_17
    refine opK_pu (pu_add _ _ _ _ _ _) ?_
    exact hn2 _ _ _ (hm2 _ _ h).2 ⟨(IntKind.wrap .i64 (s13l2 + 1)), H, rfl, rfl, I_2, (hm2 _ _ h).1⟩
  ·replace h := h.2 c_18
   exact hx1 _ _ (hj1 H _ I h)
theorem L_slices_Equal_gnomon_api_Decl_gnomon_api_Decl (x0 : Sl) (x1 : Sl) {H : Hp} {K : Bool → Hp → Prop} (h : T_slices_Equal_gnomon_api_Decl_gnomon_api_Decl x0 x1 H K) : C_slices_Equal_gnomon_api_Decl_gnomon_api_Decl x0 x1 H K := by
 intro w I
 refine F52_ok ?_
 refine LF_slices_Equal_gnomon_api_Decl_gnomon_api_Decl x0 x1 I (fun r0 H' w' I' hk => ⟨H', _, I', r0, rfl, rfl, hk⟩) h


/- function 86: gnomon/tree.sameCond -/
def T_gnomon_tree_sameCond (x0 : Tapi_Cond) (x1 : Tapi_Cond) (H : Hp) (K : Bool → Hp → Prop) : Prop :=
 TG (((decide (x0.fKind = x1.fKind)) && (decide (x0.fOp = x1.fOp))) = true) (C_slices_EqualFunc_gnomon_api_Expr_gnomon_api_Expr_gnomon_api_Expr_gnomon_api_Expr_of_gnomon_tree_sameExpr x0.fExprs x1.fExprs H) false H (fun (r0_19 : Bool) (H_11 : Hp) =>
 TG ((((decide (x0.fKind = x1.fKind)) && (decide (x0.fOp = x1.fOp))) && r0_19) = true) (C_slices_EqualFunc_gnomon_api_Cond_gnomon_api_Cond_gnomon_api_Cond_gnomon_api_Cond_of_gnomon_tree_sameCond x0.fParts x1.fParts H_11) false H_11 (fun (r0_28 : Bool) (H_20 : Hp) =>
 K ((((decide (x0.fKind = x1.fKind)) && (decide (x0.fOp = x1.fOp))) && r0_19) && r0_28) H_20))
theorem LF_gnomon_tree_sameCond (x0 : Tapi_Cond) (x1 : Tapi_Cond) {w0 w : World} {ps0 : Nat → Prop} {H0 H : Hp} {K : Bool → Hp → Prop} {R : Value → World → Prop} {E : Pan} (I : Inv w0 ps0 H0 H [] w) (hR : ∀ (r0 : Bool) (H' : Hp) (w' : World) (_ : Inv w0 ps0 H0 H' [] w') (_ : K r0 H'), R (Value.bool r0) w') (h : T_gnomon_tree_sameCond x0 x1 H K) : F86 (Value.agg (cs_api_Cond x0).toArray) (Value.agg (cs_api_Cond x1).toArray) w R E := by
 unfold T_gnomon_tree_sameCond at h
 unfold F86
 refine s_box I (cs := (cs_api_Cond x0)) rfl fun g_2 w_3 I_4 k_5 => ?_
 refine s_box I_4 (cs := (cs_api_Cond x1)) rfl fun g_7 w_8 I_9 k_10 => ?_
 refine opK_pu pu_fa_33_0 ?_
 refine opK_ld (ld1 Tryd.isAgg3 ((I_9.bring 1).at1 (o := 0) (vs := [(vi x0.fKind)]) (nb rfl) rfl)) ?_
 refine opK_pu pu_fa_33_0 ?_
 refine opK_ld (ld1 Tryd.isAgg3 (I_9.at1 (o := 0) (vs := [(vi x1.fKind)]) (nb rfl) rfl)) ?_
 refine opK_pu (pu_eql _ _ _ _ _ _) ?_
 refine opK_pu (Pu.g fun hb => by have hb_0 := hb; first | exact pu_fa_33_1 | (simp only [gval_t hb_0, gv_t hb_0, gv_t hb, gva_tt hb_0]; exact pu_fa_33_1) | (simp only [gval_t hb_0, gv_t hb_0, gv_t hb, gva_tf hb_0, gv_n]; exact pu_fa_33_1)) ?_
 refine opK_ld (Ld.g fun hb => by have hb_0 := hb; first | exact (ld1 Tryd.isAgg3 ((I_9.bring 1).at1 (o := 1) (vs := [(vi x0.fOp)]) (nb rfl) rfl)) | (simp only [gv_t hb_0]; exact (ld1 Tryd.isAgg3 ((I_9.bring 1).at1 (o := 1) (vs := [(vi x0.fOp)]) (nb rfl) rfl))) | (simp only [gval_t hb_0, gv_t hb_0, gv_t hb, gva_tf hb_0, gv_n]; exact (ld1 Tryd.isAgg3 ((I_9.bring 1).at1 (o := 1) (vs := [(vi x0.fOp)]) (nb rfl) rfl)))) ?_
 refine opK_pu (Pu.g fun hb => by have hb_0 := hb; first | exact pu_fa_33_1 | (simp only [gval_t hb_0, gv_t hb_0, gv_t hb, gva_tt hb_0]; exact pu_fa_33_1) | (simp only [gval_t hb_0, gv_t hb_0, gv_t hb, gva_tf hb_0, gv_n]; exact pu_fa_33_1)) ?_
 refine opK_ld (Ld.g fun hb => by have hb_0 := hb; first | exact (ld1 Tryd.isAgg3 (I_9.at1 (o := 1) (vs := [(vi x1.fOp)]) (nb rfl) rfl)) | (simp only [gv_t hb_0]; exact (ld1 Tryd.isAgg3 (I_9.at1 (o := 1) (vs := [(vi x1.fOp)]) (nb rfl) rfl))) | (simp only [gval_t hb_0, gv_t hb_0, gv_t hb, gva_tf hb_0, gv_n]; exact (ld1 Tryd.isAgg3 (I_9.at1 (o := 1) (vs := [(vi x1.fOp)]) (nb rfl) rfl)))) ?_
 refine opK_pu (Pu.g fun hb => by have hb_0 := hb; first | exact (pu_eql _ _ _ _ _ _) | (simp only [gv_t hb_0]; exact (pu_eql _ _ _ _ _ _)) | (simp only [gval_t hb_0, gv_t hb_0, gv_t hb, gva_tf hb_0, gv_n]; exact (pu_eql _ _ _ _ _ _))) ?_
 refine opK_pu (pu_and _ _) ?_
 refine opK_pu (Pu.g fun hb => by have hb_0 := hb; first | exact pu_fa_33_2 | (simp only [gval_t hb_0, gv_t hb_0, gv_t hb, gva_tt hb_0]; exact pu_fa_33_2) | (simp only [gval_t hb_0, gv_t hb_0, gv_t hb, gva_tf hb_0, gv_n]; exact pu_fa_33_2)) ?_
 refine opK_ld (Ld.g fun hb => by have hb_0 := hb; first | exact (ld1 Tryd.isAgg28 ((I_9.bring 1).at1 (o := 2) (vs := [(vs x0.fExprs)]) (nb rfl) rfl)) | (simp only [gv_t hb_0]; exact (ld1 Tryd.isAgg28 ((I_9.bring 1).at1 (o := 2) (vs := [(vs x0.fExprs)]) (nb rfl) rfl))) | (simp only [gval_t hb_0, gv_t hb_0, gv_t hb, gva_tf hb_0, gv_n]; exact (ld1 Tryd.isAgg28 ((I_9.bring 1).at1 (o := 2) (vs := [(vs x0.fExprs)]) (nb rfl) rfl)))) ?_
 refine opK_pu (Pu.g fun hb => by have hb_0 := hb; first | exact pu_fa_33_2 | (simp only [gval_t hb_0, gv_t hb_0, gv_t hb, gva_tt hb_0]; exact pu_fa_33_2) | (simp only [gval_t hb_0, gv_t hb_0, gv_t hb, gva_tf hb_0, gv_n]; exact pu_fa_33_2)) ?_
 refine opK_ld (Ld.g fun hb => by have hb_0 := hb; first | exact (ld1 Tryd.isAgg28 (I_9.at1 (o := 2) (vs := [(vs x1.fExprs)]) (nb rfl) rfl)) | (simp only [gv_t hb_0]; exact (ld1 Tryd.isAgg28 (I_9.at1 (o := 2) (vs := [(vs x1.fExprs)]) (nb rfl) rfl))) | (simp only [gval_t hb_0, gv_t hb_0, gv_t hb, gva_tf hb_0, gv_n]; exact (ld1 Tryd.isAgg28 (I_9.at1 (o := 2) (vs := [(vs x1.fExprs)]) (nb rfl) rfl)))) ?_
 refine opK_g2 (D := fun v_15 w_12 => ∃ (r0_19 : Bool) (H_11 : Hp) , v_15 = (gv ((decide (x0.fKind = x1.fKind)) && (decide (x0.fOp = x1.fOp))) true (Value.bool r0_19)) ∧ (Inv w0 ps0 H0 H_11 [bx g_7 33 (cs_api_Cond x1), bx g_2 33 (cs_api_Cond x0)] w_12) ∧ (∀ i, i < w_8.heap.size → ¬ inF [] i → w_12.heap[i]? = w_8.heap[i]?) ∧ Hle H H_11 ∧ (TG ((((decide (x0.fKind = x1.fKind)) && (decide (x0.fOp = x1.fOp))) && r0_19) = true) (C_slices_EqualFunc_gnomon_api_Cond_gnomon_api_Cond_gnomon_api_Cond_gnomon_api_Cond_of_gnomon_tree_sameCond x0.fParts x1.fParts H_11) false H_11 (fun (r0_28 : Bool) (H_20 : Hp) =>
 K ((((decide (x0.fKind = x1.fKind)) && (decide (x0.fOp = x1.fOp))) && r0_19) && r0_28) H_20))) (fun b_30 => ?_) (fun b_30 => ?_) ?_
 ·replace h := h.1 b_30
  have hb_0 := b_30
  try simp only [gv_t hb_0]
  refine opK_calls (cap := []) (fun args w => Tryd.call83 args w) ?_
  refine Cv_ct (Fi := []) (Fr := [bx g_7 33 (cs_api_Cond x1), bx g_2 33 (cs_api_Cond x0)]) I_9 (h) (fun v_15 H_11 F_16 w_12 I_13 l_18 k_14 q_17 => ?_) (fun _ _ _ _ _ q => q.elim)
  obtain ⟨r0_19, rfl, rfl, h⟩ := q_17
  exact ⟨r0_19, H_11, by first | rfl | rw [gv_t b_30], I_13, k_14, l_18, h⟩
 ·exact ⟨false, H, by first | rfl | rw [gv_f b_30], I_9, fun _ _ _ => rfl, Hle.refl _, h.2 b_30⟩
 ·clear h
  rintro v_15 w_12 ⟨r0_19, H_11, rfl, I_13, k_14, l_18, h⟩
  refine opK_pu (pu_and _ _) ?_
  refine opK_pu (Pu.g fun hb => by have hb_0 := hb; first | exact pu_fa_33_3 | (simp only [gval_t hb_0, gv_t hb_0, gv_t hb, gva_tt hb_0]; exact pu_fa_33_3) | (simp only [gval_t hb_0, gv_t hb_0, gv_t hb, gva_tf hb_0, gv_n]; exact pu_fa_33_3)) ?_
  refine opK_ld (Ld.g fun hb => by have hb_0 := hb; first | exact (ld1 Tryd.isAgg31 ((I_13.bring 1).at1 (o := 3) (vs := [(vs x0.fParts)]) (nb rfl) rfl)) | (simp only [gv_t hb_0]; exact (ld1 Tryd.isAgg31 ((I_13.bring 1).at1 (o := 3) (vs := [(vs x0.fParts)]) (nb rfl) rfl))) | (simp only [gval_t hb_0, gv_t hb_0, gv_t hb, gva_tf hb_0, gv_n]; exact (ld1 Tryd.isAgg31 ((I_13.bring 1).at1 (o := 3) (vs := [(vs x0.fParts)]) (nb rfl) rfl)))) ?_
  refine opK_pu (Pu.g fun hb => by have hb_0 := hb; first | exact pu_fa_33_3 | (simp only [gval_t hb_0, gv_t hb_0, gv_t hb, gva_tt hb_0]; exact pu_fa_33_3) | (simp only [gval_t hb_0, gv_t hb_0, gv_t hb, gva_tf hb_0, gv_n]; exact pu_fa_33_3)) ?_
  refine opK_ld (Ld.g fun hb => by have hb_0 := hb; first | exact (ld1 Tryd.isAgg31 (I_13.at1 (o := 3) (vs := [(vs x1.fParts)]) (nb rfl) rfl)) | (simp only [gv_t hb_0]; exact (ld1 Tryd.isAgg31 (I_13.at1 (o := 3) (vs := [(vs x1.fParts)]) (nb rfl) rfl))) | (simp only [gval_t hb_0, gv_t hb_0, gv_t hb, gva_tf hb_0, gv_n]; exact (ld1 Tryd.isAgg31 (I_13.at1 (o := 3) (vs := [(vs x1.fParts)]) (nb rfl) rfl)))) ?_
  refine opK_g2 (D := fun v_24 w_21 => ∃ (r0_28 : Bool) (H_20 : Hp) , v_24 = (gv (((decide (x0.fKind = x1.fKind)) && (decide (x0.fOp = x1.fOp))) && r0_19) true (Value.bool r0_28)) ∧ (Inv w0 ps0 H0 H_20 [bx g_7 33 (cs_api_Cond x1), bx g_2 33 (cs_api_Cond x0)] w_21) ∧ (∀ i, i < w_12.heap.size → ¬ inF [] i → w_21.heap[i]? = w_12.heap[i]?) ∧ Hle H_11 H_20 ∧ (K ((((decide (x0.fKind = x1.fKind)) && (decide (x0.fOp = x1.fOp))) && r0_19) && r0_28) H_20)) (fun b_29 => ?_) (fun b_29 => ?_) ?_
  ·replace h := h.1 b_29
   have hb_0 := b_29
   try simp only [gv_t hb_0]
   refine opK_calls (cap := []) (fun args w => Tryd.call85 args w) ?_
   refine Cv_ct (Fi := []) (Fr := [bx g_7 33 (cs_api_Cond x1), bx g_2 33 (cs_api_Cond x0)]) I_13 (h) (fun v_24 H_20 F_25 w_21 I_22 l_27 k_23 q_26 => ?_) (fun _ _ _ _ _ q => q.elim)
   obtain ⟨r0_28, rfl, rfl, h⟩ := q_26
   exact ⟨r0_28, H_20, by first | rfl | rw [gv_t b_29], I_22, k_23, l_27, h⟩
  ·exact ⟨false, H_11, by first | rfl | rw [gv_f b_29], I_13, fun _ _ _ => rfl, Hle.refl _, h.2 b_29⟩
  ·clear h
   rintro v_24 w_21 ⟨r0_28, H_20, rfl, I_22, k_23, l_27, h⟩
   refine opK_pu (pu_and _ _) ?_
   exact hR ((((decide (x0.fKind = x1.fKind)) && (decide (x0.fOp = x1.fOp))) && r0_19) && r0_28) H_20 _ I_22.drop.drop h
theorem L_gnomon_tree_sameCond (x0 : Tapi_Cond) (x1 : Tapi_Cond) {H : Hp} {K : Bool → Hp → Prop} (h : T_gnomon_tree_sameCond x0 x1 H K) : C_gnomon_tree_sameCond x0 x1 H K := by
 intro w I
 refine F86_ok ?_
 refine LF_gnomon_tree_sameCond x0 x1 I (fun r0 H' w' I' hk => ⟨H', _, I', r0, rfl, rfl, hk⟩) h


/- function 58: (*gnomon/gnomonref3.walk).expr -/
def T_gnomon_gnomonref3_walk_expr_l1 (s2l1 : Int) (cr_1l1 : Tapi_Expr) (s6l1 : Int) (cp0l1 : Tgnomonref3_walk) (H : Hp) (n1 : (Int × Tgnomonref3_walk) → Hp → Prop) (K : Tgnomonref3_walk → Hp → Prop) : Prop :=
 (((decide (s6l1 < (cr_1l1.fArgs.n : Int))) && (decide (cp0l1.fbad = 0))) = true →
 (0 : Int) ≤ s6l1 ∧ (s6l1 : Int) < cr_1l1.fArgs.n ∧ ∃ x_40 : Tapi_Expr, EltH H cr_1l1.fArgs s6l1 4 (cs_api_Expr x_40) ∧ 
 C_gnomon_gnomonref3_walk_expr cp0l1 x_40 (IntKind.wrap .i64 (s2l1 + 1)) H (fun (y0_55 : Tgnomonref3_walk) (H_47 : Hp) => 
 n1 ((IntKind.wrap .i64 (s6l1 + 1)), y0_55) H_47)) ∧
 (((decide (s6l1 < (cr_1l1.fArgs.n : Int))) && (decide (cp0l1.fbad = 0))) = false →
 K cp0l1 H)
def T_gnomon_gnomonref3_walk_expr (x0 : Tgnomonref3_walk) (x1 : Tapi_Expr) (x2 : Int) (H : Hp) (K : Tgnomonref3_walk → Hp → Prop) : Prop :=
 C_gnomon_gnomonref3_walk_node x0 x2 H (fun (r0_14 : Bool) (y0_14 : Tgnomonref3_walk) (H_6 : Hp) => 
 ((!r0_14) = true →
 K y0_14 H_6) ∧
 ((!r0_14) = false →
 TL ((0, y0_14) : Int × Tgnomonref3_walk) H_6 fun (s : Int × Tgnomonref3_walk) H n1 => T_gnomon_gnomonref3_walk_expr_l1 x2 x1 s.1 s.2 H n1 K))
theorem LF_gnomon_gnomonref3_walk_expr (x0 : Tgnomonref3_walk) (x1 : Tapi_Expr) (x2 : Int) (g0 : Nat) {w0 w : World} {ps0 : Nat → Prop} {H0 H : Hp} {K : Tgnomonref3_walk → Hp → Prop} {R : Value → World → Prop} {E : Pan} (I : Inv w0 ps0 H0 H [bx g0 99 (cs_gnomonref3_walk x0)] w) (hR : ∀ (y0 : Tgnomonref3_walk) (H' : Hp) (w' : World) (_ : Inv w0 ps0 H0 H' [bx g0 99 (cs_gnomonref3_walk y0)] w') (_ : K y0 H'), R (Value.tuple #[]) w') (h : T_gnomon_gnomonref3_walk_expr x0 x1 x2 H K) : F58 (Value.pointer (some ⟨g0, 0, none⟩)) (Value.agg (cs_api_Expr x1).toArray) (vi x2) w R E := by
 unfold T_gnomon_gnomonref3_walk_expr at h
 unfold F58
 refine s_box I (cs := (cs_api_Expr x1)) rfl fun g_2 w_3 I_4 k_5 => ?_
 refine opK_calls (cap := []) (fun args w => Tryd.call91 args w) ?_
 refine Cv_ct (Fi := [bx g0 99 (cs_gnomonref3_walk x0)]) (Fr := [bx g_2 30 (cs_api_Expr x1)]) (I_4.bring 1) (h g0) (fun v_10 H_6 F_11 w_7 I_8 l_13 k_9 q_12 => ?_) (fun _ _ _ _ _ q => q.elim)
 obtain ⟨r0_14, y0_14, rfl, rfl, h⟩ := q_12
 refine opK_pu (pu_not _) ?_
 refine xcond_b (fun c_65 => ?_) (fun c_65 => ?_)
 ·replace h := h.1 c_65
  exact hR y0_14 H_6 _ (I_8.bring 1).drop h
 ·replace h := h.2 c_65
  obtain ⟨J_57, m_58, i_59, b_60⟩ := h
  refine xloop_J (J := fun n l w => ∃ (s : Int × Tgnomonref3_walk) (H : Hp) , n = m_58 s ∧ l = (match s with | (s6l1, cp0l1) => [(vi s6l1)]) ∧ (match s with | (s6l1, cp0l1) => Inv w0 ps0 H0 H [bx g0 99 (cs_gnomonref3_walk cp0l1), bx g_2 30 (cs_api_Expr x1)] w) ∧ J_57 s H) ⟨_, (0, y0_14), H_6, rfl, rfl, ((I_8.bring 1).bring 1), i_59⟩ ?_
  rintro n_61 τ_62 w next1 ⟨⟨s6l1, cp0l1⟩, H, rfl, l_63, I, s_64⟩ hn1
  dsimp only at l_63 I
  simp only [List.map_cons, List.map_nil, List.cons.injEq, and_true] at l_63
  have e6 := l_63
  simp only [e6]
  obtain ⟨n1, hm1, h⟩ : ∃ n1 : (Int × Tgnomonref3_walk) → Hp → Prop, (∀ s' H', n1 s' H' → J_57 s' H' ∧ m_58 s' < m_58 (s6l1, cp0l1)) ∧ T_gnomon_gnomonref3_walk_expr_l1 x2 x1 s6l1 cp0l1 H n1 K := ⟨_, fun _ _ h => h, b_60 (s6l1, cp0l1) H (fun s' H' => J_57 s' H' ∧ m_58 s' < m_58 (s6l1, cp0l1)) s_64 (fun _ _ a b => ⟨a, b⟩)⟩
  unfold F58_l1
  unfold T_gnomon_gnomonref3_walk_expr_l1 at h
  refine opK_pu pu_fa_30_3 ?_
  refine opK_ld (ld1 Tryd.isAgg28 ((I.bring 1).at1 (o := 3) (vs := [(vs x1.fArgs)]) (nb rfl) rfl)) ?_
  refine opK_pu (pu_len_28 _ _ _) ?_
  refine opK_pu (pu_lss _ _ _ _ _ _) ?_
  try simp only [gval_b]
  refine opK_pu (Pu.g fun hb => by have hb_0 := hb; first | exact (pu_nilp _) | (simp only [gv_t hb_0]; exact (pu_nilp _)) | (simp only [gval_t hb_0, gv_t hb_0, gv_t hb, gva_tf hb_0, gv_n]; exact (pu_nilp _))) ?_
  refine opK_pu (Pu.g fun hb => by have hb_0 := hb; first | exact pu_fa_99_2 | (simp only [gv_t hb_0]; exact pu_fa_99_2) | (simp only [gval_t hb_0, gv_t hb_0, gv_t hb, gva_tf hb_0, gv_n]; exact pu_fa_99_2)) ?_
  refine opK_ld (Ld.g fun hb => by have hb_0 := hb; first | exact (ld1 Tryd.isAgg3 (I.at1 (o := 2) (vs := [(vi cp0l1.fbad)]) (nb rfl) rfl)) | (simp only [gv_t hb_0]; exact (ld1 Tryd.isAgg3 (I.at1 (o := 2) (vs := [(vi cp0l1.fbad)]) (nb rfl) rfl))) | (simp only [gval_t hb_0, gv_t hb_0, gv_t hb, gva_tf hb_0, gv_n]; exact (ld1 Tryd.isAgg3 (I.at1 (o := 2) (vs := [(vi cp0l1.fbad)]) (nb rfl) rfl)))) ?_
  refine opK_pu (Pu.g fun hb => by have hb_0 := hb; first | exact (pu_eql _ _ _ _ _ _) | (simp only [gv_t hb_0]; exact (pu_eql _ _ _ _ _ _)) | (simp only [gval_t hb_0, gv_t hb_0, gv_t hb, gva_tf hb_0, gv_n]; exact (pu_eql _ _ _ _ _ _))) ?_
  refine opK_pu (pu_and _ _) ?_
  refine xcond_b (fun c_56 => ?_) (fun c_56 => ?_)
  ·replace h := h.1 c_56
   refine opK_pu pu_fa_30_3 ?_
   refine opK_ld (ld1 Tryd.isAgg28 ((I.bring 1).at1 (o := 3) (vs := [(vs x1.fArgs)]) (nb rfl) rfl)) ?_
   obtain ⟨h_43, h_44, x_40, h_46, h⟩ := h
   obtain ⟨g_41, o_42, h_45, h_46⟩ := h_46
   refine opK_pu (pu_ix_28 h_45 _ _ _ _ h_43 h_44) ?_
   refine opK_ld (ldA (vs := (cs_api_Expr x_40)) Tryd.isAgg30 Tryd.sizeOf30 rfl (I.atH h_46)) ?_
   refine opK_pu (pu_add _ _ _ _ _ _) ?_
   refine opK_calls (cap := []) (fun args w => Tryd.call58 args w) ?_
   refine Cv_ct (Fi := [bx g0 99 (cs_gnomonref3_walk cp0l1)]) (Fr := [bx g_2 30 (cs_api_Expr x1)]) I (h g0) (fun v_51 H_47 F_52 w_48 I_49 l_54 k_50 q_53 => ?_) (fun _ _ _ _ _ q => q.elim)
   obtain ⟨y0_55, rfl, rfl, h⟩ := q_53
   refine opK_pu (pu_add _ _ _ _ _ _) ?_
   exact hn1 _ _ _ (hm1 _ _ h).2 ⟨((IntKind.wrap .i64 (s6l1 + 1)), y0_55), H_47, rfl, rfl, ((I_49.bring 1).bring 1), (hm1 _ _ h).1⟩
  ·replace h := h.2 c_56
   exact hR cp0l1 H _ (I.bring 1).drop h
theorem L_gnomon_gnomonref3_walk_expr (x0 : Tgnomonref3_walk) (x1 : Tapi_Expr) (x2 : Int) {H : Hp} {K : Tgnomonref3_walk → Hp → Prop} (h : T_gnomon_gnomonref3_walk_expr x0 x1 x2 H K) : C_gnomon_gnomonref3_walk_expr x0 x1 x2 H K := by
 intro g0 w I
 refine F58_ok ?_
 refine LF_gnomon_gnomonref3_walk_expr x0 x1 x2 g0 I (fun y0 H' w' I' hk => ⟨H', _, I', y0, rfl, rfl, hk⟩) h


/- function 92: (*gnomon/gnomonref3.walk).stmt -/
def T_gnomon_gnomonref3_walk_stmt_l4 (s2l4 : Int) (cr_1l4 : Tapi_Stmt) (s9l4 : Int) (cp0l4 : Tgnomonref3_walk) (H : Hp) (n4 : (Int × Tgnomonref3_walk) → Hp → Prop) (K : Tgnomonref3_walk → Hp → Prop) : Prop :=
 (((decide (s9l4 < (cr_1l4.fElse.n : Int))) && (decide (cp0l4.fbad = 0))) = true →
 (0 : Int) ≤ s9l4 ∧ (s9l4 : Int) < cr_1l4.fElse.n ∧ ∃ x_88 : Tapi_Stmt, EltH H cr_1l4.fElse s9l4 6 (cs_api_Stmt x_88) ∧ 
 C_gnomon_gnomonref3_walk_stmt cp0l4 x_88 (IntKind.wrap .i64 (s2l4 + 1)) H (fun (y0_103 : Tgnomonref3_walk) (H_95 : Hp) => 
 n4 ((IntKind.wrap .i64 (s9l4 + 1)), y0_103) H_95)) ∧
 (((decide (s9l4 < (cr_1l4.fElse.n : Int))) && (decide (cp0l4.fbad = 0))) = false →
 K cp0l4 H)
def T_gnomon_gnomonref3_walk_stmt_j3 (s2j3 : Int) (cp0j3 : Tgnomonref3_walk) (cr_1j3 : Tapi_Stmt) (H : Hp) (K : Tgnomonref3_walk → Hp → Prop) : Prop :=
 TL ((0, cp0j3) : Int × Tgnomonref3_walk) H fun (s : Int × Tgnomonref3_walk) H n4 => T_gnomon_gnomonref3_walk_stmt_l4 s2j3 cr_1j3 s.1 s.2 H n4 K
def T_gnomon_gnomonref3_walk_stmt_l5 (s2l5 : Int) (cr_1l5 : Tapi_Stmt) (s8l5 : Int) (cp0l5 : Tgnomonref3_walk) (H : Hp) (n5 : (Int × Tgnomonref3_walk) → Hp → Prop) (K : Tgnomonref3_walk → Hp → Prop) : Prop :=
 (((decide (s8l5 < (cr_1l5.fThen.n : Int))) && (decide (cp0l5.fbad = 0))) = true →
 (0 : Int) ≤ s8l5 ∧ (s8l5 : Int) < cr_1l5.fThen.n ∧ ∃ x_122 : Tapi_Stmt, EltH H cr_1l5.fThen s8l5 6 (cs_api_Stmt x_122) ∧ 
 C_gnomon_gnomonref3_walk_stmt cp0l5 x_122 (IntKind.wrap .i64 (s2l5 + 1)) H (fun (y0_137 : Tgnomonref3_walk) (H_129 : Hp) => 
 n5 ((IntKind.wrap .i64 (s8l5 + 1)), y0_137) H_129)) ∧
 (((decide (s8l5 < (cr_1l5.fThen.n : Int))) && (decide (cp0l5.fbad = 0))) = false →
 T_gnomon_gnomonref3_walk_stmt_j3 s2l5 cp0l5 cr_1l5 H K)
def T_gnomon_gnomonref3_walk_stmt_j2 (s2j2 : Int) (cp0j2 : Tgnomonref3_walk) (cr_1j2 : Tapi_Stmt) (H : Hp) (K : Tgnomonref3_walk → Hp → Prop) : Prop :=
 TL ((0, cp0j2) : Int × Tgnomonref3_walk) H fun (s : Int × Tgnomonref3_walk) H n5 => T_gnomon_gnomonref3_walk_stmt_l5 s2j2 cr_1j2 s.1 s.2 H n5 K
def T_gnomon_gnomonref3_walk_stmt_l6 (s2l6 : Int) (cr_1l6 : Tapi_Stmt) (s7l6 : Int) (cp0l6 : Tgnomonref3_walk) (H : Hp) (n6 : (Int × Tgnomonref3_walk) → Hp → Prop) (K : Tgnomonref3_walk → Hp → Prop) : Prop :=
 (((decide (s7l6 < (cr_1l6.fExprs.n : Int))) && (decide (cp0l6.fbad = 0))) = true →
 (0 : Int) ≤ s7l6 ∧ (s7l6 : Int) < cr_1l6.fExprs.n ∧ ∃ x_156 : Tapi_Expr, EltH H cr_1l6.fExprs s7l6 4 (cs_api_Expr x_156) ∧ 
 C_gnomon_gnomonref3_walk_expr cp0l6 x_156 (IntKind.wrap .i64 (s2l6 + 1)) H (fun (y0_171 : Tgnomonref3_walk) (H_163 : Hp) => 
 n6 ((IntKind.wrap .i64 (s7l6 + 1)), y0_171) H_163)) ∧
 (((decide (s7l6 < (cr_1l6.fExprs.n : Int))) && (decide (cp0l6.fbad = 0))) = false →
 T_gnomon_gnomonref3_walk_stmt_j2 s2l6 cp0l6 cr_1l6 H K)
def T_gnomon_gnomonref3_walk_stmt_j1 (s2j1 : Int) (cp0j1 : Tgnomonref3_walk) (cr_1j1 : Tapi_Stmt) (H : Hp) (K : Tgnomonref3_walk → Hp → Prop) : Prop :=
 TL ((0, cp0j1) : Int × Tgnomonref3_walk) H fun (s : Int × Tgnomonref3_walk) H n6 => T_gnomon_gnomonref3_walk_stmt_l6 s2j1 cr_1j1 s.1 s.2 H n6 K
def T_gnomon_gnomonref3_walk_stmt_l7 (s2l7 : Int) (cr_1l7 : Tapi_Stmt) (s6l7 : Int) (cp0l7 : Tgnomonref3_walk) (H : Hp) (n7 : (Int × Tgnomonref3_walk) → Hp → Prop) (K : Tgnomonref3_walk → Hp → Prop) : Prop :=
 (((decide (s6l7 < (cr_1l7.fConds.n : Int))) && (decide (cp0l7.fbad = 0))) = true →
 (0 : Int) ≤ s6l7 ∧ (s6l7 : Int) < cr_1l7.fConds.n ∧ ∃ x_190 : Tapi_Cond, EltH H cr_1l7.fConds s6l7 4 (cs_api_Cond x_190) ∧ 
 C_gnomon_gnomonref3_walk_cond cp0l7 x_190 (IntKind.wrap .i64 (s2l7 + 1)) H (fun (y0_205 : Tgnomonref3_walk) (H_197 : Hp) => 
 n7 ((IntKind.wrap .i64 (s6l7 + 1)), y0_205) H_197)) ∧
 (((decide (s6l7 < (cr_1l7.fConds.n : Int))) && (decide (cp0l7.fbad = 0))) = false →
 T_gnomon_gnomonref3_walk_stmt_j1 s2l7 cp0l7 cr_1l7 H K)
def T_gnomon_gnomonref3_walk_stmt (x0 : Tgnomonref3_walk) (x1 : Tapi_Stmt) (x2 : Int) (H : Hp) (K : Tgnomonref3_walk → Hp → Prop) : Prop :=
 C_gnomon_gnomonref3_walk_node x0 x2 H (fun (r0_14 : Bool) (y0_14 : Tgnomonref3_walk) (H_6 : Hp) => 
 ((!r0_14) = true →
 K y0_14 H_6) ∧
 ((!r0_14) = false →
 TL ((0, y0_14) : Int × Tgnomonref3_walk) H_6 fun (s : Int × Tgnomonref3_walk) H n7 => T_gnomon_gnomonref3_walk_stmt_l7 x2 x1 s.1 s.2 H n7 K))
theorem LF_gnomon_gnomonref3_walk_stmt (x0 : Tgnomonref3_walk) (x1 : Tapi_Stmt) (x2 : Int) (g0 : Nat) {w0 w : World} {ps0 : Nat → Prop} {H0 H : Hp} {K : Tgnomonref3_walk → Hp → Prop} {R : Value → World → Prop} {E : Pan} (I : Inv w0 ps0 H0 H [bx g0 99 (cs_gnomonref3_walk x0)] w) (hR : ∀ (y0 : Tgnomonref3_walk) (H' : Hp) (w' : World) (_ : Inv w0 ps0 H0 H' [bx g0 99 (cs_gnomonref3_walk y0)] w') (_ : K y0 H'), R (Value.tuple #[]) w') (h : T_gnomon_gnomonref3_walk_stmt x0 x1 x2 H K) : F92 (Value.pointer (some ⟨g0, 0, none⟩)) (Value.agg (cs_api_Stmt x1).toArray) (vi x2) w R E := by
 unfold T_gnomon_gnomonref3_walk_stmt at h
 unfold F92
 refine s_box I (cs := (cs_api_Stmt x1)) rfl fun g_2 w_3 I_4 k_5 => ?_
 refine opK_calls (cap := []) (fun args w => Tryd.call91 args w) ?_
 refine Cv_ct (Fi := [bx g0 99 (cs_gnomonref3_walk x0)]) (Fr := [bx g_2 88 (cs_api_Stmt x1)]) (I_4.bring 1) (h g0) (fun v_10 H_6 F_11 w_7 I_8 l_13 k_9 q_12 => ?_) (fun _ _ _ _ _ q => q.elim)
 obtain ⟨r0_14, y0_14, rfl, rfl, h⟩ := q_12
 refine opK_pu (pu_not _) ?_
 refine xcond_b (fun c_215 => ?_) (fun c_215 => ?_)
 ·replace h := h.1 c_215
  exact hR y0_14 H_6 _ (I_8.bring 1).drop h
 ·replace h := h.2 c_215
  have hj1 : ∀ (cp0j1 : Tgnomonref3_walk) (H : Hp) (w : World) (_ : Inv w0 ps0 H0 H [bx g0 99 (cs_gnomonref3_walk cp0j1), bx g_2 88 (cs_api_Stmt x1)] w) (_ : T_gnomon_gnomonref3_walk_stmt_j1 x2 cp0j1 x1 H K), F92_j1 (Value.pointer (some ⟨g0, 0, none⟩)) (vi x2) (Value.pointer (some ⟨g_2, 0, none⟩)) w R E := by
   intro cp0j1 H w I h
   unfold F92_j1
   intro _
   unfold T_gnomon_gnomonref3_walk_stmt_j1 at h
   have hj2 : ∀ (cp0j2 : Tgnomonref3_walk) (H : Hp) (w : World) (_ : Inv w0 ps0 H0 H [bx g0 99 (cs_gnomonref3_walk cp0j2), bx g_2 88 (cs_api_Stmt x1)] w) (_ : T_gnomon_gnomonref3_walk_stmt_j2 x2 cp0j2 x1 H K), F92_j2 (Value.pointer (some ⟨g0, 0, none⟩)) (vi x2) (Value.pointer (some ⟨g_2, 0, none⟩)) w R E := by
    intro cp0j2 H w I h
    unfold F92_j2
    intro _
    unfold T_gnomon_gnomonref3_walk_stmt_j2 at h
    have hj3 : ∀ (cp0j3 : Tgnomonref3_walk) (H : Hp) (w : World) (_ : Inv w0 ps0 H0 H [bx g0 99 (cs_gnomonref3_walk cp0j3), bx g_2 88 (cs_api_Stmt x1)] w) (_ : T_gnomon_gnomonref3_walk_stmt_j3 x2 cp0j3 x1 H K), F92_j3 (Value.pointer (some ⟨g0, 0, none⟩)) (vi x2) (Value.pointer (some ⟨g_2, 0, none⟩)) w R E := by
     intro cp0j3 H w I h
     unfold F92_j3
     intro _
     unfold T_gnomon_gnomonref3_walk_stmt_j3 at h
     obtain ⟨J_105, m_106, i_107, b_108⟩ := h
     refine xloop_J (J := fun n l w => ∃ (s : Int × Tgnomonref3_walk) (H : Hp) , n = m_106 s ∧ l = (match s with | (s9l4, cp0l4) => [(vi s9l4)]) ∧ (match s with | (s9l4, cp0l4) => Inv w0 ps0 H0 H [bx g0 99 (cs_gnomonref3_walk cp0l4), bx g_2 88 (cs_api_Stmt x1)] w) ∧ J_105 s H) ⟨_, (0, cp0j3), H, rfl, rfl, ((I.bring 1).bring 1), i_107⟩ ?_
     rintro n_109 τ_110 w next4 ⟨⟨s9l4, cp0l4⟩, H, rfl, l_111, I, s_112⟩ hn4
     dsimp only at l_111 I
     simp only [List.map_cons, List.map_nil, List.cons.injEq, and_true] at l_111
     have e9 := l_111
     simp only [e9]
     obtain ⟨n4, hm4, h⟩ : ∃ n4 : (Int × Tgnomonref3_walk) → Hp → Prop, (∀ s' H', n4 s' H' → J_105 s' H' ∧ m_106 s' < m_106 (s9l4, cp0l4)) ∧ T_gnomon_gnomonref3_walk_stmt_l4 x2 x1 s9l4 cp0l4 H n4 K := ⟨_, fun _ _ h => h, b_108 (s9l4, cp0l4) H (fun s' H' => J_105 s' H' ∧ m_106 s' < m_106 (s9l4, cp0l4)) s_112 (fun _ _ a b => ⟨a, b⟩)⟩
     unfold F92_l4
     unfold T_gnomon_gnomonref3_walk_stmt_l4 at h
     refine opK_pu pu_fa_88_5 ?_
     refine opK_ld (ld1 Tryd.isAgg23 ((I.bring 1).at1 (o := 5) (vs := [(vs x1.fElse)]) (nb rfl) rfl)) ?_
     refine opK_pu (pu_len_23 _ _ _) ?_
     refine opK_pu (pu_lss _ _ _ _ _ _) ?_
     try simp only [gval_b]
     refine opK_pu (Pu.g fun hb => by have hb_0 := hb; first | exact (pu_nilp _) | (simp only [gv_t hb_0]; exact (pu_nilp _)) | (simp only [gval_t hb_0, gv_t hb_0, gv_t hb, gva_tf hb_0, gv_n]; exact (pu_nilp _))) ?_
     refine opK_pu (Pu.g fun hb => by have hb_0 := hb; first | exact pu_fa_99_2 | (simp only [gv_t hb_0]; exact pu_fa_99_2) | (simp only [gval_t hb_0, gv_t hb_0, gv_t hb, gva_tf hb_0, gv_n]; exact pu_fa_99_2)) ?_
     refine opK_ld (Ld.g fun hb => by have hb_0 := hb; first | exact (ld1 Tryd.isAgg3 (I.at1 (o := 2) (vs := [(vi cp0l4.fbad)]) (nb rfl) rfl)) | (simp only [gv_t hb_0]; exact (ld1 Tryd.isAgg3 (I.at1 (o := 2) (vs := [(vi cp0l4.fbad)]) (nb rfl) rfl))) | (simp only [gval_t hb_0, gv_t hb_0, gv_t hb, gva_tf hb_0, gv_n]; exact (ld1 Tryd.isAgg3 (I.at1 (o := 2) (vs := [(vi cp0l4.fbad)]) (nb rfl) rfl)))) ?_
     refine opK_pu (Pu.g fun hb => by have hb_0 := hb; first | exact (pu_eql _ _ _ _ _ _) | (simp only [gv_t hb_0]; exact (pu_eql _ _ _ _ _ _)) | (simp only [gval_t hb_0, gv_t hb_0, gv_t hb, gva_tf hb_0, gv_n]; exact (pu_eql _ _ _ _ _ _))) ?_
     refine opK_pu (pu_and _ _) ?_
     refine xcond_b (fun c_104 => ?_) (fun c_104 => ?_)
     ·replace h := h.1 c_104
      refine opK_pu pu_fa_88_5 ?_
      refine opK_ld (ld1 Tryd.isAgg23 ((I.bring 1).at1 (o := 5) (vs := [(vs x1.fElse)]) (nb rfl) rfl)) ?_
      obtain ⟨h_91, h_92, x_88, h_94, h⟩ := h
      obtain ⟨g_89, o_90, h_93, h_94⟩ := h_94
      refine opK_pu (pu_ix_23 h_93 _ _ _ _ h_91 h_92) ?_
      refine opK_ld (ldA (vs := (cs_api_Stmt x_88)) Tryd.isAgg88 Tryd.sizeOf88 rfl (I.atH h_94)) ?_
      refine opK_pu (pu_add _ _ _ _ _ _) ?_
      refine opK_calls (cap := []) (fun args w => Tryd.call92 args w) ?_
      refine Cv_ct (Fi := [bx g0 99 (cs_gnomonref3_walk cp0l4)]) (Fr := [bx g_2 88 (cs_api_Stmt x1)]) I (h g0) (fun v_99 H_95 F_100 w_96 I_97 l_102 k_98 q_101 => ?_) (fun _ _ _ _ _ q => q.elim)
      obtain ⟨y0_103, rfl, rfl, h⟩ := q_101
      refine opK_pu (pu_add _ _ _ _ _ _) ?_
      exact hn4 _ _ _ (hm4 _ _ h).2 ⟨((IntKind.wrap .i64 (s9l4 + 1)), y0_103), H_95, rfl, rfl, ((I_97.bring 1).bring 1), (hm4 _ _ h).1⟩
     ·replace h := h.2 c_104
      exact hR cp0l4 H _ (I.bring 1).drop h
    refine xcut_i fun j3 hx3 => ?_
    obtain ⟨J_139, m_140, i_141, b_142⟩ := h
    refine xloop_J (J := fun n l w => ∃ (s : Int × Tgnomonref3_walk) (H : Hp) , n = m_140 s ∧ l = (match s with | (s8l5, cp0l5) => [(vi s8l5)]) ∧ (match s with | (s8l5, cp0l5) => Inv w0 ps0 H0 H [bx g0 99 (cs_gnomonref3_walk cp0l5), bx g_2 88 (cs_api_Stmt x1)] w) ∧ J_139 s H) ⟨_, (0, cp0j2), H, rfl, rfl, ((I.bring 1).bring 1), i_141⟩ ?_
    rintro n_143 τ_144 w next5 ⟨⟨s8l5, cp0l5⟩, H, rfl, l_145, I, s_146⟩ hn5
    dsimp only at l_145 I
    simp only [List.map_cons, List.map_nil, List.cons.injEq, and_true] at l_145
    have e8 := l_145
    simp only [e8]
    obtain ⟨n5, hm5, h⟩ : ∃ n5 : (Int × Tgnomonref3_walk) → Hp → Prop, (∀ s' H', n5 s' H' → J_139 s' H' ∧ m_140 s' < m_140 (s8l5, cp0l5)) ∧ T_gnomon_gnomonref3_walk_stmt_l5 x2 x1 s8l5 cp0l5 H n5 K := ⟨_, fun _ _ h => h, b_142 (s8l5, cp0l5) H (fun s' H' => J_139 s' H' ∧ m_140 s' < m_140 (s8l5, cp0l5)) s_146 (fun _ _ a b => ⟨a, b⟩)⟩
    unfold F92_l5
    unfold T_gnomon_gnomonref3_walk_stmt_l5 at h
    refine opK_pu pu_fa_88_4 ?_
    refine opK_ld (ld1 Tryd.isAgg23 ((I.bring 1).at1 (o := 4) (vs := [(vs x1.fThen)]) (nb rfl) rfl)) ?_
    refine opK_pu (pu_len_23 _ _ _) ?_
    refine opK_pu (pu_lss _ _ _ _ _ _) ?_
    try simp only [gval_b]
    refine opK_pu (Pu.g fun hb => by have hb_0 := hb; first | exact (pu_nilp _) | (simp only [gv_t hb_0]; exact (pu_nilp _)) | (simp only [gval_t hb_0, gv_t hb_0, gv_t hb, gva_tf hb_0, gv_n]; exact (pu_nilp _))) ?_
    refine opK_pu (Pu.g fun hb => by have hb_0 := hb; first | exact pu_fa_99_2 | (simp only [gv_t hb_0]; exact pu_fa_99_2) | (simp only [gval_t hb_0, gv_t hb_0, gv_t hb, gva_tf hb_0, gv_n]; exact pu_fa_99_2)) ?_
    refine opK_ld (Ld.g fun hb => by have hb_0 := hb; first | exact (ld1 Tryd.isAgg3 (I.at1 (o := 2) (vs := [(vi cp0l5.fbad)]) (nb rfl) rfl)) | (simp only [gv_t hb_0]; exact (ld1 Tryd.isAgg3 (I.at1 (o := 2) (vs := [(vi cp0l5.fbad)]) (nb rfl) rfl))) | (simp only [gval_t hb_0, gv_t hb_0, gv_t hb, gva_tf hb_0, gv_n]; exact (ld1 Tryd.isAgg3 (I.at1 (o := 2) (vs := [(vi cp0l5.fbad)]) (nb rfl) rfl)))) ?_
    refine opK_pu (Pu.g fun hb => by have hb_0 := hb; first | exact (pu_eql _ _ _ _ _ _) | (simp only [gv_t hb_0]; exact (pu_eql _ _ _ _ _ _)) | (simp only [gval_t hb_0, gv_t hb_0, gv_t hb, gva_tf hb_0, gv_n]; exact (pu_eql _ _ _ _ _ _))) ?_
    refine opK_pu (pu_and _ _) ?_
    refine xcond_b (fun c_138 => ?_) (fun c_138 => ?_)
    ·replace h := h.1 c_138
     refine opK_pu pu_fa_88_4 ?_
     refine opK_ld (ld1 Tryd.isAgg23 ((I.bring 1).at1 (o := 4) (vs := [(vs x1.fThen)]) (nb rfl) rfl)) ?_
     obtain ⟨h_125, h_126, x_122, h_128, h⟩ := h
     obtain ⟨g_123, o_124, h_127, h_128⟩ := h_128
     refine opK_pu (pu_ix_23 h_127 _ _ _ _ h_125 h_126) ?_
     refine opK_ld (ldA (vs := (cs_api_Stmt x_122)) Tryd.isAgg88 Tryd.sizeOf88 rfl (I.atH h_128)) ?_
     refine opK_pu (pu_add _ _ _ _ _ _) ?_
     refine opK_calls (cap := []) (fun args w => Tryd.call92 args w) ?_
     refine Cv_ct (Fi := [bx g0 99 (cs_gnomonref3_walk cp0l5)]) (Fr := [bx g_2 88 (cs_api_Stmt x1)]) I (h g0) (fun v_133 H_129 F_134 w_130 I_131 l_136 k_132 q_135 => ?_) (fun _ _ _ _ _ q => q.elim)
     obtain ⟨y0_137, rfl, rfl, h⟩ := q_135
     refine opK_pu (pu_add _ _ _ _ _ _) ?_
     exact hn5 _ _ _ (hm5 _ _ h).2 ⟨((IntKind.wrap .i64 (s8l5 + 1)), y0_137), H_129, rfl, rfl, ((I_131.bring 1).bring 1), (hm5 _ _ h).1⟩
    ·replace h := h.2 c_138
     exact hx3 _ _ (hj3 cp0l5 H _ ((I.bring 1).bring 1) h)
   refine xcut_i fun j2 hx2 => ?_
   obtain ⟨J_173, m_174, i_175, b_176⟩ := h
   refine xloop_J (J := fun n l w => ∃ (s : Int × Tgnomonref3_walk) (H : Hp) , n = m_174 s ∧ l = (match s with | (s7l6, cp0l6) => [(vi s7l6)]) ∧ (match s with | (s7l6, cp0l6) => Inv w0 ps0 H0 H [bx g0 99 (cs_gnomonref3_walk cp0l6), bx g_2 88 (cs_api_Stmt x1)] w) ∧ J_173 s H) ⟨_, (0, cp0j1), H, rfl, rfl, ((I.bring 1).bring 1), i_175⟩ ?_
   rintro n_177 τ_178 w next6 ⟨⟨s7l6, cp0l6⟩, H, rfl, l_179, I, s_180⟩ hn6
   dsimp only at l_179 I
   simp only [List.map_cons, List.map_nil, List.cons.injEq, and_true] at l_179
   have e7 := l_179
   simp only [e7]
   obtain ⟨n6, hm6, h⟩ : ∃ n6 : (Int × Tgnomonref3_walk) → Hp → Prop, (∀ s' H', n6 s' H' → J_173 s' H' ∧ m_174 s' < m_174 (s7l6, cp0l6)) ∧ T_gnomon_gnomonref3_walk_stmt_l6 x2 x1 s7l6 cp0l6 H n6 K := ⟨_, fun _ _ h => h, b_176 (s7l6, cp0l6) H (fun s' H' => J_173 s' H' ∧ m_174 s' < m_174 (s7l6, cp0l6)) s_180 (fun _ _ a b => ⟨a, b⟩)⟩
   unfold F92_l6
   unfold T_gnomon_gnomonref3_walk_stmt_l6 at h
   refine opK_pu pu_fa_88_2 ?_
   refine opK_ld (ld1 Tryd.isAgg28 ((I.bring 1).at1 (o := 2) (vs := [(vs x1.fExprs)]) (nb rfl) rfl)) ?_
   refine opK_pu (pu_len_28 _ _ _) ?_
   refine opK_pu (pu_lss _ _ _ _ _ _) ?_
   try simp only [gval_b]
   refine opK_pu (Pu.g fun hb => by have hb_0 := hb; first | exact (pu_nilp _) | (simp only [gv_t hb_0]; exact (pu_nilp _)) | (simp only [gval_t hb_0, gv_t hb_0, gv_t hb, gva_tf hb_0, gv_n]; exact (pu_nilp _))) ?_
   refine opK_pu (Pu.g fun hb => by have hb_0 := hb; first | exact pu_fa_99_2 | (simp only [gv_t hb_0]; exact pu_fa_99_2) | (simp only [gval_t hb_0, gv_t hb_0, gv_t hb, gva_tf hb_0, gv_n]; exact pu_fa_99_2)) ?_
   refine opK_ld (Ld.g fun hb => by have hb_0 := hb; first | exact (ld1 Tryd.isAgg3 (I.at1 (o := 2) (vs := [(vi cp0l6.fbad)]) (nb rfl) rfl)) | (simp only [gv_t hb_0]; exact (ld1 Tryd.isAgg3 (I.at1 (o := 2) (vs := [(vi cp0l6.fbad)]) (nb rfl) rfl))) | (simp only [gval_t hb_0, gv_t hb_0, gv_t hb, gva_tf hb_0, gv_n]; exact (ld1 Tryd.isAgg3 (I.at1 (o := 2) (vs := [(vi cp0l6.fbad)]) (nb rfl) rfl)))) ?_
   refine opK_pu (Pu.g fun hb => by have hb_0 := hb; first | exact (pu_eql _ _ _ _ _ _) | (simp only [gv_t hb_0]; exact (pu_eql _ _ _ _ _ _)) | (simp only [gval_t hb_0, gv_t hb_0, gv_t hb, gva_tf hb_0, gv_n]; exact (pu_eql _ _ _ _ _ _))) ?_
   refine opK_pu (pu_and _ _) ?_
   refine xcond_b (fun c_172 => ?_) (fun c_172 => ?_)
   ·replace h := h.1 c_172
    refine opK_pu pu_fa_88_2 ?_
    refine opK_ld (ld1 Tryd.isAgg28 ((I.bring 1).at1 (o := 2) (vs := [(vs x1.fExprs)]) (nb rfl) rfl)) ?_
    obtain ⟨h_159, h_160, x_156, h_162, h⟩ := h
    obtain ⟨g_157, o_158, h_161, h_162⟩ := h_162
    refine opK_pu (pu_ix_28 h_161 _ _ _ _ h_159 h_160) ?_
    refine opK_ld (ldA (vs := (cs_api_Expr x_156)) Tryd.isAgg30 Tryd.sizeOf30 rfl (I.atH h_162)) ?_
    refine opK_pu (pu_add _ _ _ _ _ _) ?_
    refine opK_calls (cap := []) (fun args w => Tryd.call58 args w) ?_
    refine Cv_ct (Fi := [bx g0 99 (cs_gnomonref3_walk cp0l6)]) (Fr := [bx g_2 88 (cs_api_Stmt x1)]) I (h g0) (fun v_167 H_163 F_168 w_164 I_165 l_170 k_166 q_169 => ?_) (fun _ _ _ _ _ q => q.elim)
    obtain ⟨y0_171, rfl, rfl, h⟩ := q_169
    refine opK_pu (pu_add _ _ _ _ _ _) ?_
    exact hn6 _ _ _ (hm6 _ _ h).2 ⟨((IntKind.wrap .i64 (s7l6 + 1)), y0_171), H_163, rfl, rfl, ((I_165.bring 1).bring 1), (hm6 _ _ h).1⟩
   ·replace h := h.2 c_172
    exact hx2 _ _ (hj2 cp0l6 H _ ((I.bring 1).bring 1) h)
  refine xcut_i fun j1 hx1 => ?_
  obtain ⟨J_207, m_208, i_209, b_210⟩ := h
  refine xloop_J (J := fun n l w => ∃ (s : Int × Tgnomonref3_walk) (H : Hp) , n = m_208 s ∧ l = (match s with | (s6l7, cp0l7) => [(vi s6l7)]) ∧ (match s with | (s6l7, cp0l7) => Inv w0 ps0 H0 H [bx g0 99 (cs_gnomonref3_walk cp0l7), bx g_2 88 (cs_api_Stmt x1)] w) ∧ J_207 s H) ⟨_, (0, y0_14), H_6, rfl, rfl, ((I_8.bring 1).bring 1), i_209⟩ ?_
  rintro n_211 τ_212 w next7 ⟨⟨s6l7, cp0l7⟩, H, rfl, l_213, I, s_214⟩ hn7
  dsimp only at l_213 I
  simp only [List.map_cons, List.map_nil, List.cons.injEq, and_true] at l_213
  have e6 := l_213
  simp only [e6]
  obtain ⟨n7, hm7, h⟩ : ∃ n7 : (Int × Tgnomonref3_walk) → Hp → Prop, (∀ s' H', n7 s' H' → J_207 s' H' ∧ m_208 s' < m_208 (s6l7, cp0l7)) ∧ T_gnomon_gnomonref3_walk_stmt_l7 x2 x1 s6l7 cp0l7 H n7 K := ⟨_, fun _ _ h => h, b_210 (s6l7, cp0l7) H (fun s' H' => J_207 s' H' ∧ m_208 s' < m_208 (s6l7, cp0l7)) s_214 (fun _ _ a b => ⟨a, b⟩)⟩
  unfold F92_l7
  unfold T_gnomon_gnomonref3_walk_stmt_l7 at h
  refine opK_pu pu_fa_88_3 ?_
  refine opK_ld (ld1 Tryd.isAgg31 ((I.bring 1).at1 (o := 3) (vs := [(vs x1.fConds)]) (nb rfl) rfl)) ?_
  refine opK_pu (pu_len_31 _ _ _) ?_
  refine opK_pu (pu_lss _ _ _ _ _ _) ?_
  try simp only [gval_b]
  refine opK_pu (Pu.g fun hb => by have hb_0 := hb; first | exact (pu_nilp _) | (simp only [gv_t hb_0]; exact (pu_nilp _)) | (simp only [gval_t hb_0, gv_t hb_0, gv_t hb, gva_tf hb_0, gv_n]; exact (pu_nilp _))) ?_
  refine opK_pu (Pu.g fun hb => by have hb_0 := hb; first | exact pu_fa_99_2 | (simp only [gv_t hb_0]; exact pu_fa_99_2) | (simp only [gval_t hb_0, gv_t hb_0, gv_t hb, gva_tf hb_0, gv_n]; exact pu_fa_99_2)) ?_
  refine opK_ld (Ld.g fun hb => by have hb_0 := hb; first | exact (ld1 Tryd.isAgg3 (I.at1 (o := 2) (vs := [(vi cp0l7.fbad)]) (nb rfl) rfl)) | (simp only [gv_t hb_0]; exact (ld1 Tryd.isAgg3 (I.at1 (o := 2) (vs := [(vi cp0l7.fbad)]) (nb rfl) rfl))) | (simp only [gval_t hb_0, gv_t hb_0, gv_t hb, gva_tf hb_0, gv_n]; exact (ld1 Tryd.isAgg3 (I.at1 (o := 2) (vs := [(vi cp0l7.fbad)]) (nb rfl) rfl)))) ?_
  refine opK_pu (Pu.g fun hb => by have hb_0 := hb; first | exact (pu_eql _ _ _ _ _ _) | (simp only [gv_t hb_0]; exact (pu_eql _ _ _ _ _ _)) | (simp only [gval_t hb_0, gv_t hb_0, gv_t hb, gva_tf hb_0, gv_n]; exact (pu_eql _ _ _ _ _ _))) ?_
  refine opK_pu (pu_and _ _) ?_
  refine xcond_b (fun c_206 => ?_) (fun c_206 => ?_)
  ·replace h := h.1 c_206
   refine opK_pu pu_fa_88_3 ?_
   refine opK_ld (ld1 Tryd.isAgg31 ((I.bring 1).at1 (o := 3) (vs := [(vs x1.fConds)]) (nb rfl) rfl)) ?_
   obtain ⟨h_193, h_194, x_190, h_196, h⟩ := h
   obtain ⟨g_191, o_192, h_195, h_196⟩ := h_196
   refine opK_pu (pu_ix_31 h_195 _ _ _ _ h_193 h_194) ?_
   refine opK_ld (ldA (vs := (cs_api_Cond x_190)) Tryd.isAgg33 Tryd.sizeOf33 rfl (I.atH h_196)) ?_
   refine opK_pu (pu_add _ _ _ _ _ _) ?_
   refine opK_calls (cap := []) (fun args w => Tryd.call61 args w) ?_
   refine Cv_ct (Fi := [bx g0 99 (cs_gnomonref3_walk cp0l7)]) (Fr := [bx g_2 88 (cs_api_Stmt x1)]) I (h g0) (fun v_201 H_197 F_202 w_198 I_199 l_204 k_200 q_203 => ?_) (fun _ _ _ _ _ q => q.elim)
   obtain ⟨y0_205, rfl, rfl, h⟩ := q_203
   refine opK_pu (pu_add _ _ _ _ _ _) ?_
   exact hn7 _ _ _ (hm7 _ _ h).2 ⟨((IntKind.wrap .i64 (s6l7 + 1)), y0_205), H_197, rfl, rfl, ((I_199.bring 1).bring 1), (hm7 _ _ h).1⟩
  ·replace h := h.2 c_206
   exact hx1 _ _ (hj1 cp0l7 H _ ((I.bring 1).bring 1) h)
theorem L_gnomon_gnomonref3_walk_stmt (x0 : Tgnomonref3_walk) (x1 : Tapi_Stmt) (x2 : Int) {H : Hp} {K : Tgnomonref3_walk → Hp → Prop} (h : T_gnomon_gnomonref3_walk_stmt x0 x1 x2 H K) : C_gnomon_gnomonref3_walk_stmt x0 x1 x2 H K := by
 intro g0 w I
 refine F92_ok ?_
 refine LF_gnomon_gnomonref3_walk_stmt x0 x1 x2 g0 I (fun y0 H' w' I' hk => ⟨H', _, I', y0, rfl, rfl, hk⟩) h


/- function 88: gnomon/gnomonref3.SameExpr -/
def T_gnomon_gnomonref3_SameExpr_j1 (_cr_6j1 : Tapi_Expr) (_cr_1j1 : Tapi_Expr) (H : Hp) (K : Bool → Hp → Prop) : Prop :=
 K true H
def T_gnomon_gnomonref3_SameExpr_l2 (cr_6l2 : Tapi_Expr) (cr_1l2 : Tapi_Expr) (s5l2 : Int) (H : Hp) (n2 : Int → Hp → Prop) (K : Bool → Hp → Prop) : Prop :=
 (s5l2 < (cr_1l2.fArgs.n : Int) →
 (0 : Int) ≤ s5l2 ∧ (s5l2 : Int) < cr_1l2.fArgs.n ∧ ∃ x_13 : Tapi_Expr, EltH H cr_1l2.fArgs s5l2 4 (cs_api_Expr x_13) ∧ 
 (0 : Int) ≤ s5l2 ∧ (s5l2 : Int) < cr_6l2.fArgs.n ∧ ∃ x_20 : Tapi_Expr, EltH H cr_6l2.fArgs s5l2 4 (cs_api_Expr x_20) ∧ 
 C_gnomon_gnomonref3_SameExpr x_13 x_20 H (fun (r0_35 : Bool) (H_27 : Hp) => 
 ((!r0_35) = true →
 K false H_27) ∧
 ((!r0_35) = false →
 n2 (IntKind.wrap .i64 (s5l2 + 1)) H_27))) ∧
 (¬ (s5l2 < (cr_1l2.fArgs.n : Int)) →
 T_gnomon_gnomonref3_SameExpr_j1 cr_6l2 cr_1l2 H K)
def T_gnomon_gnomonref3_SameExpr (x0 : Tapi_Expr) (x1 : Tapi_Expr) (H : Hp) (K : Bool → Hp → Prop) : Prop :=
 (((((!decide (x0.fKind = x1.fKind)) || (!decide (x0.fNum = x1.fNum))) || (!decide (x0.fName = x1.fName))) || (!decide ((x0.fArgs.n : Int) = (x1.fArgs.n : Int)))) = true →
 K false H) ∧
 (((((!decide (x0.fKind = x1.fKind)) || (!decide (x0.fNum = x1.fNum))) || (!decide (x0.fName = x1.fName))) || (!decide ((x0.fArgs.n : Int) = (x1.fArgs.n : Int)))) = false →
 TL (0 : Int) H fun (s : Int) H n2 => T_gnomon_gnomonref3_SameExpr_l2 x1 x0 s H n2 K)
theorem LF_gnomon_gnomonref3_SameExpr (x0 : Tapi_Expr) (x1 : Tapi_Expr) {w0 w : World} {ps0 : Nat → Prop} {H0 H : Hp} {K : Bool → Hp → Prop} {R : Value → World → Prop} {E : Pan} (I : Inv w0 ps0 H0 H [] w) (hR : ∀ (r0 : Bool) (H' : Hp) (w' : World) (_ : Inv w0 ps0 H0 H' [] w') (_ : K r0 H'), R (Value.bool r0) w') (h : T_gnomon_gnomonref3_SameExpr x0 x1 H K) : F88 (Value.agg (cs_api_Expr x0).toArray) (Value.agg (cs_api_Expr x1).toArray) w R E := by
 unfold T_gnomon_gnomonref3_SameExpr at h
 unfold F88
 refine s_box I (cs := (cs_api_Expr x0)) rfl fun g_2 w_3 I_4 k_5 => ?_
 refine s_box I_4 (cs := (cs_api_Expr x1)) rfl fun g_7 w_8 I_9 k_10 => ?_
 refine opK_pu pu_fa_30_0 ?_
 refine opK_ld (ld1 Tryd.isAgg3 ((I_9.bring 1).at1 (o := 0) (vs := [(vi x0.fKind)]) (nb rfl) rfl)) ?_
 refine opK_pu pu_fa_30_0 ?_
 refine opK_ld (ld1 Tryd.isAgg3 (I_9.at1 (o := 0) (vs := [(vi x1.fKind)]) (nb rfl) rfl)) ?_
 refine opK_pu (pu_neq _ _ _ _ _ _) ?_
 refine opK_pu (Pu.g fun hb => by have hb_0 := hb; first | exact pu_fa_30_1 | (simp only [gval_t hb_0, gv_t hb_0, gv_t hb, gva_ft hb_0]; exact pu_fa_30_1) | (simp only [gval_t hb_0, gv_t hb_0, gv_t hb, gva_ff hb_0, gv_n]; exact pu_fa_30_1)) ?_
 refine opK_ld (Ld.g fun hb => by have hb_0 := hb; first | exact (ld1 Tryd.isAgg2 ((I_9.bring 1).at1 (o := 1) (vs := [(vi x0.fNum)]) (nb rfl) rfl)) | (simp only [gv_t hb_0]; exact (ld1 Tryd.isAgg2 ((I_9.bring 1).at1 (o := 1) (vs := [(vi x0.fNum)]) (nb rfl) rfl))) | (simp only [gval_t hb_0, gv_t hb_0, gv_t hb, gva_ff hb_0, gv_n]; exact (ld1 Tryd.isAgg2 ((I_9.bring 1).at1 (o := 1) (vs := [(vi x0.fNum)]) (nb rfl) rfl)))) ?_
 refine opK_pu (Pu.g fun hb => by have hb_0 := hb; first | exact pu_fa_30_1 | (simp only [gval_t hb_0, gv_t hb_0, gv_t hb, gva_ft hb_0]; exact pu_fa_30_1) | (simp only [gval_t hb_0, gv_t hb_0, gv_t hb, gva_ff hb_0, gv_n]; exact pu_fa_30_1)) ?_
 refine opK_ld (Ld.g fun hb => by have hb_0 := hb; first | exact (ld1 Tryd.isAgg2 (I_9.at1 (o := 1) (vs := [(vi x1.fNum)]) (nb rfl) rfl)) | (simp only [gv_t hb_0]; exact (ld1 Tryd.isAgg2 (I_9.at1 (o := 1) (vs := [(vi x1.fNum)]) (nb rfl) rfl))) | (simp only [gval_t hb_0, gv_t hb_0, gv_t hb, gva_ff hb_0, gv_n]; exact (ld1 Tryd.isAgg2 (I_9.at1 (o := 1) (vs := [(vi x1.fNum)]) (nb rfl) rfl)))) ?_
 refine opK_pu (Pu.g fun hb => by have hb_0 := hb; first | exact (pu_neq _ _ _ _ _ _) | (simp only [gv_t hb_0]; exact (pu_neq _ _ _ _ _ _)) | (simp only [gval_t hb_0, gv_t hb_0, gv_t hb, gva_ff hb_0, gv_n]; exact (pu_neq _ _ _ _ _ _))) ?_
 refine opK_pu (pu_or _ _) ?_
 refine opK_pu (Pu.g fun hb => by have hb_0 := hb; first | exact pu_fa_30_2 | (simp only [gval_t hb_0, gv_t hb_0, gv_t hb, gva_ft hb_0]; exact pu_fa_30_2) | (simp only [gval_t hb_0, gv_t hb_0, gv_t hb, gva_ff hb_0, gv_n]; exact pu_fa_30_2)) ?_
 refine opK_ld (Ld.g fun hb => by have hb_0 := hb; first | exact (ld1 Tryd.isAgg9 ((I_9.bring 1).at1 (o := 2) (vs := [(Value.string x0.fName)]) (nb rfl) rfl)) | (simp only [gv_t hb_0]; exact (ld1 Tryd.isAgg9 ((I_9.bring 1).at1 (o := 2) (vs := [(Value.string x0.fName)]) (nb rfl) rfl))) | (simp only [gval_t hb_0, gv_t hb_0, gv_t hb, gva_ff hb_0, gv_n]; exact (ld1 Tryd.isAgg9 ((I_9.bring 1).at1 (o := 2) (vs := [(Value.string x0.fName)]) (nb rfl) rfl)))) ?_
 refine opK_pu (Pu.g fun hb => by have hb_0 := hb; first | exact pu_fa_30_2 | (simp only [gval_t hb_0, gv_t hb_0, gv_t hb, gva_ft hb_0]; exact pu_fa_30_2) | (simp only [gval_t hb_0, gv_t hb_0, gv_t hb, gva_ff hb_0, gv_n]; exact pu_fa_30_2)) ?_
 refine opK_ld (Ld.g fun hb => by have hb_0 := hb; first | exact (ld1 Tryd.isAgg9 (I_9.at1 (o := 2) (vs := [(Value.string x1.fName)]) (nb rfl) rfl)) | (simp only [gv_t hb_0]; exact (ld1 Tryd.isAgg9 (I_9.at1 (o := 2) (vs := [(Value.string x1.fName)]) (nb rfl) rfl))) | (simp only [gval_t hb_0, gv_t hb_0, gv_t hb, gva_ff hb_0, gv_n]; exact (ld1 Tryd.isAgg9 (I_9.at1 (o := 2) (vs := [(Value.string x1.fName)]) (nb rfl) rfl)))) ?_
 refine opK_pu (Pu.g fun hb => by have hb_0 := hb; first | exact (pu_nes _ _ _ _ _) | (simp only [gv_t hb_0]; exact (pu_nes _ _ _ _ _)) | (simp only [gval_t hb_0, gv_t hb_0, gv_t hb, gva_ff hb_0, gv_n]; exact (pu_nes _ _ _ _ _))) ?_
 refine opK_pu (pu_or _ _) ?_
 refine opK_pu (Pu.g fun hb => by have hb_0 := hb; first | exact pu_fa_30_3 | (simp only [gval_t hb_0, gv_t hb_0, gv_t hb, gva_ft hb_0]; exact pu_fa_30_3) | (simp only [gval_t hb_0, gv_t hb_0, gv_t hb, gva_ff hb_0, gv_n]; exact pu_fa_30_3)) ?_
 refine opK_ld (Ld.g fun hb => by have hb_0 := hb; first | exact (ld1 Tryd.isAgg28 ((I_9.bring 1).at1 (o := 3) (vs := [(vs x0.fArgs)]) (nb rfl) rfl)) | (simp only [gv_t hb_0]; exact (ld1 Tryd.isAgg28 ((I_9.bring 1).at1 (o := 3) (vs := [(vs x0.fArgs)]) (nb rfl) rfl))) | (simp only [gval_t hb_0, gv_t hb_0, gv_t hb, gva_ff hb_0, gv_n]; exact (ld1 Tryd.isAgg28 ((I_9.bring 1).at1 (o := 3) (vs := [(vs x0.fArgs)]) (nb rfl) rfl)))) ?_
 refine opK_pu (Pu.g fun hb => by have hb_0 := hb; first | exact (pu_len_28 _ _ _) | (simp only [gv_t hb_0]; exact (pu_len_28 _ _ _)) | (simp only [gval_t hb_0, gv_t hb_0, gv_t hb, gva_ff hb_0, gv_n]; exact (pu_len_28 _ _ _))) ?_
 refine opK_pu (Pu.g fun hb => by have hb_0 := hb; first | exact pu_fa_30_3 | (simp only [gval_t hb_0, gv_t hb_0, gv_t hb, gva_ft hb_0]; exact pu_fa_30_3) | (simp only [gval_t hb_0, gv_t hb_0, gv_t hb, gva_ff hb_0, gv_n]; exact pu_fa_30_3)) ?_
 refine opK_ld (Ld.g fun hb => by have hb_0 := hb; first | exact (ld1 Tryd.isAgg28 (I_9.at1 (o := 3) (vs := [(vs x1.fArgs)]) (nb rfl) rfl)) | (simp only [gv_t hb_0]; exact (ld1 Tryd.isAgg28 (I_9.at1 (o := 3) (vs := [(vs x1.fArgs)]) (nb rfl) rfl))) | (simp only [gval_t hb_0, gv_t hb_0, gv_t hb, gva_ff hb_0, gv_n]; exact (ld1 Tryd.isAgg28 (I_9.at1 (o := 3) (vs := [(vs x1.fArgs)]) (nb rfl) rfl)))) ?_
 refine opK_pu (Pu.g fun hb => by have hb_0 := hb; first | exact (pu_len_28 _ _ _) | (simp only [gv_t hb_0]; exact (pu_len_28 _ _ _)) | (simp only [gval_t hb_0, gv_t hb_0, gv_t hb, gva_ff hb_0, gv_n]; exact (pu_len_28 _ _ _))) ?_
 refine opK_pu (Pu.g fun hb => by have hb_0 := hb; first | exact (pu_neq _ _ _ _ _ _) | (simp only [gv_t hb_0]; exact (pu_neq _ _ _ _ _ _)) | (simp only [gval_t hb_0, gv_t hb_0, gv_t hb, gva_ff hb_0, gv_n]; exact (pu_neq _ _ _ _ _ _))) ?_
 refine opK_pu (pu_or _ _) ?_
 refine xcond_b (fun c_46 => ?_) (fun c_46 => ?_)
 ·replace h := h.1 c_46
  exact hR false H _ I_9.drop.drop h
 ·replace h := h.2 c_46
  have hj1 : ∀ (H : Hp) (w : World) (_ : Inv w0 ps0 H0 H [bx g_7 30 (cs_api_Expr x1), bx g_2 30 (cs_api_Expr x0)] w) (_ : T_gnomon_gnomonref3_SameExpr_j1 x1 x0 H K), F88_j1 w R E := by
   intro H w I h
   unfold F88_j1
   intro _
   unfold T_gnomon_gnomonref3_SameExpr_j1 at h
   exact hR true H _ I.drop.drop h
  refine xcut_i fun j1 hx1 => ?_
  obtain ⟨J_38, m_39, i_40, b_41⟩ := h
  refine xloop_J (J := fun n l w => ∃ (s : Int) (H : Hp) , n = m_39 s ∧ l = [(vi s)] ∧ Inv w0 ps0 H0 H [bx g_7 30 (cs_api_Expr x1), bx g_2 30 (cs_api_Expr x0)] w ∧ J_38 s H) ⟨_, 0, H, rfl, rfl, ((I_9.bring 1).bring 1), i_40⟩ ?_
  rintro n_42 τ_43 w next2 ⟨s5l2, H, rfl, l_44, I, s_45⟩ hn2
  simp only [List.map_cons, List.map_nil, List.cons.injEq, and_true] at l_44
  have e5 := l_44
  simp only [e5]
  obtain ⟨n2, hm2, h⟩ : ∃ n2 : Int → Hp → Prop, (∀ s' H', n2 s' H' → J_38 s' H' ∧ m_39 s' < m_39 s5l2) ∧ T_gnomon_gnomonref3_SameExpr_l2 x1 x0 s5l2 H n2 K := ⟨_, fun _ _ h => h, b_41 s5l2 H (fun s' H' => J_38 s' H' ∧ m_39 s' < m_39 s5l2) s_45 (fun _ _ a b => ⟨a, b⟩)⟩
  unfold F88_l2
  unfold T_gnomon_gnomonref3_SameExpr_l2 at h
  refine opK_pu pu_fa_30_3 ?_
  refine opK_ld (ld1 Tryd.isAgg28 ((I.bring 1).at1 (o := 3) (vs := [(vs x0.fArgs)]) (nb rfl) rfl)) ?_
  refine opK_pu (pu_len_28 _ _ _) ?_
  refine opK_pu (pu_lss _ _ _ _ _ _) ?_
  refine xcond_p (fun c_37 => ?_) (fun c_37 => ?_)
  ·replace h := h.1 c_37
   refine s_dX I fun w_11 I_12 => ?_
   refine qP_pu pu_fa_30_3 ?_
   refine qP_pu pu_fa_30_3 ?_
   refine qL_ld (ld1 Tryd.isAgg28 ((I_12.bring 1).at1 (o := 3) (vs := [(vs x0.fArgs)]) (nb rfl) rfl)) ?_
   obtain ⟨h_16, h_17, x_13, h_19, h⟩ := h
   obtain ⟨g_14, o_15, h_18, h_19⟩ := h_19
   refine qP_pu (pu_ix_28 h_18 _ _ _ _ h_16 h_17) ?_
   refine qL_ld (ldA (vs := (cs_api_Expr x_13)) Tryd.isAgg30 Tryd.sizeOf30 rfl (I_12.atH h_19)) ?_
   refine qL_ld (ld1 Tryd.isAgg28 (I_12.at1 (o := 3) (vs := [(vs x1.fArgs)]) (nb rfl) rfl)) ?_
   obtain ⟨h_23, h_24, x_20, h_26, h⟩ := h
   obtain ⟨g_21, o_22, h_25, h_26⟩ := h_26
   refine qP_pu (pu_ix_28 h_25 _ _ _ _ h_23 h_24) ?_
   refine qL_ld (ldA (vs := (cs_api_Expr x_20)) Tryd.isAgg30 Tryd.sizeOf30 rfl (I_12.atH h_26)) ?_
   refine opK_calls (cap := []) (fun args w => Tryd.call88 args w) ?_
   refine Cv_ct (Fi := []) (Fr := [bx g_7 30 (cs_api_Expr x1), bx g_2 30 (cs_api_Expr x0)]) I_12 (h) (fun v_31 H_27 F_32 w_28 I_29 l_34 k_30 q_33 => ?_) (fun _ _ _ _ _ q => q.elim)
   obtain ⟨r0_35, rfl, rfl, h⟩ := q_33
   refine qP_pu (pu_not _) ?_
   refine xcond_b (fun c_36 => ?_) (fun c_36 => ?_)
   ·replace h := h.1 c_36
    exact hR false H_27 _ I_29.drop.drop h
   ·replace h := h.2 c_36
    refine opK_pu (pu_add _ _ _ _ _ _) ?_
    exact hn2 _ _ _ (hm2 _ _ h).2 ⟨(IntKind.wrap .i64 (s5l2 + 1)), H_27, rfl, rfl, ((I_29.bring 1).bring 1), (hm2 _ _ h).1⟩
  ·replace h := h.2 c_37
   exact hx1 _ _ (hj1 H _ ((I.bring 1).bring 1) h)
theorem L_gnomon_gnomonref3_SameExpr (x0 : Tapi_Expr) (x1 : Tapi_Expr) {H : Hp} {K : Bool → Hp → Prop} (h : T_gnomon_gnomonref3_SameExpr x0 x1 H K) : C_gnomon_gnomonref3_SameExpr x0 x1 H K := by
 intro w I
 refine F88_ok ?_
 refine LF_gnomon_gnomonref3_SameExpr x0 x1 I (fun r0 H' w' I' hk => ⟨H', _, I', r0, rfl, rfl, hk⟩) h


/- function 148: (gnomon/tree.expr).form -/
def T_gnomon_tree_expr_form_j3 (s3j3 : Int) (s59j3 : Bool) (_cr_1j3 : Ttree_expr) (H : Hp) (K : Bool → Hp → Prop) : Prop :=
 (s59j3 = true →
 K (decide (s3j3 = 2)) H) ∧
 (s59j3 = false →
 K false H)
def T_gnomon_tree_expr_form_j2 (s3j2 : Int) (s38j2 : Int) (s54j2 : Bool) (cr_1j2 : Ttree_expr) (H : Hp) (K : Bool → Hp → Prop) : Prop :=
 (s54j2 = true →
 K (decide (s3j2 = 1)) H) ∧
 (s54j2 = false →
 (s38j2 = 6 →
 T_gnomon_tree_expr_form_j3 s3j2 (decide (s38j2 = 6)) cr_1j2 H K) ∧
 (¬ (s38j2 = 6) →
 (s38j2 = 7 →
 T_gnomon_tree_expr_form_j3 s3j2 (decide (s38j2 = 7)) cr_1j2 H K) ∧
 (¬ (s38j2 = 7) →
 (s38j2 = 8 →
 T_gnomon_tree_expr_form_j3 s3j2 (decide (s38j2 = 8)) cr_1j2 H K) ∧
 (¬ (s38j2 = 8) →
 (s38j2 = 9 →
 T_gnomon_tree_expr_form_j3 s3j2 (decide (s38j2 = 9)) cr_1j2 H K) ∧
 (¬ (s38j2 = 9) →
 T_gnomon_tree_expr_form_j3 s3j2 (decide (s38j2 = 10)) cr_1j2 H K)))))
def T_gnomon_tree_expr_form_j1 (s3j1 : Int) (s38j1 : Int) (s49j1 : Bool) (cr_1j1 : Ttree_expr) (H : Hp) (K : Bool → Hp → Prop) : Prop :=
 (s49j1 = true →
 K (decide (s3j1 = 0)) H) ∧
 (s49j1 = false →
 (s38j1 = 4 →
 T_gnomon_tree_expr_form_j2 s3j1 s38j1 (decide (s38j1 = 4)) cr_1j1 H K) ∧
 (¬ (s38j1 = 4) →
 T_gnomon_tree_expr_form_j2 s3j1 s38j1 (decide (s38j1 = 5)) cr_1j1 H K))
def T_gnomon_tree_expr_form (x0 : Ttree_expr) (H : Hp) (K : Bool → Hp → Prop) : Prop :=
 C_gnomon_tree_name (Itree_node.c_tree_expr x0) H (fun (_r0_14 : ByteArray) (r1_14 : Bool) (H_6 : Hp) => 
 ((((!decide (x0.fExpr.fKind = 1)) && (!decide (x0.fExpr.fNum = 0))) || ((!r1_14) && (!decide (x0.fExpr.fName = ⟨#[]⟩)))) = true →
 K false H_6) ∧
 ((((!decide (x0.fExpr.fKind = 1)) && (!decide (x0.fExpr.fNum = 0))) || ((!r1_14) && (!decide (x0.fExpr.fName = ⟨#[]⟩)))) = false →
 (x0.fExpr.fKind = 1 →
 K ((decide (0 ≤ x0.fExpr.fNum)) && (decide ((x0.fExpr.fArgs.n : Int) = 0))) H_6) ∧
 (¬ (x0.fExpr.fKind = 1) →
 (x0.fExpr.fKind = 2 →
 T_gnomon_tree_expr_form_j1 (x0.fExpr.fArgs.n : Int) x0.fExpr.fKind (decide (x0.fExpr.fKind = 2)) x0 H_6 K) ∧
 (¬ (x0.fExpr.fKind = 2) →
 T_gnomon_tree_expr_form_j1 (x0.fExpr.fArgs.n : Int) x0.fExpr.fKind (decide (x0.fExpr.fKind = 3)) x0 H_6 K))))
theorem LF_gnomon_tree_expr_form (x0 : Ttree_expr) {w0 w : World} {ps0 : Nat → Prop} {H0 H : Hp} {K : Bool → Hp → Prop} {R : Value → World → Prop} {E : Pan} (I : Inv w0 ps0 H0 H [] w) (hR : ∀ (r0 : Bool) (H' : Hp) (w' : World) (_ : Inv w0 ps0 H0 H' [] w') (_ : K r0 H'), R (Value.bool r0) w') (h : T_gnomon_tree_expr_form x0 H K) : F148 (Value.agg (cs_api_Expr x0.fExpr).toArray) w R E := by
 unfold T_gnomon_tree_expr_form at h
 unfold F148
 refine s_box I (cs := (cs_api_Expr x0.fExpr)) rfl fun g_2 w_3 I_4 k_5 => ?_
 refine opK_pu pu_fa_96_0 ?_
 refine opK_pu pu_fa_30_3 ?_
 refine opK_ld (ld1 Tryd.isAgg28 (I_4.at1 (o := 3) (vs := [(vs x0.fExpr.fArgs)]) (nb rfl) rfl)) ?_
 refine opK_pu (pu_len_28 _ _ _) ?_
 refine opK_ld (ldA Tryd.isAgg96 Tryd.sizeOf96 rfl (I_4.at1 (o := 0) (vs := (cs_api_Expr x0.fExpr)) (nb rfl) rfl)) ?_
 refine opK_pu (pu_mki_141_96 x0) ?_
 refine opK_calls (cap := []) (fun args w => Tryd.call114 args w) ?_
 refine Cv_ct (Fi := []) (Fr := [bx g_2 96 (cs_api_Expr x0.fExpr)]) I_4 (h) (fun v_10 H_6 F_11 w_7 I_8 l_13 k_9 q_12 => ?_) (fun _ _ _ _ _ q => q.elim)
 obtain ⟨r0_14, r1_14, rfl, rfl, h⟩ := q_12
 refine opK_pu (pu_extract _ _ _ rfl) ?_
 refine opK_pu (pu_extract _ _ _ rfl) ?_
 refine opK_pu pu_fa_96_0 ?_
 refine opK_pu pu_fa_30_0 ?_
 refine opK_ld (ld1 Tryd.isAgg3 (I_8.at1 (o := 0) (vs := [(vi x0.fExpr.fKind)]) (nb rfl) rfl)) ?_
 refine opK_pu (pu_neq _ _ _ _ _ _) ?_
 refine opK_pu (Pu.g fun hb => by have hb_0 := hb; first | exact pu_fa_96_0 | (simp only [gval_t hb_0, gv_t hb_0, gv_t hb, gva_tt hb_0]; exact pu_fa_96_0) | (simp only [gval_t hb_0, gv_t hb_0, gv_t hb, gva_tf hb_0, gv_n]; exact pu_fa_96_0)) ?_
 refine opK_pu (Pu.g fun hb => by have hb_0 := hb; first | exact pu_fa_30_1 | (simp only [gv_t hb_0]; exact pu_fa_30_1) | (simp only [gval_t hb_0, gv_t hb_0, gv_t hb, gva_tf hb_0, gv_n]; exact pu_fa_30_1)) ?_
 refine opK_ld (Ld.g fun hb => by have hb_0 := hb; first | exact (ld1 Tryd.isAgg2 (I_8.at1 (o := 1) (vs := [(vi x0.fExpr.fNum)]) (nb rfl) rfl)) | (simp only [gv_t hb_0]; exact (ld1 Tryd.isAgg2 (I_8.at1 (o := 1) (vs := [(vi x0.fExpr.fNum)]) (nb rfl) rfl))) | (simp only [gval_t hb_0, gv_t hb_0, gv_t hb, gva_tf hb_0, gv_n]; exact (ld1 Tryd.isAgg2 (I_8.at1 (o := 1) (vs := [(vi x0.fExpr.fNum)]) (nb rfl) rfl)))) ?_
 refine opK_pu (Pu.g fun hb => by have hb_0 := hb; first | exact (pu_neq _ _ _ _ _ _) | (simp only [gv_t hb_0]; exact (pu_neq _ _ _ _ _ _)) | (simp only [gval_t hb_0, gv_t hb_0, gv_t hb, gva_tf hb_0, gv_n]; exact (pu_neq _ _ _ _ _ _))) ?_
 refine opK_pu (pu_and _ _) ?_
 try simp only [gval_b]
 refine opK_pu (Pu.g fun hb => by have hb_0 := hb; first | exact (pu_not _) | (simp only [gv_t hb_0]; exact (pu_not _)) | (simp only [gval_t hb_0, gv_t hb_0, gv_t hb, gva_ff hb_0, gv_n]; exact (pu_not _))) ?_
 try simp only [gv_gv]
 refine opK_pu (Pu.e (gsgg_ft _ _ _) (Pu.g fun hb => by obtain ⟨hb_0, hb_1⟩ := gg_ft hb; first | exact pu_fa_96_0 | (simp only [gval_t hb_0, gv_t hb_0, gval_t hb_1, gv_t hb_1, gv_t hb, gv_n]; exact pu_fa_96_0) | (simp only [gval_t hb_0, gv_t hb_0, gval_t hb_1, gv_t hb_1, gv_t hb, gva_tt hb]; exact pu_fa_96_0) | (simp only [gval_t hb_0, gv_t hb_0, gval_t hb_1, gv_t hb_1, gv_t hb, gva_tf hb, gv_n]; exact pu_fa_96_0))) ?_
 refine opK_pu (Pu.e (gsgg_ft _ _ _) (Pu.g fun hb => by obtain ⟨hb_0, hb_1⟩ := gg_ft hb; first | exact pu_fa_30_2 | (simp only [gv_t hb]; exact pu_fa_30_2) | (simp only [gval_t hb_0, gv_t hb_0, gval_t hb_1, gv_t hb_1, gv_t hb, gva_tt hb]; exact pu_fa_30_2) | (simp only [gval_t hb_0, gv_t hb_0, gval_t hb_1, gv_t hb_1, gv_t hb, gva_tf hb, gv_n]; exact pu_fa_30_2))) ?_
 refine opK_ld (Ld.e (gsgg_ft _ _ _) (Ld.g fun hb => by obtain ⟨hb_0, hb_1⟩ := gg_ft hb; first | exact (ld1 Tryd.isAgg9 (I_8.at1 (o := 2) (vs := [(Value.string x0.fExpr.fName)]) (nb rfl) rfl)) | (simp only [gv_t hb]; exact (ld1 Tryd.isAgg9 (I_8.at1 (o := 2) (vs := [(Value.string x0.fExpr.fName)]) (nb rfl) rfl))) | (simp only [gval_t hb_0, gv_t hb_0, gval_t hb_1, gv_t hb_1, gv_t hb, gva_tt hb]; exact (ld1 Tryd.isAgg9 (I_8.at1 (o := 2) (vs := [(Value.string x0.fExpr.fName)]) (nb rfl) rfl))) | (simp only [gval_t hb_0, gv_t hb_0, gval_t hb_1, gv_t hb_1, gv_t hb, gva_tf hb, gv_n]; exact (ld1 Tryd.isAgg9 (I_8.at1 (o := 2) (vs := [(Value.string x0.fExpr.fName)]) (nb rfl) rfl))))) ?_
 refine opK_pu (Pu.e (gsgg_ft _ _ _) (Pu.g fun hb => by obtain ⟨hb_0, hb_1⟩ := gg_ft hb; first | exact (pu_nes _ _ _ _ _) | (simp only [gv_t hb]; exact (pu_nes _ _ _ _ _)) | (simp only [gval_t hb_0, gv_t hb_0, gval_t hb_1, gv_t hb_1, gv_t hb, gva_tt hb]; exact (pu_nes _ _ _ _ _)) | (simp only [gval_t hb_0, gv_t hb_0, gval_t hb_1, gv_t hb_1, gv_t hb, gva_tf hb, gv_n]; exact (pu_nes _ _ _ _ _)))) ?_
 refine opK_pu (Pu.g fun hb => by have hb_0 := hb; first | exact (pu_and _ _) | (simp only [gv_t hb_0, gva_ft hb_0]; exact (pu_and _ _)) | (simp only [gval_t hb_0, gv_t hb_0, gv_t hb, gva_ff hb_0, gv_n]; exact (pu_and _ _))) ?_
 refine opK_pu (pu_or _ _) ?_
 refine xcond_b (fun c_25 => ?_) (fun c_25 => ?_)
 ·replace h := h.1 c_25
  exact hR false H_6 _ I_8.drop h
 ·replace h := h.2 c_25
  refine opK_pu pu_fa_96_0 ?_
  refine opK_pu pu_fa_30_0 ?_
  refine opK_ld (ld1 Tryd.isAgg3 (I_8.at1 (o := 0) (vs := [(vi x0.fExpr.fKind)]) (nb rfl) rfl)) ?_
  refine opK_pu (pu_eql _ _ _ _ _ _) ?_
  refine xcond_p (fun c_24 => ?_) (fun c_24 => ?_)
  ·replace h := h.1 c_24
   refine opK_pu pu_fa_96_0 ?_
   refine opK_pu pu_fa_30_1 ?_
   refine opK_ld (ld1 Tryd.isAgg2 (I_8.at1 (o := 1) (vs := [(vi x0.fExpr.fNum)]) (nb rfl) rfl)) ?_
   refine opK_pu (pu_geq _ _ _ _ _ _) ?_
   try simp only [gval_b]
   refine opK_pu (Pu.g fun hb => by have hb_0 := hb; first | exact (pu_eql _ _ _ _ _ _) | (simp only [gv_t hb_0]; exact (pu_eql _ _ _ _ _ _)) | (simp only [gval_t hb_0, gv_t hb_0, gv_t hb, gva_tf hb_0, gv_n]; exact (pu_eql _ _ _ _ _ _))) ?_
   refine opK_pu (pu_and _ _) ?_
   exact hR ((decide (0 ≤ x0.fExpr.fNum)) && (decide ((x0.fExpr.fArgs.n : Int) = 0))) H_6 _ I_8.drop h
  ·replace h := h.2 c_24
   have hj1 : ∀ (s49j1 : Bool) (H : Hp) (w : World) (_ : Inv w0 ps0 H0 H [bx g_2 96 (cs_api_Expr x0.fExpr)] w) (_ : T_gnomon_tree_expr_form_j1 (x0.fExpr.fArgs.n : Int) x0.fExpr.fKind s49j1 x0 H K), F148_j1 (vi (x0.fExpr.fArgs.n : Int)) (vi x0.fExpr.fKind) (Value.bool s49j1) w R E := by
    intro s49j1 H w I h
    unfold F148_j1
    intro _
    unfold T_gnomon_tree_expr_form_j1 at h
    refine xcond_b (fun c_22 => ?_) (fun c_22 => ?_)
    ·replace h := h.1 c_22
     refine opK_pu (pu_eql _ _ _ _ _ _) ?_
     exact hR (decide ((x0.fExpr.fArgs.n : Int) = 0)) H _ I.drop h
    ·replace h := h.2 c_22
     have hj2 : ∀ (s54j2 : Bool) (H : Hp) (w : World) (_ : Inv w0 ps0 H0 H [bx g_2 96 (cs_api_Expr x0.fExpr)] w) (_ : T_gnomon_tree_expr_form_j2 (x0.fExpr.fArgs.n : Int) x0.fExpr.fKind s54j2 x0 H K), F148_j2 (vi (x0.fExpr.fArgs.n : Int)) (vi x0.fExpr.fKind) (Value.bool s54j2) w R E := by
      intro s54j2 H w I h
      unfold F148_j2
      intro _
      unfold T_gnomon_tree_expr_form_j2 at h
      refine xcond_b (fun c_20 => ?_) (fun c_20 => ?_)
      ·replace h := h.1 c_20
       refine opK_pu (pu_eql _ _ _ _ _ _) ?_
       exact hR (decide ((x0.fExpr.fArgs.n : Int) = 1)) H _ I.drop h
      ·replace h := h.2 c_20
       have hj3 : ∀ (s59j3 : Bool) (H : Hp) (w : World) (_ : Inv w0 ps0 H0 H [bx g_2 96 (cs_api_Expr x0.fExpr)] w) (_ : T_gnomon_tree_expr_form_j3 (x0.fExpr.fArgs.n : Int) s59j3 x0 H K), F148_j3 (vi (x0.fExpr.fArgs.n : Int)) (Value.bool s59j3) w R E := by
        intro s59j3 H w I h
        unfold F148_j3
        intro _
        unfold T_gnomon_tree_expr_form_j3 at h
        refine xcond_b (fun c_15 => ?_) (fun c_15 => ?_)
        ·replace h := h.1 c_15
         refine opK_pu (pu_eql _ _ _ _ _ _) ?_
         exact hR (decide ((x0.fExpr.fArgs.n : Int) = 2)) H _ I.drop h
        ·replace h := h.2 c_15
         exact hR false H _ I.drop h
       refine xcut_i fun j3 hx3 => ?_
       refine opK_pu (pu_eql _ _ _ _ _ _) ?_
       refine xcond_p (fun c_19 => ?_) (fun c_19 => ?_)
       ·replace h := h.1 c_19
        exact hx3 _ _ (hj3 (decide (x0.fExpr.fKind = 6)) H _ I h)
       ·replace h := h.2 c_19
        refine opK_pu (pu_eql _ _ _ _ _ _) ?_
        refine xcond_p (fun c_18 => ?_) (fun c_18 => ?_)
        ·replace h := h.1 c_18
         exact hx3 _ _ (hj3 (decide (x0.fExpr.fKind = 7)) H _ I h)
        ·replace h := h.2 c_18
         refine opK_pu (pu_eql _ _ _ _ _ _) ?_
         refine xcond_p (fun c_17 => ?_) (fun c_17 => ?_)
         ·replace h := h.1 c_17
          exact hx3 _ _ (hj3 (decide (x0.fExpr.fKind = 8)) H _ I h)
         ·replace h := h.2 c_17
          refine opK_pu (pu_eql _ _ _ _ _ _) ?_
          refine xcond_p (fun c_16 => ?_) (fun c_16 => ?_)
          ·replace h := h.1 c_16
           exact hx3 _ _ (hj3 (decide (x0.fExpr.fKind = 9)) H _ I h)
          ·replace h := h.2 c_16
           refine opK_pu (pu_eql _ _ _ _ _ _) ?_
           exact hx3 _ _ (hj3 (decide (x0.fExpr.fKind = 10)) H _ I h)
     refine xcut_i fun j2 hx2 => ?_
     refine opK_pu (pu_eql _ _ _ _ _ _) ?_
     refine xcond_p (fun c_21 => ?_) (fun c_21 => ?_)
     ·replace h := h.1 c_21
      exact hx2 _ _ (hj2 (decide (x0.fExpr.fKind = 4)) H _ I h)
     ·replace h := h.2 c_21
      refine opK_pu (pu_eql _ _ _ _ _ _) ?_
      exact hx2 _ _ (hj2 (decide (x0.fExpr.fKind = 5)) H _ I h)
   refine xcut_i fun j1 hx1 => ?_
   refine opK_pu (pu_eql _ _ _ _ _ _) ?_
   refine xcond_p (fun c_23 => ?_) (fun c_23 => ?_)
   ·replace h := h.1 c_23
    exact hx1 _ _ (hj1 (decide (x0.fExpr.fKind = 2)) H_6 _ I_8 h)
   ·replace h := h.2 c_23
    refine opK_pu (pu_eql _ _ _ _ _ _) ?_
    exact hx1 _ _ (hj1 (decide (x0.fExpr.fKind = 3)) H_6 _ I_8 h)
theorem L_gnomon_tree_expr_form (x0 : Ttree_expr) {H : Hp} {K : Bool → Hp → Prop} (h : T_gnomon_tree_expr_form x0 H K) : C_gnomon_tree_expr_form x0 H K := by
 intro w I
 refine F148_ok ?_
 refine LF_gnomon_tree_expr_form x0 I (fun r0 H' w' I' hk => ⟨H', _, I', r0, rfl, rfl, hk⟩) h


/- function 150: gnomon/tree.each[gnomon/api.Expr] -/
def T_gnomon_tree_each_gnomon_api_Expr_of_gnomon_tree_exprOf_j1 (cs5j1 : (List Itree_node)) (H : Hp) (K : Sl → Hp → Prop) : Prop :=
 ∀ (ss5j1 : Sl) (H_39 : Hp), Hle H H_39 → SlH H_39 1 cs_tree_node ss5j1 cs5j1 → ss5j1.n ≤ ss5j1.c →
 K ss5j1 H_39
def T_gnomon_tree_each_gnomon_api_Expr_of_gnomon_tree_exprOf_l2 (s8l2 : Sl) (s9l2 : Int) (cs5l2 : (List Itree_node)) (s10l2 : Int) (H : Hp) (n2 : ((List Itree_node) × Int) → Hp → Prop) (K : Sl → Hp → Prop) : Prop :=
 (s10l2 < s9l2 →
 (0 : Int) ≤ s10l2 ∧ (s10l2 : Int) < s8l2.n ∧ ∃ x_1 : Tapi_Expr, EltH H s8l2 s10l2 4 (cs_api_Expr x_1) ∧ 
 C_gnomon_tree_exprOf x_1 H (fun (r0_24 : Itree_node) (H_16 : Hp) => 
 (cs5l2.length + ([r0_24] : List Itree_node).length) * 17 ≤ 140737488355328 ∧
 n2 ((cs5l2 ++ [r0_24]), (IntKind.wrap .i64 (s10l2 + 1))) H_16)) ∧
 (¬ (s10l2 < s9l2) →
 T_gnomon_tree_each_gnomon_api_Expr_of_gnomon_tree_exprOf_j1 cs5l2 H K)
def T_gnomon_tree_each_gnomon_api_Expr_of_gnomon_tree_exprOf (x0 : Sl) (H : Hp) (K : Sl → Hp → Prop) : Prop :=
 TL (([], 0) : (List Itree_node) × Int) H fun (s : (List Itree_node) × Int) H n2 => T_gnomon_tree_each_gnomon_api_Expr_of_gnomon_tree_exprOf_l2 x0 (x0.n : Int) s.1 s.2 H n2 K
theorem LF_gnomon_tree_each_gnomon_api_Expr_of_gnomon_tree_exprOf (x0 : Sl) {w0 w : World} {ps0 : Nat → Prop} {H0 H : Hp} {K : Sl → Hp → Prop} {R : Value → World → Prop} {E : Pan} (I : Inv w0 ps0 H0 H [] w) (hR : ∀ (r0 : Sl) (H' : Hp) (w' : World) (_ : Inv w0 ps0 H0 H' [] w') (_ : K r0 H'), R (vs r0) w') (h : T_gnomon_tree_each_gnomon_api_Expr_of_gnomon_tree_exprOf x0 H K) : F150 (vs x0) (Value.func (.func 151) #[] #[]) w R E := by
 unfold T_gnomon_tree_each_gnomon_api_Expr_of_gnomon_tree_exprOf at h
 unfold F150
 have hj1 : ∀ (cs5j1 : (List Itree_node)) (ss5j1 : Sl) (Fs5j1 : Frag) (H : Hp) (w : World) (_ : RowL 141 1 cs_tree_node ss5j1 cs5j1 Fs5j1) (_ : Inv w0 ps0 H0 H [Fs5j1] w) (_ : T_gnomon_tree_each_gnomon_api_Expr_of_gnomon_tree_exprOf_j1 cs5j1 H K), F150_j1 (vs ss5j1) w R E := by
  intro cs5j1 ss5j1 Fs5j1 H w hs5j1 I h
  unfold F150_j1
  intro _
  unfold T_gnomon_tree_each_gnomon_api_Expr_of_gnomon_tree_exprOf_j1 at h
  obtain ⟨H_39, I_40, l_41, h_42, h_43⟩ := Inv.freezeC I hs5j1 (by decide)
  replace h := h ss5j1 H_39 l_41 h_42 h_43
  exact hR ss5j1 H_39 _ I_40 h
 refine xcut_i fun j1 hx1 => ?_
 refine opK_pu (pu_len_28 _ _ _) ?_
 obtain ⟨J_45, m_46, i_47, b_48⟩ := h
 refine xloop_J (J := fun n l w => ∃ (s : (List Itree_node) × Int) (H : Hp) (ss5l2 : Sl) (Fs5l2 : Frag) , n = m_46 s ∧ l = (match s with | (cs5l2, s10l2) => [(vs ss5l2), (vi s10l2)]) ∧ (match s with | (cs5l2, s10l2) => RowL 141 1 cs_tree_node ss5l2 cs5l2 Fs5l2) ∧ (match s with | (cs5l2, s10l2) => Inv w0 ps0 H0 H [Fs5l2] w) ∧ J_45 s H) ⟨_, ([], 0), H, (Sl.mk none 0 0), [], rfl, rfl, (RowL.nil cs_tree_node_l cs_tree_node_o), I.nil, i_47⟩ ?_
 rintro n_49 τ_50 w next2 ⟨⟨cs5l2, s10l2⟩, H, ss5l2, Fs5l2, rfl, l_51, hs5l2, I, s_52⟩ hn2
 dsimp only at l_51 I hs5l2
 simp only [List.map_cons, List.map_nil, List.cons.injEq, and_true] at l_51
 obtain ⟨e5, e10⟩ := l_51
 simp only [e5, e10]
 obtain ⟨n2, hm2, h⟩ : ∃ n2 : ((List Itree_node) × Int) → Hp → Prop, (∀ s' H', n2 s' H' → J_45 s' H' ∧ m_46 s' < m_46 (cs5l2, s10l2)) ∧ T_gnomon_tree_each_gnomon_api_Expr_of_gnomon_tree_exprOf_l2 x0 (x0.n : Int) cs5l2 s10l2 H n2 K := ⟨_, fun _ _ h => h, b_48 (cs5l2, s10l2) H (fun s' H' => J_45 s' H' ∧ m_46 s' < m_46 (cs5l2, s10l2)) s_52 (fun _ _ a b => ⟨a, b⟩)⟩
 unfold F150_l2
 unfold T_gnomon_tree_each_gnomon_api_Expr_of_gnomon_tree_exprOf_l2 at h
 refine opK_pu (pu_lss _ _ _ _ _ _) ?_
 refine xcond_p (fun c_44 => ?_) (fun c_44 => ?_)
 ·replace h := h.1 c_44
  obtain ⟨h_4, h_5, x_1, h_7, h⟩ := h
  obtain ⟨g_2, o_3, h_6, h_7⟩ := h_7
  refine opK_pu (pu_ix_28 h_6 _ _ _ _ h_4 h_5) ?_
  refine opK_ld (ldA (vs := (cs_api_Expr x_1)) Tryd.isAgg30 Tryd.sizeOf30 rfl (I.atH h_7)) ?_
  refine s_alloc I Tryd.zeroValue30 (cs := [(vi 0), (vi 0), (Value.string ⟨#[]⟩), (Value.slice none 0 0)]) rfl fun g_9 w_10 I_11 k_12 => ?_
  refine s_store I_11 Tryd.sizeOf30 (vs := (cs_api_Expr x_1)) (cs' := (cs_api_Expr x_1)) rfl rfl (nb rfl) rfl rfl fun w_13 I_14 k_15 => ?_
  refine opK_ld (ldA Tryd.isAgg30 Tryd.sizeOf30 rfl (I_14.at1 (o := 0) (vs := (cs_api_Expr x_1)) (nb rfl) rfl)) ?_
  refine opK_calls (cap := []) (fun args w => Tryd.call151 args w) ?_
  refine Cv_ct (Fi := []) (Fr := [bx g_9 30 (cs_api_Expr x_1), Fs5l2]) I_14 (h) (fun v_20 H_16 F_21 w_17 I_18 l_23 k_19 q_22 => ?_) (fun _ _ _ _ _ q => q.elim)
  obtain ⟨r0_24, rfl, rfl, h⟩ := q_22
  refine s_bs (e := 141) (c := cs_tree_node) (xs := [r0_24]) I_18 (bs_97_1 _) rfl rfl cs_tree_node_l cs_tree_node_o (nb rfl) fun s_26 F_27 w_28 h_29 I_30 k_31 => ?_
  obtain ⟨h_38, h⟩ := h
  refine app_97 (s := ss5l2) (xs := cs5l2) (I_30.bring 2) hs5l2 (h_29.srcO ((I_30.bring 2).bring 1)) h_38 fun s_32 F_33 w_34 h_35 I_36 k_37 => ?_
  refine opK_pu (pu_add _ _ _ _ _ _) ?_
  exact hn2 _ _ _ (hm2 _ _ h).2 ⟨((cs5l2 ++ [r0_24]), (IntKind.wrap .i64 (s10l2 + 1))), H_16, s_32, F_33, rfl, rfl, h_35, ((I_36.bring 1).drop.bring 1).drop, (hm2 _ _ h).1⟩
 ·replace h := h.2 c_44
  exact hx1 _ _ (hj1 cs5l2 ss5l2 Fs5l2 H _ hs5l2 I h)
theorem L_gnomon_tree_each_gnomon_api_Expr_of_gnomon_tree_exprOf (x0 : Sl) {H : Hp} {K : Sl → Hp → Prop} (h : T_gnomon_tree_each_gnomon_api_Expr_of_gnomon_tree_exprOf x0 H K) : C_gnomon_tree_each_gnomon_api_Expr_of_gnomon_tree_exprOf x0 H K := by
 intro w I
 refine F150_ok ?_
 refine LF_gnomon_tree_each_gnomon_api_Expr_of_gnomon_tree_exprOf x0 I (fun r0 H' w' I' hk => ⟨H', _, I', r0, rfl, rfl, hk⟩) h


/- function 155: gnomon/tree.condOf -/
def T_gnomon_tree_condOf (x0 : Tapi_Cond) (H : Hp) (K : Itree_node → Hp → Prop) : Prop :=
 K (Itree_node.c_tree_cond (Ttree_cond.mk x0)) H
theorem LF_gnomon_tree_condOf (x0 : Tapi_Cond) {w0 w : World} {ps0 : Nat → Prop} {H0 H : Hp} {K : Itree_node → Hp → Prop} {R : Value → World → Prop} {E : Pan} (I : Inv w0 ps0 H0 H [] w) (hR : ∀ (r0 : Itree_node) (H' : Hp) (w' : World) (_ : Inv w0 ps0 H0 H' [] w') (_ : K r0 H'), R (vItree_node r0) w') (h : T_gnomon_tree_condOf x0 H K) : F155 (Value.agg (cs_api_Cond x0).toArray) w R E := by
 unfold T_gnomon_tree_condOf at h
 unfold F155
 refine s_box I (cs := (cs_api_Cond x0)) rfl fun g_2 w_3 I_4 k_5 => ?_
 refine opK_ld (ldA Tryd.isAgg33 Tryd.sizeOf33 rfl (I_4.at1 (o := 0) (vs := (cs_api_Cond x0)) (nb rfl) rfl)) ?_
 refine opK_pu (pu_bld_106_0 _ _ _ _ _ _ _ _) ?_
 refine opK_pu (pu_mki_141_106 (Ttree_cond.mk x0)) ?_
 exact hR (Itree_node.c_tree_cond (Ttree_cond.mk x0)) H _ I_4.drop h
theorem L_gnomon_tree_condOf (x0 : Tapi_Cond) {H : Hp} {K : Itree_node → Hp → Prop} (h : T_gnomon_tree_condOf x0 H K) : C_gnomon_tree_condOf x0 H K := by
 intro w I
 refine F155_ok ?_
 refine LF_gnomon_tree_condOf x0 I (fun r0 H' w' I' hk => ⟨H', _, I', r0, rfl, rfl, hk⟩) h


/- function 156: (gnomon/tree.decl).form -/
def T_gnomon_tree_decl_form (x0 : Ttree_decl) (H : Hp) (K : Bool → Hp → Prop) : Prop :=
 K ((decide (0 ≤ x0.fDecl.fSize)) && (decide (x0.fDecl.fSize ≤ 2147483647))) H
theorem LF_gnomon_tree_decl_form (x0 : Ttree_decl) {w0 w : World} {ps0 : Nat → Prop} {H0 H : Hp} {K : Bool → Hp → Prop} {R : Value → World → Prop} {E : Pan} (I : Inv w0 ps0 H0 H [] w) (hR : ∀ (r0 : Bool) (H' : Hp) (w' : World) (_ : Inv w0 ps0 H0 H' [] w') (_ : K r0 H'), R (Value.bool r0) w') (h : T_gnomon_tree_decl_form x0 H K) : F156 (Value.agg (cs_api_Decl x0.fDecl).toArray) w R E := by
 unfold T_gnomon_tree_decl_form at h
 unfold F156
 refine s_box I (cs := (cs_api_Decl x0.fDecl)) rfl fun g_2 w_3 I_4 k_5 => ?_
 refine opK_pu pu_fa_175_0 ?_
 refine opK_pu pu_fa_67_1 ?_
 refine opK_ld (ld1 Tryd.isAgg3 (I_4.at1 (o := 1) (vs := [(vi x0.fDecl.fSize)]) (nb rfl) rfl)) ?_
 refine opK_pu (pu_geq _ _ _ _ _ _) ?_
 refine opK_pu (Pu.g fun hb => by have hb_0 := hb; first | exact pu_fa_175_0 | (simp only [gval_t hb_0, gv_t hb_0, gv_t hb, gva_tt hb_0]; exact pu_fa_175_0) | (simp only [gval_t hb_0, gv_t hb_0, gv_t hb, gva_tf hb_0, gv_n]; exact pu_fa_175_0)) ?_
 refine opK_pu (Pu.g fun hb => by have hb_0 := hb; first | exact pu_fa_67_1 | (simp only [gv_t hb_0]; exact pu_fa_67_1) | (simp only [gval_t hb_0, gv_t hb_0, gv_t hb, gva_tf hb_0, gv_n]; exact pu_fa_67_1)) ?_
 refine opK_ld (Ld.g fun hb => by have hb_0 := hb; first | exact (ld1 Tryd.isAgg3 (I_4.at1 (o := 1) (vs := [(vi x0.fDecl.fSize)]) (nb rfl) rfl)) | (simp only [gv_t hb_0]; exact (ld1 Tryd.isAgg3 (I_4.at1 (o := 1) (vs := [(vi x0.fDecl.fSize)]) (nb rfl) rfl))) | (simp only [gval_t hb_0, gv_t hb_0, gv_t hb, gva_tf hb_0, gv_n]; exact (ld1 Tryd.isAgg3 (I_4.at1 (o := 1) (vs := [(vi x0.fDecl.fSize)]) (nb rfl) rfl)))) ?_
 refine opK_pu (Pu.g fun hb => by have hb_0 := hb; first | exact (pu_leq _ _ _ _ _ _) | (simp only [gv_t hb_0]; exact (pu_leq _ _ _ _ _ _)) | (simp only [gval_t hb_0, gv_t hb_0, gv_t hb, gva_tf hb_0, gv_n]; exact (pu_leq _ _ _ _ _ _))) ?_
 refine opK_pu (pu_and _ _) ?_
 exact hR ((decide (0 ≤ x0.fDecl.fSize)) && (decide (x0.fDecl.fSize ≤ 2147483647))) H _ I_4.drop h
theorem L_gnomon_tree_decl_form (x0 : Ttree_decl) {H : Hp} {K : Bool → Hp → Prop} (h : T_gnomon_tree_decl_form x0 H K) : C_gnomon_tree_decl_form x0 H K := by
 intro w I
 refine F156_ok ?_
 refine LF_gnomon_tree_decl_form x0 I (fun r0 H' w' I' hk => ⟨H', _, I', r0, rfl, rfl, hk⟩) h


/- function 157: (gnomon/tree.decl).parts -/
def T_gnomon_tree_decl_parts (_x0 : Ttree_decl) (H : Hp) (K : Sl → Hp → Prop) : Prop :=
 K (Sl.mk none 0 0) H
theorem LF_gnomon_tree_decl_parts (x0 : Ttree_decl) {w0 w : World} {ps0 : Nat → Prop} {H0 H : Hp} {K : Sl → Hp → Prop} {R : Value → World → Prop} {E : Pan} (I : Inv w0 ps0 H0 H [] w) (hR : ∀ (r0 : Sl) (H' : Hp) (w' : World) (_ : Inv w0 ps0 H0 H' [] w') (_ : K r0 H'), R (vs r0) w') (h : T_gnomon_tree_decl_parts x0 H K) : F157 (Value.agg (cs_api_Decl x0.fDecl).toArray) w R E := by
 unfold T_gnomon_tree_decl_parts at h
 unfold F157
 refine s_box I (cs := (cs_api_Decl x0.fDecl)) rfl fun g_2 w_3 I_4 k_5 => ?_
 exact hR (Sl.mk none 0 0) H _ I_4.drop h
theorem L_gnomon_tree_decl_parts (x0 : Ttree_decl) {H : Hp} {K : Sl → Hp → Prop} (h : T_gnomon_tree_decl_parts x0 H K) : C_gnomon_tree_decl_parts x0 H K := by
 intro w I
 refine F157_ok ?_
 refine LF_gnomon_tree_decl_parts x0 I (fun r0 H' w' I' hk => ⟨H', _, I', r0, rfl, rfl, hk⟩) h


end Go.Proofs.YthldnpmfelniiaaDoor
