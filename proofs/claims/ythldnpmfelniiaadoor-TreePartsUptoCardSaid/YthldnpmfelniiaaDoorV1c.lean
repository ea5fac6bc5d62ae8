/-
  Typed formulas of the program's functions, and the theorems that the contracts follow from them; printed by lift.py off the code.
-/
import Derived.Test.YthldnpmfelniiaaDoorV1
namespace Go.Proofs.YthldnpmfelniiaaDoor
open Go.RowKit
set_option maxRecDepth 100000
set_option maxHeartbeats 2000000

/- function 98: gnomon/tree.stmtOf -/
def T_gnomon_tree_stmtOf (x0 : Tapi_Stmt) (H : Hp) (K : Itree_node → Hp → Prop) : Prop :=
 K (Itree_node.c_tree_stmt (Ttree_stmt.mk x0)) H
theorem LF_gnomon_tree_stmtOf (x0 : Tapi_Stmt) {w0 w : World} {ps0 : Nat → Prop} {H0 H : Hp} {K : Itree_node → Hp → Prop} {R : Value → World → Prop} {E : Pan} (I : Inv w0 ps0 H0 H [] w) (hR : ∀ (r0 : Itree_node) (H' : Hp) (w' : World) (_ : Inv w0 ps0 H0 H' [] w') (_ : K r0 H'), R (vItree_node r0) w') (h : T_gnomon_tree_stmtOf x0 H K) : F98 (Value.agg (cs_api_Stmt x0).toArray) w R E := by
 unfold T_gnomon_tree_stmtOf at h
 unfold F98
 refine s_box I (cs := (cs_api_Stmt x0)) rfl fun g_2 w_3 I_4 k_5 => ?_
 refine opK_ld (ldA Tryd.isAgg88 Tryd.sizeOf88 rfl (I_4.at1 (o := 0) (vs := (cs_api_Stmt x0)) (nb rfl) rfl)) ?_
 refine opK_pu (pu_bld_177_0 _ _ _ _ _ _ _ _ _ _ _ _ _ _) ?_
 refine opK_pu (pu_mki_141_177 (Ttree_stmt.mk x0)) ?_
 exact hR (Itree_node.c_tree_stmt (Ttree_stmt.mk x0)) H _ I_4.drop h
theorem L_gnomon_tree_stmtOf (x0 : Tapi_Stmt) {H : Hp} {K : Itree_node → Hp → Prop} (h : T_gnomon_tree_stmtOf x0 H K) : C_gnomon_tree_stmtOf x0 H K := by
 intro w I
 refine F98_ok ?_
 refine LF_gnomon_tree_stmtOf x0 I (fun r0 H' w' I' hk => ⟨H', _, I', r0, rfl, rfl, hk⟩) h


/- function 97: gnomon/tree.each[gnomon/api.Stmt] -/
def T_gnomon_tree_each_gnomon_api_Stmt_of_gnomon_tree_stmtOf_j1 (cs5j1 : (List Itree_node)) (H : Hp) (K : Sl → Hp → Prop) : Prop :=
 ∀ (ss5j1 : Sl) (H_39 : Hp), Hle H H_39 → SlH H_39 1 cs_tree_node ss5j1 cs5j1 → ss5j1.n ≤ ss5j1.c →
 K ss5j1 H_39
def T_gnomon_tree_each_gnomon_api_Stmt_of_gnomon_tree_stmtOf_l2 (s8l2 : Sl) (s9l2 : Int) (cs5l2 : (List Itree_node)) (s10l2 : Int) (H : Hp) (n2 : ((List Itree_node) × Int) → Hp → Prop) (K : Sl → Hp → Prop) : Prop :=
 (s10l2 < s9l2 →
 (0 : Int) ≤ s10l2 ∧ (s10l2 : Int) < s8l2.n ∧ ∃ x_1 : Tapi_Stmt, EltH H s8l2 s10l2 6 (cs_api_Stmt x_1) ∧ 
 C_gnomon_tree_stmtOf x_1 H (fun (r0_24 : Itree_node) (H_16 : Hp) => 
 (cs5l2.length + ([r0_24] : List Itree_node).length) * 17 ≤ 140737488355328 ∧
 n2 ((cs5l2 ++ [r0_24]), (IntKind.wrap .i64 (s10l2 + 1))) H_16)) ∧
 (¬ (s10l2 < s9l2) →
 T_gnomon_tree_each_gnomon_api_Stmt_of_gnomon_tree_stmtOf_j1 cs5l2 H K)
def T_gnomon_tree_each_gnomon_api_Stmt_of_gnomon_tree_stmtOf (x0 : Sl) (H : Hp) (K : Sl → Hp → Prop) : Prop :=
 TL (([], 0) : (List Itree_node) × Int) H fun (s : (List Itree_node) × Int) H n2 => T_gnomon_tree_each_gnomon_api_Stmt_of_gnomon_tree_stmtOf_l2 x0 (x0.n : Int) s.1 s.2 H n2 K
theorem LF_gnomon_tree_each_gnomon_api_Stmt_of_gnomon_tree_stmtOf (x0 : Sl) {w0 w : World} {ps0 : Nat → Prop} {H0 H : Hp} {K : Sl → Hp → Prop} {R : Value → World → Prop} {E : Pan} (I : Inv w0 ps0 H0 H [] w) (hR : ∀ (r0 : Sl) (H' : Hp) (w' : World) (_ : Inv w0 ps0 H0 H' [] w') (_ : K r0 H'), R (vs r0) w') (h : T_gnomon_tree_each_gnomon_api_Stmt_of_gnomon_tree_stmtOf x0 H K) : F97 (vs x0) (Value.func (.func 98) #[] #[]) w R E := by
 unfold T_gnomon_tree_each_gnomon_api_Stmt_of_gnomon_tree_stmtOf at h
 unfold F97
 have hj1 : ∀ (cs5j1 : (List Itree_node)) (ss5j1 : Sl) (Fs5j1 : Frag) (H : Hp) (w : World) (_ : RowL 141 1 cs_tree_node ss5j1 cs5j1 Fs5j1) (_ : Inv w0 ps0 H0 H [Fs5j1] w) (_ : T_gnomon_tree_each_gnomon_api_Stmt_of_gnomon_tree_stmtOf_j1 cs5j1 H K), F97_j1 (vs ss5j1) w R E := by
  intro cs5j1 ss5j1 Fs5j1 H w hs5j1 I h
  unfold F97_j1
  intro _
  unfold T_gnomon_tree_each_gnomon_api_Stmt_of_gnomon_tree_stmtOf_j1 at h
  obtain ⟨H_39, I_40, l_41, h_42, h_43⟩ := Inv.freezeC I hs5j1 (by decide)
  replace h := h ss5j1 H_39 l_41 h_42 h_43
  exact hR ss5j1 H_39 _ I_40 h
 refine xcut_i fun j1 hx1 => ?_
 refine opK_pu (pu_len_23 _ _ _) ?_
 obtain ⟨J_45, m_46, i_47, b_48⟩ := h
 refine xloop_J (J := fun n l w => ∃ (s : (List Itree_node) × Int) (H : Hp) (ss5l2 : Sl) (Fs5l2 : Frag) , n = m_46 s ∧ l = (match s with | (cs5l2, s10l2) => [(vs ss5l2), (vi s10l2)]) ∧ (match s with | (cs5l2, s10l2) => RowL 141 1 cs_tree_node ss5l2 cs5l2 Fs5l2) ∧ (match s with | (cs5l2, s10l2) => Inv w0 ps0 H0 H [Fs5l2] w) ∧ J_45 s H) ⟨_, ([], 0), H, (Sl.mk none 0 0), [], rfl, rfl, (RowL.nil cs_tree_node_l cs_tree_node_o), I.nil, i_47⟩ ?_
 rintro n_49 τ_50 w next2 ⟨⟨cs5l2, s10l2⟩, H, ss5l2, Fs5l2, rfl, l_51, hs5l2, I, s_52⟩ hn2
 dsimp only at l_51 I hs5l2
 simp only [List.map_cons, List.map_nil, List.cons.injEq, and_true] at l_51
 obtain ⟨e5, e10⟩ := l_51
 simp only [e5, e10]
 obtain ⟨n2, hm2, h⟩ : ∃ n2 : ((List Itree_node) × Int) → Hp → Prop, (∀ s' H', n2 s' H' → J_45 s' H' ∧ m_46 s' < m_46 (cs5l2, s10l2)) ∧ T_gnomon_tree_each_gnomon_api_Stmt_of_gnomon_tree_stmtOf_l2 x0 (x0.n : Int) cs5l2 s10l2 H n2 K := ⟨_, fun _ _ h => h, b_48 (cs5l2, s10l2) H (fun s' H' => J_45 s' H' ∧ m_46 s' < m_46 (cs5l2, s10l2)) s_52 (fun _ _ a b => ⟨a, b⟩)⟩
 unfold F97_l2
 unfold T_gnomon_tree_each_gnomon_api_Stmt_of_gnomon_tree_stmtOf_l2 at h
 refine opK_pu (pu_lss _ _ _ _ _ _) ?_
 refine xcond_p (fun c_44 => ?_) (fun c_44 => ?_)
 ·replace h := h.1 c_44
  obtain ⟨h_4, h_5, x_1, h_7, h⟩ := h
  obtain ⟨g_2, o_3, h_6, h_7⟩ := h_7
  refine opK_pu (pu_ix_23 h_6 _ _ _ _ h_4 h_5) ?_
  refine opK_ld (ldA (vs := (cs_api_Stmt x_1)) Tryd.isAgg88 Tryd.sizeOf88 rfl (I.atH h_7)) ?_
  refine s_alloc I Tryd.zeroValue88 (cs := [(vi 0), (Value.string ⟨#[]⟩), (Value.slice none 0 0), (Value.slice none 0 0), (Value.slice none 0 0), (Value.slice none 0 0)]) rfl fun g_9 w_10 I_11 k_12 => ?_
  refine s_store I_11 Tryd.sizeOf88 (vs := (cs_api_Stmt x_1)) (cs' := (cs_api_Stmt x_1)) rfl rfl (nb rfl) rfl rfl fun w_13 I_14 k_15 => ?_
  refine opK_ld (ldA Tryd.isAgg88 Tryd.sizeOf88 rfl (I_14.at1 (o := 0) (vs := (cs_api_Stmt x_1)) (nb rfl) rfl)) ?_
  refine opK_calls (cap := []) (fun args w => Tryd.call98 args w) ?_
  refine Cv_ct (Fi := []) (Fr := [bx g_9 88 (cs_api_Stmt x_1), Fs5l2]) I_14 (h) (fun v_20 H_16 F_21 w_17 I_18 l_23 k_19 q_22 => ?_) (fun _ _ _ _ _ q => q.elim)
  obtain ⟨r0_24, rfl, rfl, h⟩ := q_22
  refine s_bs (e := 141) (c := cs_tree_node) (xs := [r0_24]) I_18 (bs_97_1 _) rfl rfl cs_tree_node_l cs_tree_node_o (nb rfl) fun s_26 F_27 w_28 h_29 I_30 k_31 => ?_
  obtain ⟨h_38, h⟩ := h
  refine app_97 (s := ss5l2) (xs := cs5l2) (I_30.bring 2) hs5l2 (h_29.srcO ((I_30.bring 2).bring 1)) h_38 fun s_32 F_33 w_34 h_35 I_36 k_37 => ?_
  refine opK_pu (pu_add _ _ _ _ _ _) ?_
  exact hn2 _ _ _ (hm2 _ _ h).2 ⟨((cs5l2 ++ [r0_24]), (IntKind.wrap .i64 (s10l2 + 1))), H_16, s_32, F_33, rfl, rfl, h_35, ((I_36.bring 1).drop.bring 1).drop, (hm2 _ _ h).1⟩
 ·replace h := h.2 c_44
  exact hx1 _ _ (hj1 cs5l2 ss5l2 Fs5l2 H _ hs5l2 I h)
theorem L_gnomon_tree_each_gnomon_api_Stmt_of_gnomon_tree_stmtOf (x0 : Sl) {H : Hp} {K : Sl → Hp → Prop} (h : T_gnomon_tree_each_gnomon_api_Stmt_of_gnomon_tree_stmtOf x0 H K) : C_gnomon_tree_each_gnomon_api_Stmt_of_gnomon_tree_stmtOf x0 H K := by
 intro w I
 refine F97_ok ?_
 refine LF_gnomon_tree_each_gnomon_api_Stmt_of_gnomon_tree_stmtOf x0 I (fun r0 H' w' I' hk => ⟨H', _, I', r0, rfl, rfl, hk⟩) h


/- function 126: gnomon/text.Class -/
def T_gnomon_text_Class_j4 (s39j4 : Bool) (_cr_1j4 : Int) (H : Hp) (K : Int → Hp → Prop) : Prop :=
 (s39j4 = true →
 K 3 H) ∧
 (s39j4 = false →
 K 6 H)
def T_gnomon_text_Class_j3 (s31j3 : Bool) (cr_1j3 : Int) (H : Hp) (K : Int → Hp → Prop) : Prop :=
 (s31j3 = true →
 K 6 H) ∧
 (s31j3 = false →
 C_gnomon_text_Class_1 48 57 cr_1j3 H (fun (r0_14 : Bool) (H_6 : Hp) => 
 (r0_14 = true →
 K 4 H_6) ∧
 (r0_14 = false →
 (cr_1j3 = 95 →
 T_gnomon_text_Class_j4 (decide (cr_1j3 = 95)) cr_1j3 H_6 K) ∧
 (¬ (cr_1j3 = 95) →
 C_gnomon_text_Class_1 97 122 cr_1j3 H_6 (fun (r0_24 : Bool) (H_16 : Hp) => 
 (r0_24 = true →
 T_gnomon_text_Class_j4 r0_24 cr_1j3 H_16 K) ∧
 (r0_24 = false →
 C_gnomon_text_Class_1 65 90 cr_1j3 H_16 (fun (r0_33 : Bool) (H_25 : Hp) => 
 (r0_33 = true →
 T_gnomon_text_Class_j4 r0_33 cr_1j3 H_25 K) ∧
 (r0_33 = false →
 C_gnomon_text_Class_1 192 591 cr_1j3 H_25 (fun (r0_42 : Bool) (H_34 : Hp) => 
 (r0_42 = true →
 T_gnomon_text_Class_j4 r0_42 cr_1j3 H_34 K) ∧
 (r0_42 = false →
 C_gnomon_text_Class_1 913 969 cr_1j3 H_34 (fun (r0_51 : Bool) (H_43 : Hp) => 
 (r0_51 = true →
 T_gnomon_text_Class_j4 r0_51 cr_1j3 H_43 K) ∧
 (r0_51 = false →
 C_gnomon_text_Class_1 1040 1103 cr_1j3 H_43 (fun (r0_60 : Bool) (H_52 : Hp) => 
 T_gnomon_text_Class_j4 r0_60 cr_1j3 H_52 K)))))))))))))
def T_gnomon_text_Class_j2 (s4j2 : Int) (s11j2 : Bool) (cr_1j2 : Int) (H : Hp) (K : Int → Hp → Prop) : Prop :=
 (s11j2 = true →
 K 5 H) ∧
 (s11j2 = false →
 (s4j2 = 215 →
 T_gnomon_text_Class_j3 (decide (s4j2 = 215)) cr_1j2 H K) ∧
 (¬ (s4j2 = 215) →
 (s4j2 = 247 →
 T_gnomon_text_Class_j3 (decide (s4j2 = 247)) cr_1j2 H K) ∧
 (¬ (s4j2 = 247) →
 T_gnomon_text_Class_j3 (decide (s4j2 = 930)) cr_1j2 H K)))
def T_gnomon_text_Class_j1 (s4j1 : Int) (s5j1 : Bool) (cr_1j1 : Int) (H : Hp) (K : Int → Hp → Prop) : Prop :=
 (s5j1 = true →
 K 1 H) ∧
 (s5j1 = false →
 (s4j1 = 10 →
 K 2 H) ∧
 (¬ (s4j1 = 10) →
 (s4j1 = 59 →
 T_gnomon_text_Class_j2 s4j1 (decide (s4j1 = 59)) cr_1j1 H K) ∧
 (¬ (s4j1 = 59) →
 (s4j1 = 44 →
 T_gnomon_text_Class_j2 s4j1 (decide (s4j1 = 44)) cr_1j1 H K) ∧
 (¬ (s4j1 = 44) →
 (s4j1 = 123 →
 T_gnomon_text_Class_j2 s4j1 (decide (s4j1 = 123)) cr_1j1 H K) ∧
 (¬ (s4j1 = 123) →
 (s4j1 = 125 →
 T_gnomon_text_Class_j2 s4j1 (decide (s4j1 = 125)) cr_1j1 H K) ∧
 (¬ (s4j1 = 125) →
 (s4j1 = 40 →
 T_gnomon_text_Class_j2 s4j1 (decide (s4j1 = 40)) cr_1j1 H K) ∧
 (¬ (s4j1 = 40) →
 (s4j1 = 41 →
 T_gnomon_text_Class_j2 s4j1 (decide (s4j1 = 41)) cr_1j1 H K) ∧
 (¬ (s4j1 = 41) →
 (s4j1 = 91 →
 T_gnomon_text_Class_j2 s4j1 (decide (s4j1 = 91)) cr_1j1 H K) ∧
 (¬ (s4j1 = 91) →
 (s4j1 = 93 →
 T_gnomon_text_Class_j2 s4j1 (decide (s4j1 = 93)) cr_1j1 H K) ∧
 (¬ (s4j1 = 93) →
 (s4j1 = 61 →
 T_gnomon_text_Class_j2 s4j1 (decide (s4j1 = 61)) cr_1j1 H K) ∧
 (¬ (s4j1 = 61) →
 (s4j1 = 33 →
 T_gnomon_text_Class_j2 s4j1 (decide (s4j1 = 33)) cr_1j1 H K) ∧
 (¬ (s4j1 = 33) →
 (s4j1 = 60 →
 T_gnomon_text_Class_j2 s4j1 (decide (s4j1 = 60)) cr_1j1 H K) ∧
 (¬ (s4j1 = 60) →
 (s4j1 = 62 →
 T_gnomon_text_Class_j2 s4j1 (decide (s4j1 = 62)) cr_1j1 H K) ∧
 (¬ (s4j1 = 62) →
 (s4j1 = 43 →
 T_gnomon_text_Class_j2 s4j1 (decide (s4j1 = 43)) cr_1j1 H K) ∧
 (¬ (s4j1 = 43) →
 (s4j1 = 45 →
 T_gnomon_text_Class_j2 s4j1 (decide (s4j1 = 45)) cr_1j1 H K) ∧
 (¬ (s4j1 = 45) →
 (s4j1 = 42 →
 T_gnomon_text_Class_j2 s4j1 (decide (s4j1 = 42)) cr_1j1 H K) ∧
 (¬ (s4j1 = 42) →
 (s4j1 = 47 →
 T_gnomon_text_Class_j2 s4j1 (decide (s4j1 = 47)) cr_1j1 H K) ∧
 (¬ (s4j1 = 47) →
 (s4j1 = 37 →
 T_gnomon_text_Class_j2 s4j1 (decide (s4j1 = 37)) cr_1j1 H K) ∧
 (¬ (s4j1 = 37) →
 (s4j1 = 38 →
 T_gnomon_text_Class_j2 s4j1 (decide (s4j1 = 38)) cr_1j1 H K) ∧
 (¬ (s4j1 = 38) →
 T_gnomon_text_Class_j2 s4j1 (decide (s4j1 = 124)) cr_1j1 H K))))))))))))))))))))
def T_gnomon_text_Class (x0 : Int) (H : Hp) (K : Int → Hp → Prop) : Prop :=
 (x0 = 32 →
 T_gnomon_text_Class_j1 x0 (decide (x0 = 32)) x0 H K) ∧
 (¬ (x0 = 32) →
 (x0 = 9 →
 T_gnomon_text_Class_j1 x0 (decide (x0 = 9)) x0 H K) ∧
 (¬ (x0 = 9) →
 T_gnomon_text_Class_j1 x0 (decide (x0 = 13)) x0 H K))
theorem LF_gnomon_text_Class (x0 : Int) {w0 w : World} {ps0 : Nat → Prop} {H0 H : Hp} {K : Int → Hp → Prop} {R : Value → World → Prop} {E : Pan} (I : Inv w0 ps0 H0 H [] w) (hR : ∀ (r0 : Int) (H' : Hp) (w' : World) (_ : Inv w0 ps0 H0 H' [] w') (_ : K r0 H'), R (vi r0) w') (h : T_gnomon_text_Class x0 H K) : F126 (Value.int .i32 x0) w R E := by
 unfold T_gnomon_text_Class at h
 unfold F126
 refine s_box I (cs := [(Value.int .i32 x0)]) rfl fun g_2 w_3 I_4 k_5 => ?_
 refine opK_ld (ld1 Tryd.isAgg21 (I_4.at1 (o := 0) (vs := [(Value.int .i32 x0)]) (nb rfl) rfl)) ?_
 have hj1 : ∀ (s5j1 : Bool) (H : Hp) (w : World) (_ : Inv w0 ps0 H0 H [bx g_2 21 [(Value.int .i32 x0)]] w) (_ : T_gnomon_text_Class_j1 x0 s5j1 x0 H K), F126_j1 (Value.pointer (some ⟨g_2, 0, none⟩)) (Value.int .i32 x0) (Value.bool s5j1) w R E := by
  intro s5j1 H w I h
  unfold F126_j1
  intro _
  unfold T_gnomon_text_Class_j1 at h
  refine xcond_b (fun c_90 => ?_) (fun c_90 => ?_)
  ·replace h := h.1 c_90
   exact hR 1 H _ I.drop h
  ·replace h := h.2 c_90
   refine opK_pu (pu_eql _ _ _ _ _ _) ?_
   refine xcond_p (fun c_89 => ?_) (fun c_89 => ?_)
   ·replace h := h.1 c_89
    exact hR 2 H _ I.drop h
   ·replace h := h.2 c_89
    have hj2 : ∀ (s11j2 : Bool) (H : Hp) (w : World) (_ : Inv w0 ps0 H0 H [bx g_2 21 [(Value.int .i32 x0)]] w) (_ : T_gnomon_text_Class_j2 x0 s11j2 x0 H K), F126_j2 (Value.pointer (some ⟨g_2, 0, none⟩)) (Value.int .i32 x0) (Value.bool s11j2) w R E := by
     intro s11j2 H w I h
     unfold F126_j2
     intro _
     unfold T_gnomon_text_Class_j2 at h
     refine xcond_b (fun c_70 => ?_) (fun c_70 => ?_)
     ·replace h := h.1 c_70
      exact hR 5 H _ I.drop h
     ·replace h := h.2 c_70
      have hj3 : ∀ (s31j3 : Bool) (H : Hp) (w : World) (_ : Inv w0 ps0 H0 H [bx g_2 21 [(Value.int .i32 x0)]] w) (_ : T_gnomon_text_Class_j3 s31j3 x0 H K), F126_j3 (Value.pointer (some ⟨g_2, 0, none⟩)) (Value.bool s31j3) w R E := by
       intro s31j3 H w I h
       unfold F126_j3
       intro _
       unfold T_gnomon_text_Class_j3 at h
       refine xcond_b (fun c_67 => ?_) (fun c_67 => ?_)
       ·replace h := h.1 c_67
        exact hR 6 H _ I.drop h
       ·replace h := h.2 c_67
        refine opK_pu (pu_makeFunc _ _ _) ?_
        refine opK_calls (cap := [(Value.pointer (some ⟨g_2, 0, none⟩))]) (fun args w => Tryd.call131 args w) ?_
        refine Cv_ct (Fi := [bx g_2 21 [(Value.int .i32 x0)]]) (Fr := []) I (h g_2) (fun v_10 H_6 F_11 w_7 I_8 l_13 k_9 q_12 => ?_) (fun _ _ _ _ _ q => q.elim)
        obtain ⟨r0_14, rfl, rfl, h⟩ := q_12
        refine xcond_b (fun c_66 => ?_) (fun c_66 => ?_)
        ·replace h := h.1 c_66
         exact hR 4 H_6 _ I_8.drop h
        ·replace h := h.2 c_66
         have hj4 : ∀ (s39j4 : Bool) (H : Hp) (w : World) (_ : Inv w0 ps0 H0 H [bx g_2 21 [(Value.int .i32 x0)]] w) (_ : T_gnomon_text_Class_j4 s39j4 x0 H K), F126_j4 (Value.bool s39j4) w R E := by
          intro s39j4 H w I h
          unfold F126_j4
          intro _
          unfold T_gnomon_text_Class_j4 at h
          refine xcond_b (fun c_15 => ?_) (fun c_15 => ?_)
          ·replace h := h.1 c_15
           exact hR 3 H _ I.drop h
          ·replace h := h.2 c_15
           exact hR 6 H _ I.drop h
         refine xcut_i fun j4 hx4 => ?_
         refine opK_ld (ld1 Tryd.isAgg21 (I_8.at1 (o := 0) (vs := [(Value.int .i32 x0)]) (nb rfl) rfl)) ?_
         refine opK_pu (pu_eql _ _ _ _ _ _) ?_
         refine xcond_p (fun c_65 => ?_) (fun c_65 => ?_)
         ·replace h := h.1 c_65
          exact hx4 _ _ (hj4 (decide (x0 = 95)) H_6 _ I_8 h)
         ·replace h := h.2 c_65
          refine opK_calls (cap := [(Value.pointer (some ⟨g_2, 0, none⟩))]) (fun args w => Tryd.call131 args w) ?_
          refine Cv_ct (Fi := [bx g_2 21 [(Value.int .i32 x0)]]) (Fr := []) I_8 (h g_2) (fun v_20 H_16 F_21 w_17 I_18 l_23 k_19 q_22 => ?_) (fun _ _ _ _ _ q => q.elim)
          obtain ⟨r0_24, rfl, rfl, h⟩ := q_22
          refine xcond_b (fun c_64 => ?_) (fun c_64 => ?_)
          ·replace h := h.1 c_64
           exact hx4 _ _ (hj4 r0_24 H_16 _ I_18 h)
          ·replace h := h.2 c_64
           refine opK_calls (cap := [(Value.pointer (some ⟨g_2, 0, none⟩))]) (fun args w => Tryd.call131 args w) ?_
           refine Cv_ct (Fi := [bx g_2 21 [(Value.int .i32 x0)]]) (Fr := []) I_18 (h g_2) (fun v_29 H_25 F_30 w_26 I_27 l_32 k_28 q_31 => ?_) (fun _ _ _ _ _ q => q.elim)
           obtain ⟨r0_33, rfl, rfl, h⟩ := q_31
           refine xcond_b (fun c_63 => ?_) (fun c_63 => ?_)
           ·replace h := h.1 c_63
            exact hx4 _ _ (hj4 r0_33 H_25 _ I_27 h)
           ·replace h := h.2 c_63
            refine opK_calls (cap := [(Value.pointer (some ⟨g_2, 0, none⟩))]) (fun args w => Tryd.call131 args w) ?_
            refine Cv_ct (Fi := [bx g_2 21 [(Value.int .i32 x0)]]) (Fr := []) I_27 (h g_2) (fun v_38 H_34 F_39 w_35 I_36 l_41 k_37 q_40 => ?_) (fun _ _ _ _ _ q => q.elim)
            obtain ⟨r0_42, rfl, rfl, h⟩ := q_40
            refine xcond_b (fun c_62 => ?_) (fun c_62 => ?_)
            ·replace h := h.1 c_62
             exact hx4 _ _ (hj4 r0_42 H_34 _ I_36 h)
            ·replace h := h.2 c_62
             refine opK_calls (cap := [(Value.pointer (some ⟨g_2, 0, none⟩))]) (fun args w => Tryd.call131 args w) ?_
             refine Cv_ct (Fi := [bx g_2 21 [(Value.int .i32 x0)]]) (Fr := []) I_36 (h g_2) (fun v_47 H_43 F_48 w_44 I_45 l_50 k_46 q_49 => ?_) (fun _ _ _ _ _ q => q.elim)
             obtain ⟨r0_51, rfl, rfl, h⟩ := q_49
             refine xcond_b (fun c_61 => ?_) (fun c_61 => ?_)
             ·replace h := h.1 c_61
              exact hx4 _ _ (hj4 r0_51 H_43 _ I_45 h)
             ·replace h := h.2 c_61
              refine opK_calls (cap := [(Value.pointer (some ⟨g_2, 0, none⟩))]) (fun args w => Tryd.call131 args w) ?_
              refine Cv_ct (Fi := [bx g_2 21 [(Value.int .i32 x0)]]) (Fr := []) I_45 (h g_2) (fun v_56 H_52 F_57 w_53 I_54 l_59 k_55 q_58 => ?_) (fun _ _ _ _ _ q => q.elim)
              obtain ⟨r0_60, rfl, rfl, h⟩ := q_58
              exact hx4 _ _ (hj4 r0_60 H_52 _ I_54 h)
      refine xcut_i fun j3 hx3 => ?_
      refine opK_pu (pu_eql _ _ _ _ _ _) ?_
      refine xcond_p (fun c_69 => ?_) (fun c_69 => ?_)
      ·replace h := h.1 c_69
       exact hx3 _ _ (hj3 (decide (x0 = 215)) H _ I h)
      ·replace h := h.2 c_69
       refine opK_pu (pu_eql _ _ _ _ _ _) ?_
       refine xcond_p (fun c_68 => ?_) (fun c_68 => ?_)
       ·replace h := h.1 c_68
        exact hx3 _ _ (hj3 (decide (x0 = 247)) H _ I h)
       ·replace h := h.2 c_68
        refine opK_pu (pu_eql _ _ _ _ _ _) ?_
        exact hx3 _ _ (hj3 (decide (x0 = 930)) H _ I h)
    refine xcut_i fun j2 hx2 => ?_
    refine opK_pu (pu_eql _ _ _ _ _ _) ?_
    refine xcond_p (fun c_88 => ?_) (fun c_88 => ?_)
    ·replace h := h.1 c_88
     exact hx2 _ _ (hj2 (decide (x0 = 59)) H _ I h)
    ·replace h := h.2 c_88
     refine opK_pu (pu_eql _ _ _ _ _ _) ?_
     refine xcond_p (fun c_87 => ?_) (fun c_87 => ?_)
     ·replace h := h.1 c_87
      exact hx2 _ _ (hj2 (decide (x0 = 44)) H _ I h)
     ·replace h := h.2 c_87
      refine opK_pu (pu_eql _ _ _ _ _ _) ?_
      refine xcond_p (fun c_86 => ?_) (fun c_86 => ?_)
      ·replace h := h.1 c_86
       exact hx2 _ _ (hj2 (decide (x0 = 123)) H _ I h)
      ·replace h := h.2 c_86
       refine opK_pu (pu_eql _ _ _ _ _ _) ?_
       refine xcond_p (fun c_85 => ?_) (fun c_85 => ?_)
       ·replace h := h.1 c_85
        exact hx2 _ _ (hj2 (decide (x0 = 125)) H _ I h)
       ·replace h := h.2 c_85
        refine opK_pu (pu_eql _ _ _ _ _ _) ?_
        refine xcond_p (fun c_84 => ?_) (fun c_84 => ?_)
        ·replace h := h.1 c_84
         exact hx2 _ _ (hj2 (decide (x0 = 40)) H _ I h)
        ·replace h := h.2 c_84
         refine opK_pu (pu_eql _ _ _ _ _ _) ?_
         refine xcond_p (fun c_83 => ?_) (fun c_83 => ?_)
         ·replace h := h.1 c_83
          exact hx2 _ _ (hj2 (decide (x0 = 41)) H _ I h)
         ·replace h := h.2 c_83
          refine opK_pu (pu_eql _ _ _ _ _ _) ?_
          refine xcond_p (fun c_82 => ?_) (fun c_82 => ?_)
          ·replace h := h.1 c_82
           exact hx2 _ _ (hj2 (decide (x0 = 91)) H _ I h)
          ·replace h := h.2 c_82
           refine opK_pu (pu_eql _ _ _ _ _ _) ?_
           refine xcond_p (fun c_81 => ?_) (fun c_81 => ?_)
           ·replace h := h.1 c_81
            exact hx2 _ _ (hj2 (decide (x0 = 93)) H _ I h)
           ·replace h := h.2 c_81
            refine opK_pu (pu_eql _ _ _ _ _ _) ?_
            refine xcond_p (fun c_80 => ?_) (fun c_80 => ?_)
            ·replace h := h.1 c_80
             exact hx2 _ _ (hj2 (decide (x0 = 61)) H _ I h)
            ·replace h := h.2 c_80
             refine opK_pu (pu_eql _ _ _ _ _ _) ?_
             refine xcond_p (fun c_79 => ?_) (fun c_79 => ?_)
             ·replace h := h.1 c_79
              exact hx2 _ _ (hj2 (decide (x0 = 33)) H _ I h)
             ·replace h := h.2 c_79
              refine opK_pu (pu_eql _ _ _ _ _ _) ?_
              refine xcond_p (fun c_78 => ?_) (fun c_78 => ?_)
              ·replace h := h.1 c_78
               exact hx2 _ _ (hj2 (decide (x0 = 60)) H _ I h)
              ·replace h := h.2 c_78
               refine opK_pu (pu_eql _ _ _ _ _ _) ?_
               refine xcond_p (fun c_77 => ?_) (fun c_77 => ?_)
               ·replace h := h.1 c_77
                exact hx2 _ _ (hj2 (decide (x0 = 62)) H _ I h)
               ·replace h := h.2 c_77
                refine opK_pu (pu_eql _ _ _ _ _ _) ?_
                refine xcond_p (fun c_76 => ?_) (fun c_76 => ?_)
                ·replace h := h.1 c_76
                 exact hx2 _ _ (hj2 (decide (x0 = 43)) H _ I h)
                ·replace h := h.2 c_76
                 refine opK_pu (pu_eql _ _ _ _ _ _) ?_
                 refine xcond_p (fun c_75 => ?_) (fun c_75 => ?_)
                 ·replace h := h.1 c_75
                  exact hx2 _ _ (hj2 (decide (x0 = 45)) H _ I h)
                 ·replace h := h.2 c_75
                  refine opK_pu (pu_eql _ _ _ _ _ _) ?_
                  refine xcond_p (fun c_74 => ?_) (fun c_74 => ?_)
                  ·replace h := h.1 c_74
                   exact hx2 _ _ (hj2 (decide (x0 = 42)) H _ I h)
                  ·replace h := h.2 c_74
                   refine opK_pu (pu_eql _ _ _ _ _ _) ?_
                   refine xcond_p (fun c_73 => ?_) (fun c_73 => ?_)
                   ·replace h := h.1 c_73
                    exact hx2 _ _ (hj2 (decide (x0 = 47)) H _ I h)
                   ·replace h := h.2 c_73
                    refine opK_pu (pu_eql _ _ _ _ _ _) ?_
                    refine xcond_p (fun c_72 => ?_) (fun c_72 => ?_)
                    ·replace h := h.1 c_72
                     exact hx2 _ _ (hj2 (decide (x0 = 37)) H _ I h)
                    ·replace h := h.2 c_72
                     refine opK_pu (pu_eql _ _ _ _ _ _) ?_
                     refine xcond_p (fun c_71 => ?_) (fun c_71 => ?_)
                     ·replace h := h.1 c_71
                      exact hx2 _ _ (hj2 (decide (x0 = 38)) H _ I h)
                     ·replace h := h.2 c_71
                      refine opK_pu (pu_eql _ _ _ _ _ _) ?_
                      exact hx2 _ _ (hj2 (decide (x0 = 124)) H _ I h)
 refine xcut_i fun j1 hx1 => ?_
 refine opK_pu (pu_eql _ _ _ _ _ _) ?_
 refine xcond_p (fun c_92 => ?_) (fun c_92 => ?_)
 ·replace h := h.1 c_92
  exact hx1 _ _ (hj1 (decide (x0 = 32)) H _ I_4 h)
 ·replace h := h.2 c_92
  refine opK_pu (pu_eql _ _ _ _ _ _) ?_
  refine xcond_p (fun c_91 => ?_) (fun c_91 => ?_)
  ·replace h := h.1 c_91
   exact hx1 _ _ (hj1 (decide (x0 = 9)) H _ I_4 h)
  ·replace h := h.2 c_91
   refine opK_pu (pu_eql _ _ _ _ _ _) ?_
   exact hx1 _ _ (hj1 (decide (x0 = 13)) H _ I_4 h)
theorem L_gnomon_text_Class (x0 : Int) {H : Hp} {K : Int → Hp → Prop} (h : T_gnomon_text_Class x0 H K) : C_gnomon_text_Class x0 H K := by
 intro w I
 refine F126_ok ?_
 refine LF_gnomon_text_Class x0 I (fun r0 H' w' I' hk => ⟨H', _, I', r0, rfl, rfl, hk⟩) h


/- function 130: unicode/utf8.RuneCountInString -/
def T_unicode_utf8_RuneCountInString_j1 (s2j1 : Int) (H : Hp) (K : Int → Hp → Prop) : Prop :=
 K s2j1 H
def T_unicode_utf8_RuneCountInString_l2 (jr_1l2 : ByteArray) (s2l2 : Int) (ir_1l2 : Nat) (H : Hp) (n2 : (Int × Nat) → Hp → Prop) (K : Int → Hp → Prop) : Prop :=
 (ir_1l2 < jr_1l2.size →
 n2 ((IntKind.wrap .i64 (s2l2 + 1)), (ir_1l2 + (Utf8.decode jr_1l2 ir_1l2).2)) H) ∧
 (¬ (ir_1l2 < jr_1l2.size) →
 T_unicode_utf8_RuneCountInString_j1 s2l2 H K)
def T_unicode_utf8_RuneCountInString (x0 : ByteArray) (H : Hp) (K : Int → Hp → Prop) : Prop :=
 TL ((0, 0) : Int × Nat) H fun (s : Int × Nat) H n2 => T_unicode_utf8_RuneCountInString_l2 x0 s.1 s.2 H n2 K
theorem LF_unicode_utf8_RuneCountInString (x0 : ByteArray) {w0 w : World} {ps0 : Nat → Prop} {H0 H : Hp} {K : Int → Hp → Prop} {R : Value → World → Prop} {E : Pan} (I : Inv w0 ps0 H0 H [] w) (hR : ∀ (r0 : Int) (H' : Hp) (w' : World) (_ : Inv w0 ps0 H0 H' [] w') (_ : K r0 H'), R (vi r0) w') (h : T_unicode_utf8_RuneCountInString x0 H K) : F130 (Value.string x0) w R E := by
 unfold T_unicode_utf8_RuneCountInString at h
 unfold F130
 have hj1 : ∀ (s2j1 : Int) (H : Hp) (w : World) (_ : Inv w0 ps0 H0 H [] w) (_ : T_unicode_utf8_RuneCountInString_j1 s2j1 H K), F130_j1 (vi s2j1) w R E := by
  intro s2j1 H w I h
  unfold F130_j1
  intro _
  unfold T_unicode_utf8_RuneCountInString_j1 at h
  exact hR s2j1 H _ I h
 refine xcut_i fun j1 hx1 => ?_
 refine s_range Tryd.underlying9 x0 I fun g_2 w_3 I_4 k_5 => ?_
 obtain ⟨J_22, m_23, i_24, b_25⟩ := h
 refine xloop_J (J := fun n l w => ∃ (s : Int × Nat) (H : Hp) , n = m_23 s ∧ l = (match s with | (s2l2, ir_1l2) => [(vi s2l2)]) ∧ (match s with | (s2l2, ir_1l2) => Inv w0 ps0 H0 H [itf g_2 x0 ir_1l2] w) ∧ J_22 s H) ⟨_, (0, 0), H, rfl, rfl, I_4, i_24⟩ ?_
 rintro n_26 τ_27 w next2 ⟨⟨s2l2, ir_1l2⟩, H, rfl, l_28, I, s_29⟩ hn2
 dsimp only at l_28 I
 simp only [List.map_cons, List.map_nil, List.cons.injEq, and_true] at l_28
 have e2 := l_28
 simp only [e2]
 obtain ⟨n2, hm2, h⟩ : ∃ n2 : (Int × Nat) → Hp → Prop, (∀ s' H', n2 s' H' → J_22 s' H' ∧ m_23 s' < m_23 (s2l2, ir_1l2)) ∧ T_unicode_utf8_RuneCountInString_l2 x0 s2l2 ir_1l2 H n2 K := ⟨_, fun _ _ h => h, b_25 (s2l2, ir_1l2) H (fun s' H' => J_22 s' H' ∧ m_23 s' < m_23 (s2l2, ir_1l2)) s_29 (fun _ _ a b => ⟨a, b⟩)⟩
 unfold F130_l2
 unfold T_unicode_utf8_RuneCountInString_l2 at h
 refine s_next I (fun c_21 w_18 I_19 k_20 => ?_) (fun c_21 => ?_)
 ·replace h := h.1 c_21
  refine opK_pu (pu_extract _ _ _ rfl) ?_
  refine xcond_b (fun e => ?_) (fun e => by cases e)
  refine opK_pu (pu_add _ _ _ _ _ _) ?_
  exact hn2 _ _ _ (hm2 _ _ h).2 ⟨((IntKind.wrap .i64 (s2l2 + 1)), (ir_1l2 + (Utf8.decode x0 ir_1l2).2)), H, rfl, rfl, I_19, (hm2 _ _ h).1⟩
 ·replace h := h.2 c_21
  refine opK_pu (pu_extract _ _ _ rfl) ?_
  refine xcond_b (fun e => by cases e) (fun e => ?_)
  exact hx1 _ _ (hj1 s2l2 H _ I.drop h)
theorem L_unicode_utf8_RuneCountInString (x0 : ByteArray) {H : Hp} {K : Int → Hp → Prop} (h : T_unicode_utf8_RuneCountInString x0 H K) : C_unicode_utf8_RuneCountInString x0 H K := by
 intro w I
 refine F130_ok ?_
 refine LF_unicode_utf8_RuneCountInString x0 I (fun r0 H' w' I' hk => ⟨H', _, I', r0, rfl, rfl, hk⟩) h


/- function 115: gnomon/lex.Name -/
def T_gnomon_lex_Name_j1 (H : Hp) (K : Bool → Hp → Prop) : Prop :=
 K true H
def T_gnomon_lex_Name_l2 (jr_28l2 : ByteArray) (ir_28l2 : Nat) (H : Hp) (n2 : Nat → Hp → Prop) (K : Bool → Hp → Prop) : Prop :=
 (ir_28l2 < jr_28l2.size →
 C_gnomon_lex_goesOn ((Utf8.decode jr_28l2 ir_28l2).1 : Int) H (fun (r0_77 : Bool) (H_69 : Hp) => 
 TG ((!(!r0_77) && (decide (((ir_28l2 : Nat) : Int) = 0))) = true) (C_gnomon_text_Class ((Utf8.decode jr_28l2 ir_28l2).1 : Int) H_69) 0 H_69 (fun (r0_86 : Int) (H_78 : Hp) =>
 (((!r0_77) || ((decide (((ir_28l2 : Nat) : Int) = 0)) && (!decide (r0_86 = 3)))) = true →
 K false H_78) ∧
 (((!r0_77) || ((decide (((ir_28l2 : Nat) : Int) = 0)) && (!decide (r0_86 = 3)))) = false →
 n2 (ir_28l2 + (Utf8.decode jr_28l2 ir_28l2).2) H_78)))) ∧
 (¬ (ir_28l2 < jr_28l2.size) →
 T_gnomon_lex_Name_j1 H K)
def T_gnomon_lex_Name (x0 : ByteArray) (H : Hp) (K : Bool → Hp → Prop) : Prop :=
 TG ((decide (x0 = ⟨#[]⟩)) = false) (C_unicode_utf8_ValidString x0 H) false H (fun (r0_9 : Bool) (H_1 : Hp) =>
 TG (((decide (x0 = ⟨#[]⟩)) || (!r0_9)) = false) (C_gnomon_lex_long x0 H_1) false H_1 (fun (r0_18 : Bool) (H_10 : Hp) =>
 TG ((((decide (x0 = ⟨#[]⟩)) || (!r0_9)) || r0_18) = false) (C_gnomon_lex_Word x0 H_10) false H_10 (fun (r0_27 : Bool) (H_19 : Hp) =>
 (((((decide (x0 = ⟨#[]⟩)) || (!r0_9)) || r0_18) || r0_27) = true →
 K false H_19) ∧
 (((((decide (x0 = ⟨#[]⟩)) || (!r0_9)) || r0_18) || r0_27) = false →
 TL (0 : Nat) H_19 fun (s : Nat) H n2 => T_gnomon_lex_Name_l2 x0 s H n2 K))))
theorem LF_gnomon_lex_Name (x0 : ByteArray) {w0 w : World} {ps0 : Nat → Prop} {H0 H : Hp} {K : Bool → Hp → Prop} {R : Value → World → Prop} {E : Pan} (I : Inv w0 ps0 H0 H [] w) (hR : ∀ (r0 : Bool) (H' : Hp) (w' : World) (_ : Inv w0 ps0 H0 H' [] w') (_ : K r0 H'), R (Value.bool r0) w') (h : T_gnomon_lex_Name x0 H K) : F115 (Value.string x0) w R E := by
 unfold T_gnomon_lex_Name at h
 unfold F115
 refine opK_pu (pu_eqs _ _ _ _ _) ?_
 try simp only [gval_b]
 refine opK_g2 (D := fun v_5 w_2 => ∃ (r0_9 : Bool) (H_1 : Hp) , v_5 = (gv (decide (x0 = ⟨#[]⟩)) false (Value.bool r0_9)) ∧ (Inv w0 ps0 H0 H_1 [] w_2) ∧ (∀ i, i < w.heap.size → ¬ inF [] i → w_2.heap[i]? = w.heap[i]?) ∧ Hle H H_1 ∧ (TG (((decide (x0 = ⟨#[]⟩)) || (!r0_9)) = false) (C_gnomon_lex_long x0 H_1) false H_1 (fun (r0_18 : Bool) (H_10 : Hp) =>
 TG ((((decide (x0 = ⟨#[]⟩)) || (!r0_9)) || r0_18) = false) (C_gnomon_lex_Word x0 H_10) false H_10 (fun (r0_27 : Bool) (H_19 : Hp) =>
 (((((decide (x0 = ⟨#[]⟩)) || (!r0_9)) || r0_18) || r0_27) = true →
 K false H_19) ∧
 (((((decide (x0 = ⟨#[]⟩)) || (!r0_9)) || r0_18) || r0_27) = false →
 TL (0 : Nat) H_19 fun (s : Nat) H n2 => T_gnomon_lex_Name_l2 x0 s H n2 K))))) (fun b_100 => ?_) (fun b_100 => ?_) ?_
 ·replace h := h.1 b_100
  have hb_0 := b_100
  try simp only [gv_t hb_0]
  refine opK_calls (cap := []) (fun args w => Tryd.call122 args w) ?_
  refine Cv_ct (Fi := []) (Fr := []) I (h) (fun v_5 H_1 F_6 w_2 I_3 l_8 k_4 q_7 => ?_) (fun _ _ _ _ _ q => q.elim)
  obtain ⟨r0_9, rfl, rfl, h⟩ := q_7
  exact ⟨r0_9, H_1, by first | rfl | rw [gv_t b_100], I_3, k_4, l_8, h⟩
 ·exact ⟨false, H, by first | rfl | rw [gv_f b_100], I, fun _ _ _ => rfl, Hle.refl _, h.2 b_100⟩
 ·clear h
  rintro v_5 w_2 ⟨r0_9, H_1, rfl, I_3, k_4, l_8, h⟩
  refine opK_pu (Pu.g fun hb => by have hb_0 := hb; first | exact (pu_not _) | (simp only [gv_t hb_0]; exact (pu_not _)) | (simp only [gval_t hb_0, gv_t hb_0, gv_t hb, gva_ff hb_0, gv_n]; exact (pu_not _))) ?_
  refine opK_pu (pu_or _ _) ?_
  try simp only [gval_b]
  refine opK_g2 (D := fun v_14 w_11 => ∃ (r0_18 : Bool) (H_10 : Hp) , v_14 = (gv ((decide (x0 = ⟨#[]⟩)) || (!r0_9)) false (Value.bool r0_18)) ∧ (Inv w0 ps0 H0 H_10 [] w_11) ∧ (∀ i, i < w_2.heap.size → ¬ inF [] i → w_11.heap[i]? = w_2.heap[i]?) ∧ Hle H_1 H_10 ∧ (TG ((((decide (x0 = ⟨#[]⟩)) || (!r0_9)) || r0_18) = false) (C_gnomon_lex_Word x0 H_10) false H_10 (fun (r0_27 : Bool) (H_19 : Hp) =>
 (((((decide (x0 = ⟨#[]⟩)) || (!r0_9)) || r0_18) || r0_27) = true →
 K false H_19) ∧
 (((((decide (x0 = ⟨#[]⟩)) || (!r0_9)) || r0_18) || r0_27) = false →
 TL (0 : Nat) H_19 fun (s : Nat) H n2 => T_gnomon_lex_Name_l2 x0 s H n2 K)))) (fun b_99 => ?_) (fun b_99 => ?_) ?_
  ·replace h := h.1 b_99
   have hb_0 := b_99
   try simp only [gv_t hb_0]
   refine opK_calls (cap := []) (fun args w => Tryd.call123 args w) ?_
   refine Cv_ct (Fi := []) (Fr := []) I_3 (h) (fun v_14 H_10 F_15 w_11 I_12 l_17 k_13 q_16 => ?_) (fun _ _ _ _ _ q => q.elim)
   obtain ⟨r0_18, rfl, rfl, h⟩ := q_16
   exact ⟨r0_18, H_10, by first | rfl | rw [gv_t b_99], I_12, k_13, l_17, h⟩
  ·exact ⟨false, H_1, by first | rfl | rw [gv_f b_99], I_3, fun _ _ _ => rfl, Hle.refl _, h.2 b_99⟩
  ·clear h
   rintro v_14 w_11 ⟨r0_18, H_10, rfl, I_12, k_13, l_17, h⟩
   refine opK_pu (pu_or _ _) ?_
   try simp only [gval_b]
   refine opK_g2 (D := fun v_23 w_20 => ∃ (r0_27 : Bool) (H_19 : Hp) , v_23 = (gv (((decide (x0 = ⟨#[]⟩)) || (!r0_9)) || r0_18) false (Value.bool r0_27)) ∧ (Inv w0 ps0 H0 H_19 [] w_20) ∧ (∀ i, i < w_11.heap.size → ¬ inF [] i → w_20.heap[i]? = w_11.heap[i]?) ∧ Hle H_10 H_19 ∧ ((((((decide (x0 = ⟨#[]⟩)) || (!r0_9)) || r0_18) || r0_27) = true →
 K false H_19) ∧
 (((((decide (x0 = ⟨#[]⟩)) || (!r0_9)) || r0_18) || r0_27) = false →
 TL (0 : Nat) H_19 fun (s : Nat) H n2 => T_gnomon_lex_Name_l2 x0 s H n2 K))) (fun b_98 => ?_) (fun b_98 => ?_) ?_
   ·replace h := h.1 b_98
    have hb_0 := b_98
    try simp only [gv_t hb_0]
    refine opK_calls (cap := []) (fun args w => Tryd.call124 args w) ?_
    refine Cv_ct (Fi := []) (Fr := []) I_12 (h) (fun v_23 H_19 F_24 w_20 I_21 l_26 k_22 q_25 => ?_) (fun _ _ _ _ _ q => q.elim)
    obtain ⟨r0_27, rfl, rfl, h⟩ := q_25
    exact ⟨r0_27, H_19, by first | rfl | rw [gv_t b_98], I_21, k_22, l_26, h⟩
   ·exact ⟨false, H_10, by first | rfl | rw [gv_f b_98], I_12, fun _ _ _ => rfl, Hle.refl _, h.2 b_98⟩
   ·clear h
    rintro v_23 w_20 ⟨r0_27, H_19, rfl, I_21, k_22, l_26, h⟩
    refine opK_pu (pu_or _ _) ?_
    refine xcond_b (fun c_97 => ?_) (fun c_97 => ?_)
    ·replace h := h.1 c_97
     exact hR false H_19 _ I_21 h
    ·replace h := h.2 c_97
     have hj1 : ∀ (H : Hp) (w : World) (_ : Inv w0 ps0 H0 H [] w) (_ : T_gnomon_lex_Name_j1 H K), F115_j1 w R E := by
      intro H w I h
      unfold F115_j1
      intro _
      unfold T_gnomon_lex_Name_j1 at h
      exact hR true H _ I h
     refine xcut_i fun j1 hx1 => ?_
     refine s_range Tryd.underlying9 x0 I_21 fun g_29 w_30 I_31 k_32 => ?_
     obtain ⟨J_89, m_90, i_91, b_92⟩ := h
     refine xloop_J (J := fun n l w => ∃ (s : Nat) (H : Hp) , n = m_90 s ∧ l = [] ∧ Inv w0 ps0 H0 H [itf g_29 x0 s] w ∧ J_89 s H) ⟨_, 0, H_19, rfl, rfl, I_31, i_91⟩ ?_
     rintro n_93 τ_94 w next2 ⟨ir_28l2, H, rfl, l_95, I, s_96⟩ hn2
     clear l_95
     obtain ⟨n2, hm2, h⟩ : ∃ n2 : Nat → Hp → Prop, (∀ s' H', n2 s' H' → J_89 s' H' ∧ m_90 s' < m_90 ir_28l2) ∧ T_gnomon_lex_Name_l2 x0 ir_28l2 H n2 K := ⟨_, fun _ _ h => h, b_92 ir_28l2 H (fun s' H' => J_89 s' H' ∧ m_90 s' < m_90 ir_28l2) s_96 (fun _ _ a b => ⟨a, b⟩)⟩
     unfold F115_l2
     unfold T_gnomon_lex_Name_l2 at h
     refine s_next I (fun c_68 w_65 I_66 k_67 => ?_) (fun c_68 => ?_)
     ·replace h := h.1 c_68
      refine opK_pu (pu_extract _ _ _ rfl) ?_
      refine xcond_b (fun e => ?_) (fun e => by cases e)
      refine opK_pu (pu_extract _ _ _ rfl) ?_
      refine opK_pu (pu_extract _ _ _ rfl) ?_
      refine opK_calls (cap := []) (fun args w => Tryd.call125 args w) ?_
      refine Cv_ct (Fi := []) (Fr := [itf g_29 x0 (ir_28l2 + (Utf8.decode x0 ir_28l2).2)]) I_66 (h) (fun v_73 H_69 F_74 w_70 I_71 l_76 k_72 q_75 => ?_) (fun _ _ _ _ _ q => q.elim)
      obtain ⟨r0_77, rfl, rfl, h⟩ := q_75
      refine opK_pu (pu_not _) ?_
      try simp only [gval_b]
      refine opK_pu (Pu.g fun hb => by have hb_0 := hb; first | exact (pu_eql _ _ _ _ _ _) | (simp only [gv_t hb_0]; exact (pu_eql _ _ _ _ _ _)) | (simp only [gval_t hb_0, gv_t hb_0, gv_t hb, gva_ff hb_0, gv_n]; exact (pu_eql _ _ _ _ _ _))) ?_
      try simp only [gv_gv, gvl_ft]
      try simp only [gval_b, gv_gv, gvl_tt, gvl_tf, gvl_ft, gvl_ff, gvg_tt, gvg_tf, gvg_ft, gvg_ff]
      refine opK_e (gsgg_ft _ _ _) ?_
      refine opK_g2 (D := fun v_82 w_79 => ∃ (r0_86 : Int) (H_78 : Hp) , v_82 = (gv (!(!r0_77) && (decide (((ir_28l2 : Nat) : Int) = 0))) true (vi r0_86)) ∧ (Inv w0 ps0 H0 H_78 [itf g_29 x0 (ir_28l2 + (Utf8.decode x0 ir_28l2).2)] w_79) ∧ (∀ i, i < w_70.heap.size → ¬ inF [] i → w_79.heap[i]? = w_70.heap[i]?) ∧ Hle H_69 H_78 ∧ ((((!r0_77) || ((decide (((ir_28l2 : Nat) : Int) = 0)) && (!decide (r0_86 = 3)))) = true →
 K false H_78) ∧
 (((!r0_77) || ((decide (((ir_28l2 : Nat) : Int) = 0)) && (!decide (r0_86 = 3)))) = false →
 n2 (ir_28l2 + (Utf8.decode x0 ir_28l2).2) H_78))) (fun b_88 => ?_) (fun b_88 => ?_) ?_
      ·replace h := h.1 b_88
       obtain ⟨hb_0, hb_1⟩ := gg_ft b_88
       try simp only [gv_t b_88]
       refine opK_calls (cap := []) (fun args w => Tryd.call126 args w) ?_
       refine Cv_ct (Fi := []) (Fr := [itf g_29 x0 (ir_28l2 + (Utf8.decode x0 ir_28l2).2)]) I_71 (h) (fun v_82 H_78 F_83 w_79 I_80 l_85 k_81 q_84 => ?_) (fun _ _ _ _ _ q => q.elim)
       obtain ⟨r0_86, rfl, rfl, h⟩ := q_84
       exact ⟨r0_86, H_78, by first | rfl | rw [gv_t b_88], I_80, k_81, l_85, h⟩
      ·exact ⟨0, H_69, by first | rfl | rw [gv_f b_88], I_71, fun _ _ _ => rfl, Hle.refl _, h.2 b_88⟩
      ·clear h
       rintro v_82 w_79 ⟨r0_86, H_78, rfl, I_80, k_81, l_85, h⟩
       refine opK_pu (Pu.e (gsgg_ft _ _ _) (Pu.g fun hb => by obtain ⟨hb_0, hb_1⟩ := gg_ft hb; first | exact (pu_neq _ _ _ _ _ _) | (simp only [gv_t hb]; exact (pu_neq _ _ _ _ _ _)) | (simp only [gval_t hb_0, gv_t hb_0, gval_t hb_1, gv_t hb_1, gv_t hb, gva_tt hb]; exact (pu_neq _ _ _ _ _ _)) | (simp only [gval_t hb_0, gv_t hb_0, gval_t hb_1, gv_t hb_1, gv_t hb, gva_tf hb, gv_n]; exact (pu_neq _ _ _ _ _ _)))) ?_
       refine opK_pu (Pu.g fun hb => by have hb_0 := hb; first | exact (pu_and _ _) | (simp only [gv_t hb_0, gva_ft hb_0]; exact (pu_and _ _)) | (simp only [gval_t hb_0, gv_t hb_0, gv_t hb, gva_ff hb_0, gv_n]; exact (pu_and _ _))) ?_
       refine opK_pu (pu_or _ _) ?_
       refine xcond_b (fun c_87 => ?_) (fun c_87 => ?_)
       ·replace h := h.1 c_87
        exact hR false H_78 _ I_80.drop h
       ·replace h := h.2 c_87
        exact hn2 _ _ _ (hm2 _ _ h).2 ⟨(ir_28l2 + (Utf8.decode x0 ir_28l2).2), H_78, rfl, rfl, I_80, (hm2 _ _ h).1⟩
     ·replace h := h.2 c_68
      refine opK_pu (pu_extract _ _ _ rfl) ?_
      refine xcond_b (fun e => by cases e) (fun e => ?_)
      exact hx1 _ _ (hj1 H _ I.drop h)
theorem L_gnomon_lex_Name (x0 : ByteArray) {H : Hp} {K : Bool → Hp → Prop} (h : T_gnomon_lex_Name x0 H K) : C_gnomon_lex_Name x0 H K := by
 intro w I
 refine F115_ok ?_
 refine LF_gnomon_lex_Name x0 I (fun r0 H' w' I' hk => ⟨H', _, I', r0, rfl, rfl, hk⟩) h


/- function 89: gnomon/tree.walked$1 -/
def T_gnomon_tree_walked_1_j1 (cp2bj1_0 : Int) (cp2bj1_1 : Int) (cp2bj1_2 : Int) (cp2bj1_3 : Bool) (cp2bj1_4 : Bool) (ccp2bj1_5 : (List ByteArray)) (H : Hp) (K : Bool → Ttree_walker → (List ByteArray) → Hp → Prop) : Prop :=
 K true (Ttree_walker.mk cp2bj1_0 cp2bj1_1 cp2bj1_2 cp2bj1_3 cp2bj1_4 (Sl.mk none 0 0)) ccp2bj1_5 H
def T_gnomon_tree_walked_1_l2 (s1l2 : Int) (s9l2 : Sl) (s10l2 : Int) (s11l2 : Int) (cp2bl2_0 : Int) (cp2bl2_1 : Int) (cp2bl2_2 : Int) (cp2bl2_3 : Bool) (cp2bl2_4 : Bool) (ccp2bl2_5 : (List ByteArray)) (H : Hp) (n2 : (Int × Int × Int × Int × Bool × Bool × (List ByteArray)) → Hp → Prop) (K : Bool → Ttree_walker → (List ByteArray) → Hp → Prop) : Prop :=
 (s11l2 < s10l2 →
 (0 : Int) ≤ s11l2 ∧ (s11l2 : Int) < s9l2.n ∧ ∃ x_48 : Itree_node, EltH H s9l2 s11l2 1 [(vItree_node x_48)] ∧ 
 C_gnomon_tree_walker_meets (Ttree_walker.mk cp2bl2_0 cp2bl2_1 cp2bl2_2 cp2bl2_3 cp2bl2_4 (Sl.mk none 0 0)) ccp2bl2_5 x_48 s1l2 H (fun (r0_65 : Bool) (y0_65 : Ttree_walker) (y0_5_65 : (List ByteArray)) (H_57 : Hp) => 
 TG ((!r0_65) = false) (C_inv_tree_node_parts x_48 H_57) (Sl.mk none 0 0) H_57 (fun (r0_71 : Sl) (H_66 : Hp) =>
 TG ((!r0_65) = false) (fun k_ => C_gnomon_tree_walked_1 r0_71 (IntKind.wrap .i64 (s1l2 + 1)) (Ttree_walker.mk ((y0_65).fnodes) ((y0_65).fdepth) ((y0_65).fe) ((y0_65).fform) ((y0_65).fnamed) (Sl.mk none 0 0)) y0_5_65 H_66 fun r0_80 y0_80 y0_5_80 H_ => k_ (r0_80, y0_80, y0_5_80) H_) (false, (Ttree_walker.mk ((y0_65).fnodes) ((y0_65).fdepth) ((y0_65).fe) ((y0_65).fform) ((y0_65).fnamed) (Sl.mk none 0 0)), y0_5_65) H_66 (fun (s_83 : Bool × Ttree_walker × (List ByteArray)) (H_72 : Hp) =>
 (((!r0_65) || (!s_83.1)) = true →
 K false (Ttree_walker.mk ((s_83.2.1).fnodes) ((s_83.2.1).fdepth) ((s_83.2.1).fe) ((s_83.2.1).fform) ((s_83.2.1).fnamed) (Sl.mk none 0 0)) s_83.2.2 H_72) ∧
 (((!r0_65) || (!s_83.1)) = false →
 n2 ((IntKind.wrap .i64 (s11l2 + 1)), ((s_83.2.1).fnodes), ((s_83.2.1).fdepth), ((s_83.2.1).fe), ((s_83.2.1).fform), ((s_83.2.1).fnamed), s_83.2.2) H_72))))) ∧
 (¬ (s11l2 < s10l2) →
 T_gnomon_tree_walked_1_j1 cp2bl2_0 cp2bl2_1 cp2bl2_2 cp2bl2_3 cp2bl2_4 ccp2bl2_5 H K)
def T_gnomon_tree_walked_1 (x0 : Sl) (x1 : Int) (x2 : Ttree_walker) (x2_5 : (List ByteArray)) (H : Hp) (K : Bool → Ttree_walker → (List ByteArray) → Hp → Prop) : Prop :=
 TL ((0, x2.fnodes, x2.fdepth, x2.fe, x2.fform, x2.fnamed, x2_5) : Int × Int × Int × Int × Bool × Bool × (List ByteArray)) H fun (s : Int × Int × Int × Int × Bool × Bool × (List ByteArray)) H n2 => T_gnomon_tree_walked_1_l2 x1 x0 (x0.n : Int) s.1 s.2.1 s.2.2.1 s.2.2.2.1 s.2.2.2.2.1 s.2.2.2.2.2.1 s.2.2.2.2.2.2 H n2 K
theorem LF_gnomon_tree_walked_1 (x0 : Sl) (x1 : Int) (x2 : Ttree_walker) (x2_5 : (List ByteArray)) (g2 g2b g3 : Nat) (sx2_5 : Sl) (Fx2_5 : Frag) (hx2_5 : RowL 9 1 cs_string sx2_5 x2_5 Fx2_5) {w0 w : World} {ps0 : Nat → Prop} {H0 H : Hp} {K : Bool → Ttree_walker → (List ByteArray) → Hp → Prop} {R : Value → World → Prop} {E : Pan} (I : Inv w0 ps0 H0 H [bx g2 93 [(Value.pointer (some ⟨g2b, 0, none⟩))], bx g2b 92 [(vi x2.fnodes), (vi x2.fdepth), (vi x2.fe), (Value.bool x2.fform), (Value.bool x2.fnamed), (vs sx2_5)], Fx2_5, bx g3 139 [(Value.func (.func 89) #[] #[(Value.pointer (some ⟨g2, 0, none⟩)), (Value.pointer (some ⟨g3, 0, none⟩))])]] w) (hR : ∀ (r0 : Bool) (y0 : Ttree_walker) (y0_5 : (List ByteArray)) (sy0_5 : Sl) (Fy0_5 : Frag) (H' : Hp) (w' : World) (_ : RowL 9 1 cs_string sy0_5 y0_5 Fy0_5) (_ : Inv w0 ps0 H0 H' [bx g2 93 [(Value.pointer (some ⟨g2b, 0, none⟩))], bx g2b 92 [(vi y0.fnodes), (vi y0.fdepth), (vi y0.fe), (Value.bool y0.fform), (Value.bool y0.fnamed), (vs sy0_5)], Fy0_5, bx g3 139 [(Value.func (.func 89) #[] #[(Value.pointer (some ⟨g2, 0, none⟩)), (Value.pointer (some ⟨g3, 0, none⟩))])]] w') (_ : K r0 y0 y0_5 H'), R (Value.bool r0) w') (h : T_gnomon_tree_walked_1 x0 x1 x2 x2_5 H K) : F89 (vs x0) (vi x1) (Value.pointer (some ⟨g2, 0, none⟩)) (Value.pointer (some ⟨g3, 0, none⟩)) w R E := by
 unfold T_gnomon_tree_walked_1 at h
 unfold F89
 have hj1 : ∀ (cp2bj1_0 : Int) (cp2bj1_1 : Int) (cp2bj1_2 : Int) (cp2bj1_3 : Bool) (cp2bj1_4 : Bool) (ccp2bj1_5 : (List ByteArray)) (scp2bj1_5 : Sl) (Fcp2bj1_5 : Frag) (H : Hp) (w : World) (_ : RowL 9 1 cs_string scp2bj1_5 ccp2bj1_5 Fcp2bj1_5) (_ : Inv w0 ps0 H0 H [bx g2 93 [(Value.pointer (some ⟨g2b, 0, none⟩))], bx g2b 92 [(vi cp2bj1_0), (vi cp2bj1_1), (vi cp2bj1_2), (Value.bool cp2bj1_3), (Value.bool cp2bj1_4), (vs scp2bj1_5)], bx g3 139 [(Value.func (.func 89) #[] #[(Value.pointer (some ⟨g2, 0, none⟩)), (Value.pointer (some ⟨g3, 0, none⟩))])], Fcp2bj1_5] w) (_ : T_gnomon_tree_walked_1_j1 cp2bj1_0 cp2bj1_1 cp2bj1_2 cp2bj1_3 cp2bj1_4 ccp2bj1_5 H K), F89_j1 w R E := by
  intro cp2bj1_0 cp2bj1_1 cp2bj1_2 cp2bj1_3 cp2bj1_4 ccp2bj1_5 scp2bj1_5 Fcp2bj1_5 H w hcp2bj1_5 I h
  unfold F89_j1
  intro _
  unfold T_gnomon_tree_walked_1_j1 at h
  exact hR true (Ttree_walker.mk cp2bj1_0 cp2bj1_1 cp2bj1_2 cp2bj1_3 cp2bj1_4 (Sl.mk none 0 0)) ccp2bj1_5 scp2bj1_5 Fcp2bj1_5 H _ hcp2bj1_5 ((((I.bring 2).bring 3).bring 3).bring 3) h
 refine xcut_i fun j1 hx1 => ?_
 refine opK_pu (pu_len_97 _ _ _) ?_
 obtain ⟨J_87, m_88, i_89, b_90⟩ := h
 refine xloop_J (J := fun n l w => ∃ (s : Int × Int × Int × Int × Bool × Bool × (List ByteArray)) (H : Hp) (scp2bl2_5 : Sl) (Fcp2bl2_5 : Frag) , n = m_88 s ∧ l = (match s with | (s11l2, cp2bl2_0, cp2bl2_1, cp2bl2_2, cp2bl2_3, cp2bl2_4, ccp2bl2_5) => [(vi s11l2)]) ∧ (match s with | (s11l2, cp2bl2_0, cp2bl2_1, cp2bl2_2, cp2bl2_3, cp2bl2_4, ccp2bl2_5) => RowL 9 1 cs_string scp2bl2_5 ccp2bl2_5 Fcp2bl2_5) ∧ (match s with | (s11l2, cp2bl2_0, cp2bl2_1, cp2bl2_2, cp2bl2_3, cp2bl2_4, ccp2bl2_5) => Inv w0 ps0 H0 H [bx g2 93 [(Value.pointer (some ⟨g2b, 0, none⟩))], bx g2b 92 [(vi cp2bl2_0), (vi cp2bl2_1), (vi cp2bl2_2), (Value.bool cp2bl2_3), (Value.bool cp2bl2_4), (vs scp2bl2_5)], bx g3 139 [(Value.func (.func 89) #[] #[(Value.pointer (some ⟨g2, 0, none⟩)), (Value.pointer (some ⟨g3, 0, none⟩))])], Fcp2bl2_5] w) ∧ J_87 s H) ⟨_, (0, x2.fnodes, x2.fdepth, x2.fe, x2.fform, x2.fnamed, x2_5), H, sx2_5, Fx2_5, rfl, rfl, hx2_5, ((((I.bring 2).bring 3).bring 3).bring 3), i_89⟩ ?_
 rintro n_91 τ_92 w next2 ⟨⟨s11l2, cp2bl2_0, cp2bl2_1, cp2bl2_2, cp2bl2_3, cp2bl2_4, ccp2bl2_5⟩, H, scp2bl2_5, Fcp2bl2_5, rfl, l_93, hcp2bl2_5, I, s_94⟩ hn2
 dsimp only at l_93 I hcp2bl2_5
 simp only [List.map_cons, List.map_nil, List.cons.injEq, and_true] at l_93
 have e11 := l_93
 simp only [e11]
 obtain ⟨n2, hm2, h⟩ : ∃ n2 : (Int × Int × Int × Int × Bool × Bool × (List ByteArray)) → Hp → Prop, (∀ s' H', n2 s' H' → J_87 s' H' ∧ m_88 s' < m_88 (s11l2, cp2bl2_0, cp2bl2_1, cp2bl2_2, cp2bl2_3, cp2bl2_4, ccp2bl2_5)) ∧ T_gnomon_tree_walked_1_l2 x1 x0 (x0.n : Int) s11l2 cp2bl2_0 cp2bl2_1 cp2bl2_2 cp2bl2_3 cp2bl2_4 ccp2bl2_5 H n2 K := ⟨_, fun _ _ h => h, b_90 (s11l2, cp2bl2_0, cp2bl2_1, cp2bl2_2, cp2bl2_3, cp2bl2_4, ccp2bl2_5) H (fun s' H' => J_87 s' H' ∧ m_88 s' < m_88 (s11l2, cp2bl2_0, cp2bl2_1, cp2bl2_2, cp2bl2_3, cp2bl2_4, ccp2bl2_5)) s_94 (fun _ _ a b => ⟨a, b⟩)⟩
 unfold F89_l2
 unfold T_gnomon_tree_walked_1_l2 at h
 refine opK_pu (pu_lss _ _ _ _ _ _) ?_
 refine xcond_p (fun c_86 => ?_) (fun c_86 => ?_)
 ·replace h := h.1 c_86
  obtain ⟨h_51, h_52, x_48, h_54, h⟩ := h
  obtain ⟨g_49, o_50, h_53, h_54⟩ := h_54
  refine opK_pu (pu_ix_97 h_53 _ _ _ _ h_51 h_52) ?_
  refine opK_ld (ld1 (v := (vItree_node x_48)) Tryd.isAgg141 (I.atH h_54)) ?_
  refine s_dX I fun w_55 I_56 => ?_
  refine qL_ld (ld1 Tryd.isAgg93 (I_56.at1 (o := 0) (vs := [(Value.pointer (some ⟨g2b, 0, none⟩))]) (nb rfl) rfl)) ?_
  refine opK_calls (cap := []) (fun args w => Tryd.call90 args w) ?_
  refine Cv_ct (Fi := [bx g2b 92 [(vi cp2bl2_0), (vi cp2bl2_1), (vi cp2bl2_2), (Value.bool cp2bl2_3), (Value.bool cp2bl2_4), (vs scp2bl2_5)], Fcp2bl2_5]) (Fr := [bx g2 93 [(Value.pointer (some ⟨g2b, 0, none⟩))], bx g3 139 [(Value.func (.func 89) #[] #[(Value.pointer (some ⟨g2, 0, none⟩)), (Value.pointer (some ⟨g3, 0, none⟩))])]]) ((I_56.bring 3).bring 2) (h g2b scp2bl2_5 Fcp2bl2_5 hcp2bl2_5) (fun v_61 H_57 F_62 w_58 I_59 l_64 k_60 q_63 => ?_) (fun _ _ _ _ _ q => q.elim)
  obtain ⟨r0_65, y0_65, y0_5_65, sy0_5_65, Fy0_5_65, rfl, rfl, hy0_5_65, h⟩ := q_63
  refine qP_pu (pu_not _) ?_
  try simp only [gval_b]
  try simp only [gval_b, gv_gv, gvl_tt, gvl_tf, gvl_ft, gvl_ff, gvg_tt, gvg_tf, gvg_ft, gvg_ff]
  refine qP_pu (Pu.g fun hb => by have hb_0 := hb; first | exact (pu_add _ _ _ _ _ _) | (simp only [gv_t hb_0]; exact (pu_add _ _ _ _ _ _)) | (simp only [gval_t hb_0, gv_t hb_0, gv_t hb, gva_ff hb_0, gv_n]; exact (pu_add _ _ _ _ _ _))) ?_
  refine qL_ld (Ld.g fun hb => by have hb_0 := hb; first | exact (ld1 Tryd.isAgg139 ((I_59.bring 3).at1 (o := 0) (vs := [(Value.func (.func 89) #[] #[(Value.pointer (some ⟨g2, 0, none⟩)), (Value.pointer (some ⟨g3, 0, none⟩))])]) (nb rfl) rfl)) | (simp only [gval_t hb_0, gv_t hb_0, gv_t hb, gva_ft hb_0]; exact (ld1 Tryd.isAgg139 ((I_59.bring 3).at1 (o := 0) (vs := [(Value.func (.func 89) #[] #[(Value.pointer (some ⟨g2, 0, none⟩)), (Value.pointer (some ⟨g3, 0, none⟩))])]) (nb rfl) rfl))) | (simp only [gval_t hb_0, gv_t hb_0, gv_t hb, gva_ff hb_0, gv_n]; exact (ld1 Tryd.isAgg139 ((I_59.bring 3).at1 (o := 0) (vs := [(Value.func (.func 89) #[] #[(Value.pointer (some ⟨g2, 0, none⟩)), (Value.pointer (some ⟨g3, 0, none⟩))])]) (nb rfl) rfl)))) ?_
  refine opK_g2 (D := fun v_85 w_67 => ∃ (r0_71 : Sl) (H_66 : Hp), v_85 = (gv (!r0_65) false (vs r0_71)) ∧ (Inv w0 ps0 H0 H_66 [bx g2b 92 [(vi ((y0_65).fnodes)), (vi ((y0_65).fdepth)), (vi ((y0_65).fe)), (Value.bool ((y0_65).fform)), (Value.bool ((y0_65).fnamed)), (vs sy0_5_65)], Fy0_5_65, bx g2 93 [(Value.pointer (some ⟨g2b, 0, none⟩))], bx g3 139 [(Value.func (.func 89) #[] #[(Value.pointer (some ⟨g2, 0, none⟩)), (Value.pointer (some ⟨g3, 0, none⟩))])]] w_67) ∧ (∀ i, i < w_58.heap.size → ¬ inF [] i → w_67.heap[i]? = w_58.heap[i]?) ∧ Hle H_57 H_66 ∧ (TG ((!r0_65) = false) (fun k_ => C_gnomon_tree_walked_1 r0_71 (IntKind.wrap .i64 (x1 + 1)) (Ttree_walker.mk ((y0_65).fnodes) ((y0_65).fdepth) ((y0_65).fe) ((y0_65).fform) ((y0_65).fnamed) (Sl.mk none 0 0)) y0_5_65 H_66 fun r0_80 y0_80 y0_5_80 H_ => k_ (r0_80, y0_80, y0_5_80) H_) (false, (Ttree_walker.mk ((y0_65).fnodes) ((y0_65).fdepth) ((y0_65).fe) ((y0_65).fform) ((y0_65).fnamed) (Sl.mk none 0 0)), y0_5_65) H_66 (fun (s_83 : Bool × Ttree_walker × (List ByteArray)) (H_72 : Hp) =>
 (((!r0_65) || (!s_83.1)) = true →
 K false (Ttree_walker.mk ((s_83.2.1).fnodes) ((s_83.2.1).fdepth) ((s_83.2.1).fe) ((s_83.2.1).fform) ((s_83.2.1).fnamed) (Sl.mk none 0 0)) s_83.2.2 H_72) ∧
 (((!r0_65) || (!s_83.1)) = false →
 n2 ((IntKind.wrap .i64 (s11l2 + 1)), ((s_83.2.1).fnodes), ((s_83.2.1).fdepth), ((s_83.2.1).fe), ((s_83.2.1).fform), ((s_83.2.1).fnamed), s_83.2.2) H_72)))) (fun b_84 => ?_) (fun b_84 => ?_) ?_
  ·replace h := h.1 b_84
   have hb_0 := b_84
   try simp only [gv_t hb_0]
   refine ct_inv_tree_node_parts I_59 h (fun r0_71 H_66 w_67 I_68 l_70 k_69 h => ?_)
   exact ⟨r0_71, H_66, by first | rfl | rw [gv_t b_84], I_68, k_69, l_70, h⟩
  ·exact ⟨(Sl.mk none 0 0), H_57, by first | rfl | rw [gv_f b_84], I_59, fun _ _ _ => rfl, Hle.refl _, h.2 b_84⟩
  ·clear h
   rintro v_85 w_67 ⟨r0_71, H_66, rfl, I_68, k_69, l_70, h⟩
   refine ⟨(k_69 _ (I_59.bring 3).lt1 (Inv.not_in (Fi := []) (I_59.bring 3))), ?_⟩
   refine opK_g2 (D := fun v_76 w_73 => ∃ (r0_80 : Bool) (y0_80 : Ttree_walker) (y0_5_80 : (List ByteArray)) (H_72 : Hp) (sy0_5_80 : Sl) (Fy0_5_80 : Frag) , v_76 = (gv (!r0_65) false (Value.bool r0_80)) ∧ (RowL 9 1 cs_string sy0_5_80 y0_5_80 Fy0_5_80) ∧ (Inv w0 ps0 H0 H_72 [bx g2 93 [(Value.pointer (some ⟨g2b, 0, none⟩))], bx g2b 92 [(vi ((y0_80).fnodes)), (vi ((y0_80).fdepth)), (vi ((y0_80).fe)), (Value.bool ((y0_80).fform)), (Value.bool ((y0_80).fnamed)), (vs sy0_5_80)], Fy0_5_80, bx g3 139 [(Value.func (.func 89) #[] #[(Value.pointer (some ⟨g2, 0, none⟩)), (Value.pointer (some ⟨g3, 0, none⟩))])]] w_73) ∧ (∀ i, i < w_67.heap.size → ¬ inF [bx g2 93 [(Value.pointer (some ⟨g2b, 0, none⟩))], bx g2b 92 [(vi ((y0_65).fnodes)), (vi ((y0_65).fdepth)), (vi ((y0_65).fe)), (Value.bool ((y0_65).fform)), (Value.bool ((y0_65).fnamed)), (vs sy0_5_65)], Fy0_5_65, bx g3 139 [(Value.func (.func 89) #[] #[(Value.pointer (some ⟨g2, 0, none⟩)), (Value.pointer (some ⟨g3, 0, none⟩))])]] i → w_73.heap[i]? = w_67.heap[i]?) ∧ Hle H_66 H_72 ∧ ((((!r0_65) || (!r0_80)) = true →
 K false (Ttree_walker.mk ((y0_80).fnodes) ((y0_80).fdepth) ((y0_80).fe) ((y0_80).fform) ((y0_80).fnamed) (Sl.mk none 0 0)) y0_5_80 H_72) ∧
 (((!r0_65) || (!r0_80)) = false →
 n2 ((IntKind.wrap .i64 (s11l2 + 1)), ((y0_80).fnodes), ((y0_80).fdepth), ((y0_80).fe), ((y0_80).fform), ((y0_80).fnamed), y0_5_80) H_72))) (fun b_82 => ?_) (fun b_82 => ?_) ?_
   ·replace h := h.1 b_82
    have hb_0 := b_82
    try simp only [gv_t hb_0]
    refine opK_calls (cap := [(Value.pointer (some ⟨g2, 0, none⟩)), (Value.pointer (some ⟨g3, 0, none⟩))]) (fun args w => Tryd.call89 args w) ?_
    refine Cv_ct (Fi := [bx g2 93 [(Value.pointer (some ⟨g2b, 0, none⟩))], bx g2b 92 [(vi ((y0_65).fnodes)), (vi ((y0_65).fdepth)), (vi ((y0_65).fe)), (Value.bool ((y0_65).fform)), (Value.bool ((y0_65).fnamed)), (vs sy0_5_65)], Fy0_5_65, bx g3 139 [(Value.func (.func 89) #[] #[(Value.pointer (some ⟨g2, 0, none⟩)), (Value.pointer (some ⟨g3, 0, none⟩))])]]) (Fr := []) ((((I_68.bring 3).bring 2).bring 2).bring 3) (h g2 g2b g3 sy0_5_65 Fy0_5_65 hy0_5_65) (fun v_76 H_72 F_77 w_73 I_74 l_79 k_75 q_78 => ?_) (fun _ _ _ _ _ q => q.elim)
    obtain ⟨r0_80, y0_80, y0_5_80, sy0_5_80, Fy0_5_80, rfl, rfl, hy0_5_80, h⟩ := q_78
    exact ⟨r0_80, y0_80, y0_5_80, H_72, sy0_5_80, Fy0_5_80, by first | rfl | rw [gv_t b_82], hy0_5_80, I_74, k_75, l_79, h⟩
   ·exact ⟨false, (Ttree_walker.mk ((y0_65).fnodes) ((y0_65).fdepth) ((y0_65).fe) ((y0_65).fform) ((y0_65).fnamed) (Sl.mk none 0 0)), y0_5_65, H_66, sy0_5_65, Fy0_5_65, by first | rfl | rw [gv_f b_82], hy0_5_65, ((((I_68.bring 3).bring 2).bring 2).bring 3), fun _ _ _ => rfl, Hle.refl _, h.2 b_82⟩
   ·clear h
    rintro v_76 w_73 ⟨r0_80, y0_80, y0_5_80, H_72, sy0_5_80, Fy0_5_80, rfl, hy0_5_80, I_74, k_75, l_79, h⟩
    refine qP_pu (Pu.g fun hb => by have hb_0 := hb; first | exact (pu_not _) | (simp only [gv_t hb_0]; exact (pu_not _)) | (simp only [gval_t hb_0, gv_t hb_0, gv_t hb, gva_ff hb_0, gv_n]; exact (pu_not _))) ?_
    refine qP_pu (pu_or _ _) ?_
    refine xcond_b (fun c_81 => ?_) (fun c_81 => ?_)
    ·replace h := h.1 c_81
     exact hR false (Ttree_walker.mk ((y0_80).fnodes) ((y0_80).fdepth) ((y0_80).fe) ((y0_80).fform) ((y0_80).fnamed) (Sl.mk none 0 0)) y0_5_80 sy0_5_80 Fy0_5_80 H_72 _ hy0_5_80 ((((I_74.bring 3).bring 3).bring 3).bring 3) h
    ·replace h := h.2 c_81
     refine opK_pu (pu_add _ _ _ _ _ _) ?_
     exact hn2 _ _ _ (hm2 _ _ h).2 ⟨((IntKind.wrap .i64 (s11l2 + 1)), ((y0_80).fnodes), ((y0_80).fdepth), ((y0_80).fe), ((y0_80).fform), ((y0_80).fnamed), y0_5_80), H_72, sy0_5_80, Fy0_5_80, rfl, rfl, hy0_5_80, ((((I_74.bring 2).bring 3).bring 3).bring 3), (hm2 _ _ h).1⟩
 ·replace h := h.2 c_86
  exact hx1 _ _ (hj1 cp2bl2_0 cp2bl2_1 cp2bl2_2 cp2bl2_3 cp2bl2_4 ccp2bl2_5 scp2bl2_5 Fcp2bl2_5 H _ hcp2bl2_5 ((((I.bring 3).bring 3).bring 3).bring 3) h)
theorem L_gnomon_tree_walked_1 (x0 : Sl) (x1 : Int) (x2 : Ttree_walker) (x2_5 : (List ByteArray)) {H : Hp} {K : Bool → Ttree_walker → (List ByteArray) → Hp → Prop} (h : T_gnomon_tree_walked_1 x0 x1 x2 x2_5 H K) : C_gnomon_tree_walked_1 x0 x1 x2 x2_5 H K := by
 intro g2 g2b g3 sx2_5 Fx2_5 hx2_5 w I
 refine F89_ok ?_
 refine LF_gnomon_tree_walked_1 x0 x1 x2 x2_5 g2 g2b g3 sx2_5 Fx2_5 hx2_5 I (fun r0 y0 y0_5 sy0_5 Fy0_5 H' w' khy0_5 I' hk => ⟨H', _, I', r0, y0, y0_5, sy0_5, Fy0_5, rfl, rfl, khy0_5, hk⟩) h


/- function 57: gnomon/tree.walked -/
def T_gnomon_tree_walked_j1 (cr_1j1_0 : Int) (cr_1j1_1 : Int) (cr_1j1_2 : Int) (cr_1j1_3 : Bool) (cr_1j1_4 : Bool) (ccr_1j1_5 : (List ByteArray)) (H : Hp) (K : Ttree_walker → Hp → Prop) : Prop :=
 ∀ (scr_1j1_5 : Sl) (H_32 : Hp), Hle H H_32 → SlH H_32 1 cs_string scr_1j1_5 ccr_1j1_5 → scr_1j1_5.n ≤ scr_1j1_5.c →
 K (Ttree_walker.mk cr_1j1_0 cr_1j1_1 cr_1j1_2 cr_1j1_3 cr_1j1_4 scr_1j1_5) H_32
def T_gnomon_tree_walked (x0 : Sl) (H : Hp) (K : Ttree_walker → Hp → Prop) : Prop :=
 C_gnomon_tree_walked_1 x0 1 (Ttree_walker.mk 0 0 0 false false (Sl.mk none 0 0)) [] H (fun (r0_31 : Bool) (y0_31 : Ttree_walker) (y0_5_31 : (List ByteArray)) (H_23 : Hp) => 
 ((!r0_31) = true →
 T_gnomon_tree_walked_j1 ((y0_31).fnodes) ((y0_31).fdepth) ((y0_31).fe) ((y0_31).fform) ((y0_31).fnamed) y0_5_31 H_23 K) ∧
 ((!r0_31) = false →
 (((y0_31).fform) = true →
 T_gnomon_tree_walked_j1 ((y0_31).fnodes) ((y0_31).fdepth) 30 ((y0_31).fform) ((y0_31).fnamed) y0_5_31 H_23 K) ∧
 (((y0_31).fform) = false →
 (((y0_31).fnamed) = true →
 T_gnomon_tree_walked_j1 ((y0_31).fnodes) ((y0_31).fdepth) 31 ((y0_31).fform) ((y0_31).fnamed) y0_5_31 H_23 K) ∧
 (((y0_31).fnamed) = false →
 T_gnomon_tree_walked_j1 ((y0_31).fnodes) ((y0_31).fdepth) ((y0_31).fe) ((y0_31).fform) ((y0_31).fnamed) y0_5_31 H_23 K))))
theorem LF_gnomon_tree_walked (x0 : Sl) {w0 w : World} {ps0 : Nat → Prop} {H0 H : Hp} {K : Ttree_walker → Hp → Prop} {R : Value → World → Prop} {E : Pan} (I : Inv w0 ps0 H0 H [] w) (hR : ∀ (r0 : Ttree_walker) (gr0 : Nat) (H' : Hp) (w' : World) (_ : Inv w0 ps0 H0 H' [bx gr0 92 (cs_tree_walker r0)] w') (_ : K r0 H'), R (Value.pointer (some ⟨gr0, 0, none⟩)) w') (h : T_gnomon_tree_walked x0 H K) : F57 (vs x0) w R E := by
 unfold T_gnomon_tree_walked at h
 unfold F57
 refine opK_pu (pu_bld_92 ) ?_
 refine s_box I (cs := [(vi 0), (vi 0), (vi 0), (Value.bool false), (Value.bool false), (Value.slice none 0 0)]) rfl fun g_2 w_3 I_4 k_5 => ?_
 refine s_alloc I_4 Tryd.zeroValue93 (cs := [(Value.pointer none)]) rfl fun g_7 w_8 I_9 k_10 => ?_
 refine s_store I_9 Tryd.sizeOf93 (vs := [(Value.pointer (some ⟨g_2, 0, none⟩))]) (cs' := [(Value.pointer (some ⟨g_2, 0, none⟩))]) rfl rfl (nb rfl) rfl rfl fun w_11 I_12 k_13 => ?_
 refine s_alloc I_12 Tryd.zeroValue139 (cs := [Value.nilFunc]) rfl fun g_15 w_16 I_17 k_18 => ?_
 refine opK_pu (pu_makeFunc _ _ _) ?_
 refine s_store I_17 Tryd.sizeOf139 (vs := [(Value.func (.func 89) #[] #[(Value.pointer (some ⟨g_7, 0, none⟩)), (Value.pointer (some ⟨g_15, 0, none⟩))])]) (cs' := [(Value.func (.func 89) #[] #[(Value.pointer (some ⟨g_7, 0, none⟩)), (Value.pointer (some ⟨g_15, 0, none⟩))])]) rfl rfl (nb rfl) rfl rfl fun w_19 I_20 k_21 => ?_
 have hj1 : ∀ (cr_1j1_0 : Int) (cr_1j1_1 : Int) (cr_1j1_2 : Int) (cr_1j1_3 : Bool) (cr_1j1_4 : Bool) (ccr_1j1_5 : (List ByteArray)) (scr_1j1_5 : Sl) (Fcr_1j1_5 : Frag) (H : Hp) (w : World) (_ : RowL 9 1 cs_string scr_1j1_5 ccr_1j1_5 Fcr_1j1_5) (_ : Inv w0 ps0 H0 H [bx g_7 93 [(Value.pointer (some ⟨g_2, 0, none⟩))], bx g_2 92 [(vi cr_1j1_0), (vi cr_1j1_1), (vi cr_1j1_2), (Value.bool cr_1j1_3), (Value.bool cr_1j1_4), (vs scr_1j1_5)], bx g_15 139 [(Value.func (.func 89) #[] #[(Value.pointer (some ⟨g_7, 0, none⟩)), (Value.pointer (some ⟨g_15, 0, none⟩))])], Fcr_1j1_5] w) (_ : T_gnomon_tree_walked_j1 cr_1j1_0 cr_1j1_1 cr_1j1_2 cr_1j1_3 cr_1j1_4 ccr_1j1_5 H K), F57_j1 (Value.pointer (some ⟨g_7, 0, none⟩)) w R E := by
  intro cr_1j1_0 cr_1j1_1 cr_1j1_2 cr_1j1_3 cr_1j1_4 ccr_1j1_5 scr_1j1_5 Fcr_1j1_5 H w hcr_1j1_5 I h
  unfold F57_j1
  intro _
  unfold T_gnomon_tree_walked_j1 at h
  refine opK_ld (ld1 Tryd.isAgg93 (I.at1 (o := 0) (vs := [(Value.pointer (some ⟨g_2, 0, none⟩))]) (nb rfl) rfl)) ?_
  obtain ⟨H_32, I_33, l_34, h_35, h_36⟩ := Inv.freezeC (I.bring 3) hcr_1j1_5 (by decide)
  replace h := h scr_1j1_5 H_32 l_34 h_35 h_36
  exact hR (Ttree_walker.mk cr_1j1_0 cr_1j1_1 cr_1j1_2 cr_1j1_3 cr_1j1_4 scr_1j1_5) g_2 H_32 _ (I_33.drop.bring 1).drop h
 refine xcut_i fun j1 hx1 => ?_
 refine opK_ld (ld1 Tryd.isAgg139 (I_20.at1 (o := 0) (vs := [(Value.func (.func 89) #[] #[(Value.pointer (some ⟨g_7, 0, none⟩)), (Value.pointer (some ⟨g_15, 0, none⟩))])]) (nb rfl) rfl)) ?_
 refine opK_calls (cap := [(Value.pointer (some ⟨g_7, 0, none⟩)), (Value.pointer (some ⟨g_15, 0, none⟩))]) (fun args w => Tryd.call89 args w) ?_
 refine Cv_ct (Fi := [bx g_7 93 [(Value.pointer (some ⟨g_2, 0, none⟩))], bx g_2 92 [(vi 0), (vi 0), (vi 0), (Value.bool false), (Value.bool false), (Value.slice (Sl.mk none 0 0).a (Sl.mk none 0 0).n (Sl.mk none 0 0).c)], [], bx g_15 139 [(Value.func (.func 89) #[] #[(Value.pointer (some ⟨g_7, 0, none⟩)), (Value.pointer (some ⟨g_15, 0, none⟩))])]]) (Fr := []) ((((I_20.nil.bring 1).bring 1).bring 3).bring 3) (h g_7 g_2 g_15 (Sl.mk none 0 0) ([]) (RowL.nil (e := 9) cs_string_l cs_string_o)) (fun v_27 H_23 F_28 w_24 I_25 l_30 k_26 q_29 => ?_) (fun _ _ _ _ _ q => q.elim)
 obtain ⟨r0_31, y0_31, y0_5_31, sy0_5_31, Fy0_5_31, rfl, rfl, hy0_5_31, h⟩ := q_29
 refine opK_pu (pu_not _) ?_
 refine xcond_b (fun c_45 => ?_) (fun c_45 => ?_)
 ·replace h := h.1 c_45
  exact hx1 _ _ (hj1 ((y0_31).fnodes) ((y0_31).fdepth) ((y0_31).fe) ((y0_31).fform) ((y0_31).fnamed) y0_5_31 sy0_5_31 Fy0_5_31 H_23 _ hy0_5_31 ((((I_25.bring 2).bring 3).bring 3).bring 3) h)
 ·replace h := h.2 c_45
  refine opK_ld (ld1 Tryd.isAgg93 (I_25.at1 (o := 0) (vs := [(Value.pointer (some ⟨g_2, 0, none⟩))]) (nb rfl) rfl)) ?_
  refine opK_pu (pu_nilp _) ?_
  refine opK_pu pu_fa_92_3 ?_
  refine opK_ld (ld1 Tryd.isAgg4 ((I_25.bring 1).at1 (o := 3) (vs := [(Value.bool ((y0_31).fform))]) (nb rfl) rfl)) ?_
  refine xcond_b (fun c_44 => ?_) (fun c_44 => ?_)
  ·replace h := h.1 c_44
   refine opK_ld (ld1 Tryd.isAgg93 (I_25.at1 (o := 0) (vs := [(Value.pointer (some ⟨g_2, 0, none⟩))]) (nb rfl) rfl)) ?_
   refine opK_pu (pu_nilp _) ?_
   refine opK_pu pu_fa_92_2 ?_
   refine s_store (I_25.bring 1) Tryd.sizeOf34 (vs := [(vi 30)]) (cs' := [(vi ((y0_31).fnodes)), (vi ((y0_31).fdepth)), (vi 30), (Value.bool ((y0_31).fform)), (Value.bool ((y0_31).fnamed)), (vs sy0_5_31)]) rfl rfl (nb rfl) rfl rfl fun w_37 I_38 k_39 => ?_
   exact hx1 _ _ (hj1 ((y0_31).fnodes) ((y0_31).fdepth) 30 ((y0_31).fform) ((y0_31).fnamed) y0_5_31 sy0_5_31 Fy0_5_31 H_23 _ hy0_5_31 ((((I_38.bring 2).bring 3).bring 2).bring 3) h)
  ·replace h := h.2 c_44
   refine opK_ld (ld1 Tryd.isAgg93 (I_25.at1 (o := 0) (vs := [(Value.pointer (some ⟨g_2, 0, none⟩))]) (nb rfl) rfl)) ?_
   refine opK_pu (pu_nilp _) ?_
   refine opK_pu pu_fa_92_4 ?_
   refine opK_ld (ld1 Tryd.isAgg4 ((I_25.bring 1).at1 (o := 4) (vs := [(Value.bool ((y0_31).fnamed))]) (nb rfl) rfl)) ?_
   refine xcond_b (fun c_43 => ?_) (fun c_43 => ?_)
   ·replace h := h.1 c_43
    refine opK_ld (ld1 Tryd.isAgg93 (I_25.at1 (o := 0) (vs := [(Value.pointer (some ⟨g_2, 0, none⟩))]) (nb rfl) rfl)) ?_
    refine opK_pu (pu_nilp _) ?_
    refine opK_pu pu_fa_92_2 ?_
    refine s_store (I_25.bring 1) Tryd.sizeOf34 (vs := [(vi 31)]) (cs' := [(vi ((y0_31).fnodes)), (vi ((y0_31).fdepth)), (vi 31), (Value.bool ((y0_31).fform)), (Value.bool ((y0_31).fnamed)), (vs sy0_5_31)]) rfl rfl (nb rfl) rfl rfl fun w_40 I_41 k_42 => ?_
    exact hx1 _ _ (hj1 ((y0_31).fnodes) ((y0_31).fdepth) 31 ((y0_31).fform) ((y0_31).fnamed) y0_5_31 sy0_5_31 Fy0_5_31 H_23 _ hy0_5_31 ((((I_41.bring 2).bring 3).bring 2).bring 3) h)
   ·replace h := h.2 c_43
    exact hx1 _ _ (hj1 ((y0_31).fnodes) ((y0_31).fdepth) ((y0_31).fe) ((y0_31).fform) ((y0_31).fnamed) y0_5_31 sy0_5_31 Fy0_5_31 H_23 _ hy0_5_31 ((((I_25.bring 2).bring 3).bring 3).bring 3) h)
theorem L_gnomon_tree_walked (x0 : Sl) {H : Hp} {K : Ttree_walker → Hp → Prop} (h : T_gnomon_tree_walked x0 H K) : C_gnomon_tree_walked x0 H K := by
 intro w I
 refine F57_ok ?_
 refine LF_gnomon_tree_walked x0 I (fun r0 gr0 H' w' I' hk => ⟨H', _, I', r0, gr0, rfl, rfl, hk⟩) h


/- function 66: gnomon/tree.all -/
def T_gnomon_tree_all (x0 : Tapi_Prog) (H : Hp) (K : Ttree_walker → Hp → Prop) : Prop :=
 C_gnomon_tree_each_gnomon_api_Decl_of_gnomon_tree_declOf x0.fDecls H (fun (r0_16 : Sl) (H_8 : Hp) => 
 C_gnomon_tree_each_gnomon_api_Stmt_of_gnomon_tree_stmtOf x0.fBody H_8 (fun (r0_25 : Sl) (H_17 : Hp) => 
 ∀ (s_27 : Sl) (H_33 : Hp), Hle H_17 H_33 → SlH H_33 1 csl s_27 [r0_16, r0_25] → s_27.n ≤ s_27.c →
 C_slices_Concat_gnomon_tree_node_gnomon_tree_node s_27 H_33 (fun (r0_46 : Sl) (H_38 : Hp) => 
 C_gnomon_tree_walked r0_46 H_38 (fun (r0_55 : Ttree_walker) (H_47 : Hp) => 
 K r0_55 H_47))))
theorem LF_gnomon_tree_all (x0 : Tapi_Prog) {w0 w : World} {ps0 : Nat → Prop} {H0 H : Hp} {K : Ttree_walker → Hp → Prop} {R : Value → World → Prop} {E : Pan} (I : Inv w0 ps0 H0 H [] w) (hR : ∀ (r0 : Ttree_walker) (gr0 : Nat) (H' : Hp) (w' : World) (_ : Inv w0 ps0 H0 H' [bx gr0 92 (cs_tree_walker r0)] w') (_ : K r0 H'), R (Value.pointer (some ⟨gr0, 0, none⟩)) w') (h : T_gnomon_tree_all x0 H K) : F66 (Value.agg (cs_api_Prog x0).toArray) w R E := by
 unfold T_gnomon_tree_all at h
 unfold F66
 refine s_box I (cs := (cs_api_Prog x0)) rfl fun g_2 w_3 I_4 k_5 => ?_
 refine s_dX I_4 fun w_6 I_7 => ?_
 refine qP_pu pu_fa_25_0 ?_
 refine qP_pu pu_fa_25_1 ?_
 refine qL_ld (ld1 Tryd.isAgg22 (I_7.at1 (o := 0) (vs := [(vs x0.fDecls)]) (nb rfl) rfl)) ?_
 refine qL_ld (ld1 Tryd.isAgg23 (I_7.at1 (o := 1) (vs := [(vs x0.fBody)]) (nb rfl) rfl)) ?_
 refine opK_calls (cap := []) (fun args w => Tryd.call95 args w) ?_
 refine Cv_ct (Fi := []) (Fr := [bx g_2 25 (cs_api_Prog x0)]) I_7 (h) (fun v_12 H_8 F_13 w_9 I_10 l_15 k_11 q_14 => ?_) (fun _ _ _ _ _ q => q.elim)
 obtain ⟨r0_16, rfl, rfl, h⟩ := q_14
 refine ⟨(k_11 _ I_7.lt1 (Inv.not_in (Fi := []) I_7)), ?_⟩
 refine opK_calls (cap := []) (fun args w => Tryd.call97 args w) ?_
 refine Cv_ct (Fi := []) (Fr := [bx g_2 25 (cs_api_Prog x0)]) I_10 (h) (fun v_21 H_17 F_22 w_18 I_19 l_24 k_20 q_23 => ?_) (fun _ _ _ _ _ q => q.elim)
 obtain ⟨r0_25, rfl, rfl, h⟩ := q_23
 refine s_bs (e := 97) (c := csl) (xs := [r0_16, r0_25]) I_19 (bs_172_2 _ _ _ _ _ _) rfl rfl csl_l csl_o (nb rfl) fun s_27 F_28 w_29 h_30 I_31 k_32 => ?_
 obtain ⟨H_33, I_34, l_35, h_36, h_37⟩ := Inv.freezeC I_31 h_30 (by decide)
 replace h := h s_27 H_33 l_35 h_36 h_37
 refine opK_calls (cap := []) (fun args w => Tryd.call94 args w) ?_
 refine Cv_ct (Fi := []) (Fr := [bx g_2 25 (cs_api_Prog x0)]) I_34 (h) (fun v_42 H_38 F_43 w_39 I_40 l_45 k_41 q_44 => ?_) (fun _ _ _ _ _ q => q.elim)
 obtain ⟨r0_46, rfl, rfl, h⟩ := q_44
 refine opK_calls (cap := []) (fun args w => Tryd.call57 args w) ?_
 refine Cv_ct (Fi := []) (Fr := [bx g_2 25 (cs_api_Prog x0)]) I_40 (h) (fun v_51 H_47 F_52 w_48 I_49 l_54 k_50 q_53 => ?_) (fun _ _ _ _ _ q => q.elim)
 obtain ⟨r0_55, gr0_55, rfl, rfl, h⟩ := q_53
 exact hR r0_55 gr0_55 H_47 _ (I_49.bring 1).drop h
theorem L_gnomon_tree_all (x0 : Tapi_Prog) {H : Hp} {K : Ttree_walker → Hp → Prop} (h : T_gnomon_tree_all x0 H K) : C_gnomon_tree_all x0 H K := by
 intro w I
 refine F66_ok ?_
 refine LF_gnomon_tree_all x0 I (fun r0 gr0 H' w' I' hk => ⟨H', _, I', r0, gr0, rfl, rfl, hk⟩) h


/- function 54: gnomon/tree.sameStmt -/
def T_gnomon_tree_sameStmt (x0 : Tapi_Stmt) (x1 : Tapi_Stmt) (H : Hp) (K : Bool → Hp → Prop) : Prop :=
 TG (((decide (x0.fKind = x1.fKind)) && (decide (x0.fName = x1.fName))) = true) (C_slices_EqualFunc_gnomon_api_Expr_gnomon_api_Expr_gnomon_api_Expr_gnomon_api_Expr_of_gnomon_tree_sameExpr x0.fExprs x1.fExprs H) false H (fun (r0_19 : Bool) (H_11 : Hp) =>
 TG ((((decide (x0.fKind = x1.fKind)) && (decide (x0.fName = x1.fName))) && r0_19) = true) (C_slices_EqualFunc_gnomon_api_Cond_gnomon_api_Cond_gnomon_api_Cond_gnomon_api_Cond_of_gnomon_tree_sameCond x0.fConds x1.fConds H_11) false H_11 (fun (r0_28 : Bool) (H_20 : Hp) =>
 TG (((((decide (x0.fKind = x1.fKind)) && (decide (x0.fName = x1.fName))) && r0_19) && r0_28) = true) (C_slices_EqualFunc_gnomon_api_Stmt_gnomon_api_Stmt_gnomon_api_Stmt_gnomon_api_Stmt_of_gnomon_tree_sameStmt x0.fThen x1.fThen H_20) false H_20 (fun (r0_37 : Bool) (H_29 : Hp) =>
 TG ((((((decide (x0.fKind = x1.fKind)) && (decide (x0.fName = x1.fName))) && r0_19) && r0_28) && r0_37) = true) (C_slices_EqualFunc_gnomon_api_Stmt_gnomon_api_Stmt_gnomon_api_Stmt_gnomon_api_Stmt_of_gnomon_tree_sameStmt x0.fElse x1.fElse H_29) false H_29 (fun (r0_46 : Bool) (H_38 : Hp) =>
 K ((((((decide (x0.fKind = x1.fKind)) && (decide (x0.fName = x1.fName))) && r0_19) && r0_28) && r0_37) && r0_46) H_38))))
theorem LF_gnomon_tree_sameStmt (x0 : Tapi_Stmt) (x1 : Tapi_Stmt) {w0 w : World} {ps0 : Nat → Prop} {H0 H : Hp} {K : Bool → Hp → Prop} {R : Value → World → Prop} {E : Pan} (I : Inv w0 ps0 H0 H [] w) (hR : ∀ (r0 : Bool) (H' : Hp) (w' : World) (_ : Inv w0 ps0 H0 H' [] w') (_ : K r0 H'), R (Value.bool r0) w') (h : T_gnomon_tree_sameStmt x0 x1 H K) : F54 (Value.agg (cs_api_Stmt x0).toArray) (Value.agg (cs_api_Stmt x1).toArray) w R E := by
 unfold T_gnomon_tree_sameStmt at h
 unfold F54
 refine s_box I (cs := (cs_api_Stmt x0)) rfl fun g_2 w_3 I_4 k_5 => ?_
 refine s_box I_4 (cs := (cs_api_Stmt x1)) rfl fun g_7 w_8 I_9 k_10 => ?_
 refine opK_pu pu_fa_88_0 ?_
 refine opK_ld (ld1 Tryd.isAgg3 ((I_9.bring 1).at1 (o := 0) (vs := [(vi x0.fKind)]) (nb rfl) rfl)) ?_
 refine opK_pu pu_fa_88_0 ?_
 refine opK_ld (ld1 Tryd.isAgg3 (I_9.at1 (o := 0) (vs := [(vi x1.fKind)]) (nb rfl) rfl)) ?_
 refine opK_pu (pu_eql _ _ _ _ _ _) ?_
 refine opK_pu (Pu.g fun hb => by have hb_0 := hb; first | exact pu_fa_88_1 | (simp only [gval_t hb_0, gv_t hb_0, gv_t hb, gva_tt hb_0]; exact pu_fa_88_1) | (simp only [gval_t hb_0, gv_t hb_0, gv_t hb, gva_tf hb_0, gv_n]; exact pu_fa_88_1)) ?_
 refine opK_ld (Ld.g fun hb => by have hb_0 := hb; first | exact (ld1 Tryd.isAgg9 ((I_9.bring 1).at1 (o := 1) (vs := [(Value.string x0.fName)]) (nb rfl) rfl)) | (simp only [gv_t hb_0]; exact (ld1 Tryd.isAgg9 ((I_9.bring 1).at1 (o := 1) (vs := [(Value.string x0.fName)]) (nb rfl) rfl))) | (simp only [gval_t hb_0, gv_t hb_0, gv_t hb, gva_tf hb_0, gv_n]; exact (ld1 Tryd.isAgg9 ((I_9.bring 1).at1 (o := 1) (vs := [(Value.string x0.fName)]) (nb rfl) rfl)))) ?_
 refine opK_pu (Pu.g fun hb => by have hb_0 := hb; first | exact pu_fa_88_1 | (simp only [gval_t hb_0, gv_t hb_0, gv_t hb, gva_tt hb_0]; exact pu_fa_88_1) | (simp only [gval_t hb_0, gv_t hb_0, gv_t hb, gva_tf hb_0, gv_n]; exact pu_fa_88_1)) ?_
 refine opK_ld (Ld.g fun hb => by have hb_0 := hb; first | exact (ld1 Tryd.isAgg9 (I_9.at1 (o := 1) (vs := [(Value.string x1.fName)]) (nb rfl) rfl)) | (simp only [gv_t hb_0]; exact (ld1 Tryd.isAgg9 (I_9.at1 (o := 1) (vs := [(Value.string x1.fName)]) (nb rfl) rfl))) | (simp only [gval_t hb_0, gv_t hb_0, gv_t hb, gva_tf hb_0, gv_n]; exact (ld1 Tryd.isAgg9 (I_9.at1 (o := 1) (vs := [(Value.string x1.fName)]) (nb rfl) rfl)))) ?_
 refine opK_pu (Pu.g fun hb => by have hb_0 := hb; first | exact (pu_eqs _ _ _ _ _) | (simp only [gv_t hb_0]; exact (pu_eqs _ _ _ _ _)) | (simp only [gval_t hb_0, gv_t hb_0, gv_t hb, gva_tf hb_0, gv_n]; exact (pu_eqs _ _ _ _ _))) ?_
 refine opK_pu (pu_and _ _) ?_
 refine opK_pu (Pu.g fun hb => by have hb_0 := hb; first | exact pu_fa_88_2 | (simp only [gval_t hb_0, gv_t hb_0, gv_t hb, gva_tt hb_0]; exact pu_fa_88_2) | (simp only [gval_t hb_0, gv_t hb_0, gv_t hb, gva_tf hb_0, gv_n]; exact pu_fa_88_2)) ?_
 refine opK_ld (Ld.g fun hb => by have hb_0 := hb; first | exact (ld1 Tryd.isAgg28 ((I_9.bring 1).at1 (o := 2) (vs := [(vs x0.fExprs)]) (nb rfl) rfl)) | (simp only [gv_t hb_0]; exact (ld1 Tryd.isAgg28 ((I_9.bring 1).at1 (o := 2) (vs := [(vs x0.fExprs)]) (nb rfl) rfl))) | (simp only [gval_t hb_0, gv_t hb_0, gv_t hb, gva_tf hb_0, gv_n]; exact (ld1 Tryd.isAgg28 ((I_9.bring 1).at1 (o := 2) (vs := [(vs x0.fExprs)]) (nb rfl) rfl)))) ?_
 refine opK_pu (Pu.g fun hb => by have hb_0 := hb; first | exact pu_fa_88_2 | (simp only [gval_t hb_0, gv_t hb_0, gv_t hb, gva_tt hb_0]; exact pu_fa_88_2) | (simp only [gval_t hb_0, gv_t hb_0, gv_t hb, gva_tf hb_0, gv_n]; exact pu_fa_88_2)) ?_
 refine opK_ld (Ld.g fun hb => by have hb_0 := hb; first | exact (ld1 Tryd.isAgg28 (I_9.at1 (o := 2) (vs := [(vs x1.fExprs)]) (nb rfl) rfl)) | (simp only [gv_t hb_0]; exact (ld1 Tryd.isAgg28 (I_9.at1 (o := 2) (vs := [(vs x1.fExprs)]) (nb rfl) rfl))) | (simp only [gval_t hb_0, gv_t hb_0, gv_t hb, gva_tf hb_0, gv_n]; exact (ld1 Tryd.isAgg28 (I_9.at1 (o := 2) (vs := [(vs x1.fExprs)]) (nb rfl) rfl)))) ?_
 refine opK_g2 (D := fun v_15 w_12 => ∃ (r0_19 : Bool) (H_11 : Hp) , v_15 = (gv ((decide (x0.fKind = x1.fKind)) && (decide (x0.fName = x1.fName))) true (Value.bool r0_19)) ∧ (Inv w0 ps0 H0 H_11 [bx g_7 88 (cs_api_Stmt x1), bx g_2 88 (cs_api_Stmt x0)] w_12) ∧ (∀ i, i < w_8.heap.size → ¬ inF [] i → w_12.heap[i]? = w_8.heap[i]?) ∧ Hle H H_11 ∧ (TG ((((decide (x0.fKind = x1.fKind)) && (decide (x0.fName = x1.fName))) && r0_19) = true) (C_slices_EqualFunc_gnomon_api_Cond_gnomon_api_Cond_gnomon_api_Cond_gnomon_api_Cond_of_gnomon_tree_sameCond x0.fConds x1.fConds H_11) false H_11 (fun (r0_28 : Bool) (H_20 : Hp) =>
 TG (((((decide (x0.fKind = x1.fKind)) && (decide (x0.fName = x1.fName))) && r0_19) && r0_28) = true) (C_slices_EqualFunc_gnomon_api_Stmt_gnomon_api_Stmt_gnomon_api_Stmt_gnomon_api_Stmt_of_gnomon_tree_sameStmt x0.fThen x1.fThen H_20) false H_20 (fun (r0_37 : Bool) (H_29 : Hp) =>
 TG ((((((decide (x0.fKind = x1.fKind)) && (decide (x0.fName = x1.fName))) && r0_19) && r0_28) && r0_37) = true) (C_slices_EqualFunc_gnomon_api_Stmt_gnomon_api_Stmt_gnomon_api_Stmt_gnomon_api_Stmt_of_gnomon_tree_sameStmt x0.fElse x1.fElse H_29) false H_29 (fun (r0_46 : Bool) (H_38 : Hp) =>
 K ((((((decide (x0.fKind = x1.fKind)) && (decide (x0.fName = x1.fName))) && r0_19) && r0_28) && r0_37) && r0_46) H_38))))) (fun b_50 => ?_) (fun b_50 => ?_) ?_
 ·replace h := h.1 b_50
  have hb_0 := b_50
  try simp only [gv_t hb_0]
  refine opK_calls (cap := []) (fun args w => Tryd.call83 args w) ?_
  refine Cv_ct (Fi := []) (Fr := [bx g_7 88 (cs_api_Stmt x1), bx g_2 88 (cs_api_Stmt x0)]) I_9 (h) (fun v_15 H_11 F_16 w_12 I_13 l_18 k_14 q_17 => ?_) (fun _ _ _ _ _ q => q.elim)
  obtain ⟨r0_19, rfl, rfl, h⟩ := q_17
  exact ⟨r0_19, H_11, by first | rfl | rw [gv_t b_50], I_13, k_14, l_18, h⟩
 ·exact ⟨false, H, by first | rfl | rw [gv_f b_50], I_9, fun _ _ _ => rfl, Hle.refl _, h.2 b_50⟩
 ·clear h
  rintro v_15 w_12 ⟨r0_19, H_11, rfl, I_13, k_14, l_18, h⟩
  refine opK_pu (pu_and _ _) ?_
  refine opK_pu (Pu.g fun hb => by have hb_0 := hb; first | exact pu_fa_88_3 | (simp only [gval_t hb_0, gv_t hb_0, gv_t hb, gva_tt hb_0]; exact pu_fa_88_3) | (simp only [gval_t hb_0, gv_t hb_0, gv_t hb, gva_tf hb_0, gv_n]; exact pu_fa_88_3)) ?_
  refine opK_ld (Ld.g fun hb => by have hb_0 := hb; first | exact (ld1 Tryd.isAgg31 ((I_13.bring 1).at1 (o := 3) (vs := [(vs x0.fConds)]) (nb rfl) rfl)) | (simp only [gv_t hb_0]; exact (ld1 Tryd.isAgg31 ((I_13.bring 1).at1 (o := 3) (vs := [(vs x0.fConds)]) (nb rfl) rfl))) | (simp only [gval_t hb_0, gv_t hb_0, gv_t hb, gva_tf hb_0, gv_n]; exact (ld1 Tryd.isAgg31 ((I_13.bring 1).at1 (o := 3) (vs := [(vs x0.fConds)]) (nb rfl) rfl)))) ?_
  refine opK_pu (Pu.g fun hb => by have hb_0 := hb; first | exact pu_fa_88_3 | (simp only [gval_t hb_0, gv_t hb_0, gv_t hb, gva_tt hb_0]; exact pu_fa_88_3) | (simp only [gval_t hb_0, gv_t hb_0, gv_t hb, gva_tf hb_0, gv_n]; exact pu_fa_88_3)) ?_
  refine opK_ld (Ld.g fun hb => by have hb_0 := hb; first | exact (ld1 Tryd.isAgg31 (I_13.at1 (o := 3) (vs := [(vs x1.fConds)]) (nb rfl) rfl)) | (simp only [gv_t hb_0]; exact (ld1 Tryd.isAgg31 (I_13.at1 (o := 3) (vs := [(vs x1.fConds)]) (nb rfl) rfl))) | (simp only [gval_t hb_0, gv_t hb_0, gv_t hb, gva_tf hb_0, gv_n]; exact (ld1 Tryd.isAgg31 (I_13.at1 (o := 3) (vs := [(vs x1.fConds)]) (nb rfl) rfl)))) ?_
  refine opK_g2 (D := fun v_24 w_21 => ∃ (r0_28 : Bool) (H_20 : Hp) , v_24 = (gv (((decide (x0.fKind = x1.fKind)) && (decide (x0.fName = x1.fName))) && r0_19) true (Value.bool r0_28)) ∧ (Inv w0 ps0 H0 H_20 [bx g_7 88 (cs_api_Stmt x1), bx g_2 88 (cs_api_Stmt x0)] w_21) ∧ (∀ i, i < w_12.heap.size → ¬ inF [] i → w_21.heap[i]? = w_12.heap[i]?) ∧ Hle H_11 H_20 ∧ (TG (((((decide (x0.fKind = x1.fKind)) && (decide (x0.fName = x1.fName))) && r0_19) && r0_28) = true) (C_slices_EqualFunc_gnomon_api_Stmt_gnomon_api_Stmt_gnomon_api_Stmt_gnomon_api_Stmt_of_gnomon_tree_sameStmt x0.fThen x1.fThen H_20) false H_20 (fun (r0_37 : Bool) (H_29 : Hp) =>
 TG ((((((decide (x0.fKind = x1.fKind)) && (decide (x0.fName = x1.fName))) && r0_19) && r0_28) && r0_37) = true) (C_slices_EqualFunc_gnomon_api_Stmt_gnomon_api_Stmt_gnomon_api_Stmt_gnomon_api_Stmt_of_gnomon_tree_sameStmt x0.fElse x1.fElse H_29) false H_29 (fun (r0_46 : Bool) (H_38 : Hp) =>
 K ((((((decide (x0.fKind = x1.fKind)) && (decide (x0.fName = x1.fName))) && r0_19) && r0_28) && r0_37) && r0_46) H_38)))) (fun b_49 => ?_) (fun b_49 => ?_) ?_
  ·replace h := h.1 b_49
   have hb_0 := b_49
   try simp only [gv_t hb_0]
   refine opK_calls (cap := []) (fun args w => Tryd.call85 args w) ?_
   refine Cv_ct (Fi := []) (Fr := [bx g_7 88 (cs_api_Stmt x1), bx g_2 88 (cs_api_Stmt x0)]) I_13 (h) (fun v_24 H_20 F_25 w_21 I_22 l_27 k_23 q_26 => ?_) (fun _ _ _ _ _ q => q.elim)
   obtain ⟨r0_28, rfl, rfl, h⟩ := q_26
   exact ⟨r0_28, H_20, by first | rfl | rw [gv_t b_49], I_22, k_23, l_27, h⟩
  ·exact ⟨false, H_11, by first | rfl | rw [gv_f b_49], I_13, fun _ _ _ => rfl, Hle.refl _, h.2 b_49⟩
  ·clear h
   rintro v_24 w_21 ⟨r0_28, H_20, rfl, I_22, k_23, l_27, h⟩
   refine opK_pu (pu_and _ _) ?_
   refine opK_pu (Pu.g fun hb => by have hb_0 := hb; first | exact pu_fa_88_4 | (simp only [gval_t hb_0, gv_t hb_0, gv_t hb, gva_tt hb_0]; exact pu_fa_88_4) | (simp only [gval_t hb_0, gv_t hb_0, gv_t hb, gva_tf hb_0, gv_n]; exact pu_fa_88_4)) ?_
   refine opK_ld (Ld.g fun hb => by have hb_0 := hb; first | exact (ld1 Tryd.isAgg23 ((I_22.bring 1).at1 (o := 4) (vs := [(vs x0.fThen)]) (nb rfl) rfl)) | (simp only [gv_t hb_0]; exact (ld1 Tryd.isAgg23 ((I_22.bring 1).at1 (o := 4) (vs := [(vs x0.fThen)]) (nb rfl) rfl))) | (simp only [gval_t hb_0, gv_t hb_0, gv_t hb, gva_tf hb_0, gv_n]; exact (ld1 Tryd.isAgg23 ((I_22.bring 1).at1 (o := 4) (vs := [(vs x0.fThen)]) (nb rfl) rfl)))) ?_
   refine opK_pu (Pu.g fun hb => by have hb_0 := hb; first | exact pu_fa_88_4 | (simp only [gval_t hb_0, gv_t hb_0, gv_t hb, gva_tt hb_0]; exact pu_fa_88_4) | (simp only [gval_t hb_0, gv_t hb_0, gv_t hb, gva_tf hb_0, gv_n]; exact pu_fa_88_4)) ?_
   refine opK_ld (Ld.g fun hb => by have hb_0 := hb; first | exact (ld1 Tryd.isAgg23 (I_22.at1 (o := 4) (vs := [(vs x1.fThen)]) (nb rfl) rfl)) | (simp only [gv_t hb_0]; exact (ld1 Tryd.isAgg23 (I_22.at1 (o := 4) (vs := [(vs x1.fThen)]) (nb rfl) rfl))) | (simp only [gval_t hb_0, gv_t hb_0, gv_t hb, gva_tf hb_0, gv_n]; exact (ld1 Tryd.isAgg23 (I_22.at1 (o := 4) (vs := [(vs x1.fThen)]) (nb rfl) rfl)))) ?_
   refine opK_g2 (D := fun v_33 w_30 => ∃ (r0_37 : Bool) (H_29 : Hp) , v_33 = (gv ((((decide (x0.fKind = x1.fKind)) && (decide (x0.fName = x1.fName))) && r0_19) && r0_28) true (Value.bool r0_37)) ∧ (Inv w0 ps0 H0 H_29 [bx g_7 88 (cs_api_Stmt x1), bx g_2 88 (cs_api_Stmt x0)] w_30) ∧ (∀ i, i < w_21.heap.size → ¬ inF [] i → w_30.heap[i]? = w_21.heap[i]?) ∧ Hle H_20 H_29 ∧ (TG ((((((decide (x0.fKind = x1.fKind)) && (decide (x0.fName = x1.fName))) && r0_19) && r0_28) && r0_37) = true) (C_slices_EqualFunc_gnomon_api_Stmt_gnomon_api_Stmt_gnomon_api_Stmt_gnomon_api_Stmt_of_gnomon_tree_sameStmt x0.fElse x1.fElse H_29) false H_29 (fun (r0_46 : Bool) (H_38 : Hp) =>
 K ((((((decide (x0.fKind = x1.fKind)) && (decide (x0.fName = x1.fName))) && r0_19) && r0_28) && r0_37) && r0_46) H_38))) (fun b_48 => ?_) (fun b_48 => ?_) ?_
   ·replace h := h.1 b_48
    have hb_0 := b_48
    try simp only [gv_t hb_0]
    refine opK_calls (cap := []) (fun args w => Tryd.call53 args w) ?_
    refine Cv_ct (Fi := []) (Fr := [bx g_7 88 (cs_api_Stmt x1), bx g_2 88 (cs_api_Stmt x0)]) I_22 (h) (fun v_33 H_29 F_34 w_30 I_31 l_36 k_32 q_35 => ?_) (fun _ _ _ _ _ q => q.elim)
    obtain ⟨r0_37, rfl, rfl, h⟩ := q_35
    exact ⟨r0_37, H_29, by first | rfl | rw [gv_t b_48], I_31, k_32, l_36, h⟩
   ·exact ⟨false, H_20, by first | rfl | rw [gv_f b_48], I_22, fun _ _ _ => rfl, Hle.refl _, h.2 b_48⟩
   ·clear h
    rintro v_33 w_30 ⟨r0_37, H_29, rfl, I_31, k_32, l_36, h⟩
    refine opK_pu (pu_and _ _) ?_
    refine opK_pu (Pu.g fun hb => by have hb_0 := hb; first | exact pu_fa_88_5 | (simp only [gval_t hb_0, gv_t hb_0, gv_t hb, gva_tt hb_0]; exact pu_fa_88_5) | (simp only [gval_t hb_0, gv_t hb_0, gv_t hb, gva_tf hb_0, gv_n]; exact pu_fa_88_5)) ?_
    refine opK_ld (Ld.g fun hb => by have hb_0 := hb; first | exact (ld1 Tryd.isAgg23 ((I_31.bring 1).at1 (o := 5) (vs := [(vs x0.fElse)]) (nb rfl) rfl)) | (simp only [gv_t hb_0]; exact (ld1 Tryd.isAgg23 ((I_31.bring 1).at1 (o := 5) (vs := [(vs x0.fElse)]) (nb rfl) rfl))) | (simp only [gval_t hb_0, gv_t hb_0, gv_t hb, gva_tf hb_0, gv_n]; exact (ld1 Tryd.isAgg23 ((I_31.bring 1).at1 (o := 5) (vs := [(vs x0.fElse)]) (nb rfl) rfl)))) ?_
    refine opK_pu (Pu.g fun hb => by have hb_0 := hb; first | exact pu_fa_88_5 | (simp only [gval_t hb_0, gv_t hb_0, gv_t hb, gva_tt hb_0]; exact pu_fa_88_5) | (simp only [gval_t hb_0, gv_t hb_0, gv_t hb, gva_tf hb_0, gv_n]; exact pu_fa_88_5)) ?_
    refine opK_ld (Ld.g fun hb => by have hb_0 := hb; first | exact (ld1 Tryd.isAgg23 (I_31.at1 (o := 5) (vs := [(vs x1.fElse)]) (nb rfl) rfl)) | (simp only [gv_t hb_0]; exact (ld1 Tryd.isAgg23 (I_31.at1 (o := 5) (vs := [(vs x1.fElse)]) (nb rfl) rfl))) | (simp only [gval_t hb_0, gv_t hb_0, gv_t hb, gva_tf hb_0, gv_n]; exact (ld1 Tryd.isAgg23 (I_31.at1 (o := 5) (vs := [(vs x1.fElse)]) (nb rfl) rfl)))) ?_
    refine opK_g2 (D := fun v_42 w_39 => ∃ (r0_46 : Bool) (H_38 : Hp) , v_42 = (gv (((((decide (x0.fKind = x1.fKind)) && (decide (x0.fName = x1.fName))) && r0_19) && r0_28) && r0_37) true (Value.bool r0_46)) ∧ (Inv w0 ps0 H0 H_38 [bx g_7 88 (cs_api_Stmt x1), bx g_2 88 (cs_api_Stmt x0)] w_39) ∧ (∀ i, i < w_30.heap.size → ¬ inF [] i → w_39.heap[i]? = w_30.heap[i]?) ∧ Hle H_29 H_38 ∧ (K ((((((decide (x0.fKind = x1.fKind)) && (decide (x0.fName = x1.fName))) && r0_19) && r0_28) && r0_37) && r0_46) H_38)) (fun b_47 => ?_) (fun b_47 => ?_) ?_
    ·replace h := h.1 b_47
     have hb_0 := b_47
     try simp only [gv_t hb_0]
     refine opK_calls (cap := []) (fun args w => Tryd.call53 args w) ?_
     refine Cv_ct (Fi := []) (Fr := [bx g_7 88 (cs_api_Stmt x1), bx g_2 88 (cs_api_Stmt x0)]) I_31 (h) (fun v_42 H_38 F_43 w_39 I_40 l_45 k_41 q_44 => ?_) (fun _ _ _ _ _ q => q.elim)
     obtain ⟨r0_46, rfl, rfl, h⟩ := q_44
     exact ⟨r0_46, H_38, by first | rfl | rw [gv_t b_47], I_40, k_41, l_45, h⟩
    ·exact ⟨false, H_29, by first | rfl | rw [gv_f b_47], I_31, fun _ _ _ => rfl, Hle.refl _, h.2 b_47⟩
    ·clear h
     rintro v_42 w_39 ⟨r0_46, H_38, rfl, I_40, k_41, l_45, h⟩
     refine opK_pu (pu_and _ _) ?_
     exact hR ((((((decide (x0.fKind = x1.fKind)) && (decide (x0.fName = x1.fName))) && r0_19) && r0_28) && r0_37) && r0_46) H_38 _ I_40.drop.drop h
theorem L_gnomon_tree_sameStmt (x0 : Tapi_Stmt) (x1 : Tapi_Stmt) {H : Hp} {K : Bool → Hp → Prop} (h : T_gnomon_tree_sameStmt x0 x1 H K) : C_gnomon_tree_sameStmt x0 x1 H K := by
 intro w I
 refine F54_ok ?_
 refine LF_gnomon_tree_sameStmt x0 x1 I (fun r0 H' w' I' hk => ⟨H', _, I', r0, rfl, rfl, hk⟩) h


/- function 53: slices.EqualFunc[[]gnomon/api.Stmt,[]gnomon/api.Stmt,gnomon/api.Stmt,gnomon/api.Stmt] -/
def T_slices_EqualFunc_gnomon_api_Stmt_gnomon_api_Stmt_gnomon_api_Stmt_gnomon_api_Stmt_of_gnomon_tree_sameStmt_j1 (H : Hp) (K : Bool → Hp → Prop) : Prop :=
 K true H
def T_slices_EqualFunc_gnomon_api_Stmt_gnomon_api_Stmt_gnomon_api_Stmt_gnomon_api_Stmt_of_gnomon_tree_sameStmt_l2 (s1l2 : Sl) (s15l2 : Sl) (s16l2 : Int) (s17l2 : Int) (H : Hp) (n2 : Int → Hp → Prop) (K : Bool → Hp → Prop) : Prop :=
 (s17l2 < s16l2 →
 (0 : Int) ≤ s17l2 ∧ (s17l2 : Int) < s15l2.n ∧ ∃ x_1 : Tapi_Stmt, EltH H s15l2 s17l2 6 (cs_api_Stmt x_1) ∧ 
 (0 : Int) ≤ s17l2 ∧ (s17l2 : Int) < s1l2.n ∧ ∃ x_16 : Tapi_Stmt, EltH H s1l2 s17l2 6 (cs_api_Stmt x_16) ∧ 
 C_gnomon_tree_sameStmt x_1 x_16 H (fun (r0_39 : Bool) (H_31 : Hp) => 
 ((!r0_39) = true →
 K false H_31) ∧
 ((!r0_39) = false →
 n2 (IntKind.wrap .i64 (s17l2 + 1)) H_31))) ∧
 (¬ (s17l2 < s16l2) →
 T_slices_EqualFunc_gnomon_api_Stmt_gnomon_api_Stmt_gnomon_api_Stmt_gnomon_api_Stmt_of_gnomon_tree_sameStmt_j1 H K)
def T_slices_EqualFunc_gnomon_api_Stmt_gnomon_api_Stmt_gnomon_api_Stmt_gnomon_api_Stmt_of_gnomon_tree_sameStmt (x0 : Sl) (x1 : Sl) (H : Hp) (K : Bool → Hp → Prop) : Prop :=
 (¬ ((x0.n : Int) = (x1.n : Int)) →
 K false H) ∧
 ((x0.n : Int) = (x1.n : Int) →
 TL (0 : Int) H fun (s : Int) H n2 => T_slices_EqualFunc_gnomon_api_Stmt_gnomon_api_Stmt_gnomon_api_Stmt_gnomon_api_Stmt_of_gnomon_tree_sameStmt_l2 x1 x0 (x0.n : Int) s H n2 K)
theorem LF_slices_EqualFunc_gnomon_api_Stmt_gnomon_api_Stmt_gnomon_api_Stmt_gnomon_api_Stmt_of_gnomon_tree_sameStmt (x0 : Sl) (x1 : Sl) {w0 w : World} {ps0 : Nat → Prop} {H0 H : Hp} {K : Bool → Hp → Prop} {R : Value → World → Prop} {E : Pan} (I : Inv w0 ps0 H0 H [] w) (hR : ∀ (r0 : Bool) (H' : Hp) (w' : World) (_ : Inv w0 ps0 H0 H' [] w') (_ : K r0 H'), R (Value.bool r0) w') (h : T_slices_EqualFunc_gnomon_api_Stmt_gnomon_api_Stmt_gnomon_api_Stmt_gnomon_api_Stmt_of_gnomon_tree_sameStmt x0 x1 H K) : F53 (vs x0) (vs x1) (Value.func (.func 54) #[] #[]) w R E := by
 unfold T_slices_EqualFunc_gnomon_api_Stmt_gnomon_api_Stmt_gnomon_api_Stmt_gnomon_api_Stmt_of_gnomon_tree_sameStmt at h
 unfold F53
 refine opK_pu (pu_len_23 _ _ _) ?_
 refine opK_pu (pu_len_23 _ _ _) ?_
 refine opK_pu (pu_neq _ _ _ _ _ _) ?_
 refine xcond_n (fun c_50 => ?_) (fun c_50 => ?_)
 ·replace h := h.1 c_50
  exact hR false H _ I h
 ·replace h := h.2 c_50
  have hj1 : ∀ (H : Hp) (w : World) (_ : Inv w0 ps0 H0 H [] w) (_ : T_slices_EqualFunc_gnomon_api_Stmt_gnomon_api_Stmt_gnomon_api_Stmt_gnomon_api_Stmt_of_gnomon_tree_sameStmt_j1 H K), F53_j1 w R E := by
   intro H w I h
   unfold F53_j1
   intro _
   unfold T_slices_EqualFunc_gnomon_api_Stmt_gnomon_api_Stmt_gnomon_api_Stmt_gnomon_api_Stmt_of_gnomon_tree_sameStmt_j1 at h
   exact hR true H _ I h
  refine xcut_i fun j1 hx1 => ?_
  refine opK_pu (pu_len_23 _ _ _) ?_
  obtain ⟨J_42, m_43, i_44, b_45⟩ := h
  refine xloop_J (J := fun n l w => ∃ (s : Int) (H : Hp) , n = m_43 s ∧ l = [(vi s)] ∧ Inv w0 ps0 H0 H [] w ∧ J_42 s H) ⟨_, 0, H, rfl, rfl, I, i_44⟩ ?_
  rintro n_46 τ_47 w next2 ⟨s17l2, H, rfl, l_48, I, s_49⟩ hn2
  simp only [List.map_cons, List.map_nil, List.cons.injEq, and_true] at l_48
  have e17 := l_48
  simp only [e17]
  obtain ⟨n2, hm2, h⟩ : ∃ n2 : Int → Hp → Prop, (∀ s' H', n2 s' H' → J_42 s' H' ∧ m_43 s' < m_43 s17l2) ∧ T_slices_EqualFunc_gnomon_api_Stmt_gnomon_api_Stmt_gnomon_api_Stmt_gnomon_api_Stmt_of_gnomon_tree_sameStmt_l2 x1 x0 (x0.n : Int) s17l2 H n2 K := ⟨_, fun _ _ h => h, b_45 s17l2 H (fun s' H' => J_42 s' H' ∧ m_43 s' < m_43 s17l2) s_49 (fun _ _ a b => ⟨a, b⟩)⟩
  unfold F53_l2
  unfold T_slices_EqualFunc_gnomon_api_Stmt_gnomon_api_Stmt_gnomon_api_Stmt_gnomon_api_Stmt_of_gnomon_tree_sameStmt_l2 at h
  refine opK_pu (pu_lss _ _ _ _ _ _) ?_
  refine xcond_p (fun c_41 => ?_) (fun c_41 => ?_)
  ·replace h := h.1 c_41
   obtain ⟨h_4, h_5, x_1, h_7, h⟩ := h
   obtain ⟨g_2, o_3, h_6, h_7⟩ := h_7
   refine opK_pu (pu_ix_23 h_6 _ _ _ _ h_4 h_5) ?_
   refine opK_ld (ldA (vs := (cs_api_Stmt x_1)) Tryd.isAgg88 Tryd.sizeOf88 rfl (I.atH h_7)) ?_
   refine s_alloc I Tryd.zeroValue88 (cs := [(vi 0), (Value.string ⟨#[]⟩), (Value.slice none 0 0), (Value.slice none 0 0), (Value.slice none 0 0), (Value.slice none 0 0)]) rfl fun g_9 w_10 I_11 k_12 => ?_
   refine s_store I_11 Tryd.sizeOf88 (vs := (cs_api_Stmt x_1)) (cs' := (cs_api_Stmt x_1)) rfl rfl (nb rfl) rfl rfl fun w_13 I_14 k_15 => ?_
   obtain ⟨h_19, h_20, x_16, h_22, h⟩ := h
   obtain ⟨g_17, o_18, h_21, h_22⟩ := h_22
   refine opK_pu (pu_ix_23 h_21 _ _ _ _ h_19 h_20) ?_
   refine opK_ld (ldA (vs := (cs_api_Stmt x_16)) Tryd.isAgg88 Tryd.sizeOf88 rfl (I_14.atH h_22)) ?_
   refine s_alloc I_14 Tryd.zeroValue88 (cs := [(vi 0), (Value.string ⟨#[]⟩), (Value.slice none 0 0), (Value.slice none 0 0), (Value.slice none 0 0), (Value.slice none 0 0)]) rfl fun g_24 w_25 I_26 k_27 => ?_
   refine s_store I_26 Tryd.sizeOf88 (vs := (cs_api_Stmt x_16)) (cs' := (cs_api_Stmt x_16)) rfl rfl (nb rfl) rfl rfl fun w_28 I_29 k_30 => ?_
   refine opK_ld (ldA Tryd.isAgg88 Tryd.sizeOf88 rfl ((I_29.bring 1).at1 (o := 0) (vs := (cs_api_Stmt x_1)) (nb rfl) rfl)) ?_
   refine opK_ld (ldA Tryd.isAgg88 Tryd.sizeOf88 rfl (I_29.at1 (o := 0) (vs := (cs_api_Stmt x_16)) (nb rfl) rfl)) ?_
   refine opK_calls (cap := []) (fun args w => Tryd.call54 args w) ?_
   refine Cv_ct (Fi := []) (Fr := [bx g_24 88 (cs_api_Stmt x_16), bx g_9 88 (cs_api_Stmt x_1)]) I_29 (h) (fun v_35 H_31 F_36 w_32 I_33 l_38 k_34 q_37 => ?_) (fun _ _ _ _ _ q => q.elim)
   obtain ⟨r0_39, rfl, rfl, h⟩ := q_37
   refine opK_pu (pu_not _) ?_
   refine xcond_b (fun c_40 => ?_) (fun c_40 => ?_)
   ·replace h := h.1 c_40
    exact hR false H_31 _ I_33.drop.drop h
   ·replace h := h.2 c_40
    refine opK_pu (pu_add _ _ _ _ _ _) ?_
    exact hn2 _ _ _ (hm2 _ _ h).2 ⟨(IntKind.wrap .i64 (s17l2 + 1)), H_31, rfl, rfl, I_33.drop.drop, (hm2 _ _ h).1⟩
  ·replace h := h.2 c_41
   exact hx1 _ _ (hj1 H _ I h)
theorem L_slices_EqualFunc_gnomon_api_Stmt_gnomon_api_Stmt_gnomon_api_Stmt_gnomon_api_Stmt_of_gnomon_tree_sameStmt (x0 : Sl) (x1 : Sl) {H : Hp} {K : Bool → Hp → Prop} (h : T_slices_EqualFunc_gnomon_api_Stmt_gnomon_api_Stmt_gnomon_api_Stmt_gnomon_api_Stmt_of_gnomon_tree_sameStmt x0 x1 H K) : C_slices_EqualFunc_gnomon_api_Stmt_gnomon_api_Stmt_gnomon_api_Stmt_gnomon_api_Stmt_of_gnomon_tree_sameStmt x0 x1 H K := by
 intro w I
 refine F53_ok ?_
 refine LF_slices_EqualFunc_gnomon_api_Stmt_gnomon_api_Stmt_gnomon_api_Stmt_gnomon_api_Stmt_of_gnomon_tree_sameStmt x0 x1 I (fun r0 H' w' I' hk => ⟨H', _, I', r0, rfl, rfl, hk⟩) h


/- function 91: (*gnomon/gnomonref3.walk).node -/
def T_gnomon_gnomonref3_walk_node (x0 : Tgnomonref3_walk) (x1 : Int) (H : Hp) (K : Bool → Tgnomonref3_walk → Hp → Prop) : Prop :=
 (¬ (x0.fbad = 0) →
 K false x0 H) ∧
 (x0.fbad = 0 →
 (x0.fn = 4096 →
 K false (Tgnomonref3_walk.mk x0.fn x0.fdepth 33) H) ∧
 (¬ (x0.fn = 4096) →
 (64 < x1 →
 K false (Tgnomonref3_walk.mk x0.fn x0.fdepth 32) H) ∧
 (¬ (64 < x1) →
 K true (Tgnomonref3_walk.mk (IntKind.wrap .i64 (x0.fn + 1)) (if x1 > x0.fdepth then x1 else x0.fdepth) x0.fbad) H)))
theorem LF_gnomon_gnomonref3_walk_node (x0 : Tgnomonref3_walk) (x1 : Int) (g0 : Nat) {w0 w : World} {ps0 : Nat → Prop} {H0 H : Hp} {K : Bool → Tgnomonref3_walk → Hp → Prop} {R : Value → World → Prop} {E : Pan} (I : Inv w0 ps0 H0 H [bx g0 99 (cs_gnomonref3_walk x0)] w) (hR : ∀ (r0 : Bool) (y0 : Tgnomonref3_walk) (H' : Hp) (w' : World) (_ : Inv w0 ps0 H0 H' [bx g0 99 (cs_gnomonref3_walk y0)] w') (_ : K r0 y0 H'), R (Value.bool r0) w') (h : T_gnomon_gnomonref3_walk_node x0 x1 H K) : F91 (Value.pointer (some ⟨g0, 0, none⟩)) (vi x1) w R E := by
 unfold T_gnomon_gnomonref3_walk_node at h
 unfold F91
 refine opK_pu (pu_nilp _) ?_
 refine opK_pu pu_fa_99_2 ?_
 refine opK_ld (ld1 Tryd.isAgg3 (I.at1 (o := 2) (vs := [(vi x0.fbad)]) (nb rfl) rfl)) ?_
 refine opK_pu (pu_neq _ _ _ _ _ _) ?_
 refine xcond_n (fun c_15 => ?_) (fun c_15 => ?_)
 ·replace h := h.1 c_15
  exact hR false x0 H _ I h
 ·replace h := h.2 c_15
  refine opK_pu (pu_nilp _) ?_
  refine opK_pu pu_fa_99_0 ?_
  refine opK_ld (ld1 Tryd.isAgg3 (I.at1 (o := 0) (vs := [(vi x0.fn)]) (nb rfl) rfl)) ?_
  refine opK_pu (pu_eql _ _ _ _ _ _) ?_
  refine xcond_p (fun c_14 => ?_) (fun c_14 => ?_)
  ·replace h := h.1 c_14
   refine opK_pu (pu_nilp _) ?_
   refine opK_pu pu_fa_99_2 ?_
   refine s_store I Tryd.sizeOf3 (vs := [(vi 33)]) (cs' := [(vi x0.fn), (vi x0.fdepth), (vi 33)]) rfl rfl (nb rfl) rfl rfl fun w_1 I_2 k_3 => ?_
   exact hR false (Tgnomonref3_walk.mk x0.fn x0.fdepth 33) H _ I_2 h
  ·replace h := h.2 c_14
   refine opK_pu (pu_gtr _ _ _ _ _ _) ?_
   refine xcond_p (fun c_13 => ?_) (fun c_13 => ?_)
   ·replace h := h.1 c_13
    refine opK_pu (pu_nilp _) ?_
    refine opK_pu pu_fa_99_2 ?_
    refine s_store I Tryd.sizeOf3 (vs := [(vi 32)]) (cs' := [(vi x0.fn), (vi x0.fdepth), (vi 32)]) rfl rfl (nb rfl) rfl rfl fun w_4 I_5 k_6 => ?_
    exact hR false (Tgnomonref3_walk.mk x0.fn x0.fdepth 32) H _ I_5 h
   ·replace h := h.2 c_13
    refine opK_pu (pu_nilp _) ?_
    refine opK_pu pu_fa_99_0 ?_
    refine opK_ld (ld1 Tryd.isAgg3 (I.at1 (o := 0) (vs := [(vi x0.fn)]) (nb rfl) rfl)) ?_
    refine opK_pu (pu_add _ _ _ _ _ _) ?_
    refine opK_pu (pu_nilp _) ?_
    refine opK_pu pu_fa_99_0 ?_
    refine s_store I Tryd.sizeOf3 (vs := [(vi (IntKind.wrap .i64 (x0.fn + 1)))]) (cs' := [(vi (IntKind.wrap .i64 (x0.fn + 1))), (vi x0.fdepth), (vi x0.fbad)]) rfl rfl (nb rfl) rfl rfl fun w_7 I_8 k_9 => ?_
    refine opK_pu (pu_nilp _) ?_
    refine opK_pu pu_fa_99_1 ?_
    refine opK_ld (ld1 Tryd.isAgg3 (I_8.at1 (o := 1) (vs := [(vi x0.fdepth)]) (nb rfl) rfl)) ?_
    refine opK_pu (pu_max _ _ _ _ _) ?_
    refine opK_pu (pu_nilp _) ?_
    refine opK_pu pu_fa_99_1 ?_
    refine s_store I_8 Tryd.sizeOf3 (vs := [(vi (if x1 > x0.fdepth then x1 else x0.fdepth))]) (cs' := [(vi (IntKind.wrap .i64 (x0.fn + 1))), (vi (if x1 > x0.fdepth then x1 else x0.fdepth)), (vi x0.fbad)]) rfl rfl (nb rfl) rfl rfl fun w_10 I_11 k_12 => ?_
    exact hR true (Tgnomonref3_walk.mk (IntKind.wrap .i64 (x0.fn + 1)) (if x1 > x0.fdepth then x1 else x0.fdepth) x0.fbad) H _ I_11 h
theorem L_gnomon_gnomonref3_walk_node (x0 : Tgnomonref3_walk) (x1 : Int) {H : Hp} {K : Bool → Tgnomonref3_walk → Hp → Prop} (h : T_gnomon_gnomonref3_walk_node x0 x1 H K) : C_gnomon_gnomonref3_walk_node x0 x1 H K := by
 intro g0 w I
 refine F91_ok ?_
 refine LF_gnomon_gnomonref3_walk_node x0 x1 g0 I (fun r0 y0 H' w' I' hk => ⟨H', _, I', r0, y0, rfl, rfl, hk⟩) h


/- function 63: gnomon/gnomonref3.walked -/
def T_gnomon_gnomonref3_walked_j2 (cr_11j2 : Tgnomonref3_walk) (_cr_6j2 : Tgnomonref3_walk) (_cr_1j2 : Tapi_Prog) (H : Hp) (K : Tgnomonref3_walk → Hp → Prop) : Prop :=
 K cr_11j2 H
def T_gnomon_gnomonref3_walked_l3 (cr_1l3 : Tapi_Prog) (s5l3 : Int) (cr_11l3 : Tgnomonref3_walk) (cr_6l3 : Tgnomonref3_walk) (H : Hp) (n3 : (Int × Tgnomonref3_walk × Tgnomonref3_walk) → Hp → Prop) (K : Tgnomonref3_walk → Hp → Prop) : Prop :=
 (((decide (s5l3 < (cr_1l3.fBody.n : Int))) && (decide (cr_11l3.fbad = 0))) = true →
 (0 : Int) ≤ s5l3 ∧ (s5l3 : Int) < cr_1l3.fBody.n ∧ ∃ x_56 : Tapi_Stmt, EltH H cr_1l3.fBody s5l3 6 (cs_api_Stmt x_56) ∧ 
 C_gnomon_gnomonref3_walk_stmt cr_11l3 x_56 1 H (fun (y0_71 : Tgnomonref3_walk) (H_63 : Hp) => 
 n3 ((IntKind.wrap .i64 (s5l3 + 1)), y0_71, cr_6l3) H_63)) ∧
 (((decide (s5l3 < (cr_1l3.fBody.n : Int))) && (decide (cr_11l3.fbad = 0))) = false →
 T_gnomon_gnomonref3_walked_j2 cr_11l3 cr_6l3 cr_1l3 H K)
def T_gnomon_gnomonref3_walked_j1 (cr_11j1 : Tgnomonref3_walk) (cr_6j1 : Tgnomonref3_walk) (cr_1j1 : Tapi_Prog) (H : Hp) (K : Tgnomonref3_walk → Hp → Prop) : Prop :=
 TL ((0, cr_11j1, cr_6j1) : Int × Tgnomonref3_walk × Tgnomonref3_walk) H fun (s : Int × Tgnomonref3_walk × Tgnomonref3_walk) H n3 => T_gnomon_gnomonref3_walked_l3 cr_1j1 s.1 s.2.1 s.2.2 H n3 K
def T_gnomon_gnomonref3_walked_l4 (cr_1l4 : Tapi_Prog) (s4l4 : Int) (cr_11l4 : Tgnomonref3_walk) (cr_6l4 : Tgnomonref3_walk) (H : Hp) (n4 : (Int × Tgnomonref3_walk × Tgnomonref3_walk) → Hp → Prop) (K : Tgnomonref3_walk → Hp → Prop) : Prop :=
 (((decide (s4l4 < (cr_1l4.fDecls.n : Int))) && (decide (cr_11l4.fbad = 0))) = true →
 C_gnomon_gnomonref3_walk_node cr_11l4 1 H (fun (_r0_98 : Bool) (y0_98 : Tgnomonref3_walk) (H_90 : Hp) => 
 n4 ((IntKind.wrap .i64 (s4l4 + 1)), y0_98, cr_6l4) H_90)) ∧
 (((decide (s4l4 < (cr_1l4.fDecls.n : Int))) && (decide (cr_11l4.fbad = 0))) = false →
 T_gnomon_gnomonref3_walked_j1 cr_11l4 cr_6l4 cr_1l4 H K)
def T_gnomon_gnomonref3_walked (x0 : Tapi_Prog) (H : Hp) (K : Tgnomonref3_walk → Hp → Prop) : Prop :=
 TL ((0, (Tgnomonref3_walk.mk 0 0 0), (Tgnomonref3_walk.mk 0 0 0)) : Int × Tgnomonref3_walk × Tgnomonref3_walk) H fun (s : Int × Tgnomonref3_walk × Tgnomonref3_walk) H n4 => T_gnomon_gnomonref3_walked_l4 x0 s.1 s.2.1 s.2.2 H n4 K
theorem LF_gnomon_gnomonref3_walked (x0 : Tapi_Prog) {w0 w : World} {ps0 : Nat → Prop} {H0 H : Hp} {K : Tgnomonref3_walk → Hp → Prop} {R : Value → World → Prop} {E : Pan} (I : Inv w0 ps0 H0 H [] w) (hR : ∀ (r0 : Tgnomonref3_walk) (H' : Hp) (w' : World) (_ : Inv w0 ps0 H0 H' [] w') (_ : K r0 H'), R (Value.agg (cs_gnomonref3_walk r0).toArray) w') (h : T_gnomon_gnomonref3_walked x0 H K) : F63 (Value.agg (cs_api_Prog x0).toArray) w R E := by
 unfold T_gnomon_gnomonref3_walked at h
 unfold F63
 refine s_box I (cs := (cs_api_Prog x0)) rfl fun g_2 w_3 I_4 k_5 => ?_
 refine s_alloc I_4 Tryd.zeroValue99 (cs := [(vi 0), (vi 0), (vi 0)]) rfl fun g_7 w_8 I_9 k_10 => ?_
 refine opK_pu (pu_bld_99 ) ?_
 refine s_alloc I_9 Tryd.zeroValue99 (cs := [(vi 0), (vi 0), (vi 0)]) rfl fun g_12 w_13 I_14 k_15 => ?_
 refine s_store I_14 Tryd.sizeOf99 (vs := [(vi 0), (vi 0), (vi 0)]) (cs' := [(vi 0), (vi 0), (vi 0)]) rfl rfl (nb rfl) rfl rfl fun w_16 I_17 k_18 => ?_
 have hj1 : ∀ (cr_11j1 : Tgnomonref3_walk) (cr_6j1 : Tgnomonref3_walk) (H : Hp) (w : World) (_ : Inv w0 ps0 H0 H [bx g_12 99 (cs_gnomonref3_walk cr_11j1), bx g_7 99 (cs_gnomonref3_walk cr_6j1), bx g_2 25 (cs_api_Prog x0)] w) (_ : T_gnomon_gnomonref3_walked_j1 cr_11j1 cr_6j1 x0 H K), F63_j1 (Value.pointer (some ⟨g_2, 0, none⟩)) (Value.pointer (some ⟨g_7, 0, none⟩)) (Value.pointer (some ⟨g_12, 0, none⟩)) w R E := by
  intro cr_11j1 cr_6j1 H w I h
  unfold F63_j1
  intro _
  unfold T_gnomon_gnomonref3_walked_j1 at h
  have hj2 : ∀ (cr_11j2 : Tgnomonref3_walk) (cr_6j2 : Tgnomonref3_walk) (H : Hp) (w : World) (_ : Inv w0 ps0 H0 H [bx g_12 99 (cs_gnomonref3_walk cr_11j2), bx g_7 99 (cs_gnomonref3_walk cr_6j2), bx g_2 25 (cs_api_Prog x0)] w) (_ : T_gnomon_gnomonref3_walked_j2 cr_11j2 cr_6j2 x0 H K), F63_j2 (Value.pointer (some ⟨g_7, 0, none⟩)) (Value.pointer (some ⟨g_12, 0, none⟩)) w R E := by
   intro cr_11j2 cr_6j2 H w I h
   unfold F63_j2
   intro _
   unfold T_gnomon_gnomonref3_walked_j2 at h
   refine opK_ld (ldA Tryd.isAgg99 Tryd.sizeOf99 rfl (I.at1 (o := 0) (vs := (cs_gnomonref3_walk cr_11j2)) (nb rfl) rfl)) ?_
   refine s_store (I.bring 1) Tryd.sizeOf99 (vs := (cs_gnomonref3_walk cr_11j2)) (cs' := (cs_gnomonref3_walk cr_11j2)) rfl rfl (nb rfl) rfl rfl fun w_44 I_45 k_46 => ?_
   refine xcell_A Tryd.isAgg99 Tryd.sizeOf99 rfl (I_45.at1 (o := 0) (vs := (cs_gnomonref3_walk cr_11j2)) (nb rfl) rfl) ?_
   exact hR cr_11j2 H _ I_45.drop.drop.drop h
  refine xcut_i fun j2 hx2 => ?_
  obtain ⟨J_73, m_74, i_75, b_76⟩ := h
  refine xloop_J (J := fun n l w => ∃ (s : Int × Tgnomonref3_walk × Tgnomonref3_walk) (H : Hp) , n = m_74 s ∧ l = (match s with | (s5l3, cr_11l3, cr_6l3) => [(vi s5l3)]) ∧ (match s with | (s5l3, cr_11l3, cr_6l3) => Inv w0 ps0 H0 H [bx g_12 99 (cs_gnomonref3_walk cr_11l3), bx g_7 99 (cs_gnomonref3_walk cr_6l3), bx g_2 25 (cs_api_Prog x0)] w) ∧ J_73 s H) ⟨_, (0, cr_11j1, cr_6j1), H, rfl, rfl, (((I.bring 2).bring 2).bring 2), i_75⟩ ?_
  rintro n_77 τ_78 w next3 ⟨⟨s5l3, cr_11l3, cr_6l3⟩, H, rfl, l_79, I, s_80⟩ hn3
  dsimp only at l_79 I
  simp only [List.map_cons, List.map_nil, List.cons.injEq, and_true] at l_79
  have e5 := l_79
  simp only [e5]
  obtain ⟨n3, hm3, h⟩ : ∃ n3 : (Int × Tgnomonref3_walk × Tgnomonref3_walk) → Hp → Prop, (∀ s' H', n3 s' H' → J_73 s' H' ∧ m_74 s' < m_74 (s5l3, cr_11l3, cr_6l3)) ∧ T_gnomon_gnomonref3_walked_l3 x0 s5l3 cr_11l3 cr_6l3 H n3 K := ⟨_, fun _ _ h => h, b_76 (s5l3, cr_11l3, cr_6l3) H (fun s' H' => J_73 s' H' ∧ m_74 s' < m_74 (s5l3, cr_11l3, cr_6l3)) s_80 (fun _ _ a b => ⟨a, b⟩)⟩
  unfold F63_l3
  unfold T_gnomon_gnomonref3_walked_l3 at h
  refine opK_pu pu_fa_25_1 ?_
  refine opK_ld (ld1 Tryd.isAgg23 ((I.bring 2).at1 (o := 1) (vs := [(vs x0.fBody)]) (nb rfl) rfl)) ?_
  refine opK_pu (pu_len_23 _ _ _) ?_
  refine opK_pu (pu_lss _ _ _ _ _ _) ?_
  refine opK_pu (Pu.g fun hb => by have hb_0 := hb; first | exact pu_fa_99_2 | (simp only [gval_t hb_0, gv_t hb_0, gv_t hb, gva_tt hb_0]; exact pu_fa_99_2) | (simp only [gval_t hb_0, gv_t hb_0, gv_t hb, gva_tf hb_0, gv_n]; exact pu_fa_99_2)) ?_
  refine opK_ld (Ld.g fun hb => by have hb_0 := hb; first | exact (ld1 Tryd.isAgg3 (I.at1 (o := 2) (vs := [(vi cr_11l3.fbad)]) (nb rfl) rfl)) | (simp only [gv_t hb_0]; exact (ld1 Tryd.isAgg3 (I.at1 (o := 2) (vs := [(vi cr_11l3.fbad)]) (nb rfl) rfl))) | (simp only [gval_t hb_0, gv_t hb_0, gv_t hb, gva_tf hb_0, gv_n]; exact (ld1 Tryd.isAgg3 (I.at1 (o := 2) (vs := [(vi cr_11l3.fbad)]) (nb rfl) rfl)))) ?_
  refine opK_pu (Pu.g fun hb => by have hb_0 := hb; first | exact (pu_eql _ _ _ _ _ _) | (simp only [gv_t hb_0]; exact (pu_eql _ _ _ _ _ _)) | (simp only [gval_t hb_0, gv_t hb_0, gv_t hb, gva_tf hb_0, gv_n]; exact (pu_eql _ _ _ _ _ _))) ?_
  refine opK_pu (pu_and _ _) ?_
  refine xcond_b (fun c_72 => ?_) (fun c_72 => ?_)
  ·replace h := h.1 c_72
   refine opK_pu pu_fa_25_1 ?_
   refine opK_ld (ld1 Tryd.isAgg23 ((I.bring 2).at1 (o := 1) (vs := [(vs x0.fBody)]) (nb rfl) rfl)) ?_
   obtain ⟨h_59, h_60, x_56, h_62, h⟩ := h
   obtain ⟨g_57, o_58, h_61, h_62⟩ := h_62
   refine opK_pu (pu_ix_23 h_61 _ _ _ _ h_59 h_60) ?_
   refine opK_ld (ldA (vs := (cs_api_Stmt x_56)) Tryd.isAgg88 Tryd.sizeOf88 rfl (I.atH h_62)) ?_
   refine opK_calls (cap := []) (fun args w => Tryd.call92 args w) ?_
   refine Cv_ct (Fi := [bx g_12 99 (cs_gnomonref3_walk cr_11l3)]) (Fr := [bx g_7 99 (cs_gnomonref3_walk cr_6l3), bx g_2 25 (cs_api_Prog x0)]) I (h g_12) (fun v_67 H_63 F_68 w_64 I_65 l_70 k_66 q_69 => ?_) (fun _ _ _ _ _ q => q.elim)
   obtain ⟨y0_71, rfl, rfl, h⟩ := q_69
   refine opK_pu (pu_add _ _ _ _ _ _) ?_
   exact hn3 _ _ _ (hm3 _ _ h).2 ⟨((IntKind.wrap .i64 (s5l3 + 1)), y0_71, cr_6l3), H_63, rfl, rfl, (((I_65.bring 2).bring 2).bring 2), (hm3 _ _ h).1⟩
  ·replace h := h.2 c_72
   exact hx2 _ _ (hj2 cr_11l3 cr_6l3 H _ (((I.bring 2).bring 2).bring 2) h)
 refine xcut_i fun j1 hx1 => ?_
 obtain ⟨J_100, m_101, i_102, b_103⟩ := h
 refine xloop_J (J := fun n l w => ∃ (s : Int × Tgnomonref3_walk × Tgnomonref3_walk) (H : Hp) , n = m_101 s ∧ l = (match s with | (s4l4, cr_11l4, cr_6l4) => [(vi s4l4)]) ∧ (match s with | (s4l4, cr_11l4, cr_6l4) => Inv w0 ps0 H0 H [bx g_12 99 (cs_gnomonref3_walk cr_11l4), bx g_7 99 (cs_gnomonref3_walk cr_6l4), bx g_2 25 (cs_api_Prog x0)] w) ∧ J_100 s H) ⟨_, (0, (Tgnomonref3_walk.mk 0 0 0), (Tgnomonref3_walk.mk 0 0 0)), H, rfl, rfl, (((I_17.bring 2).bring 2).bring 2), i_102⟩ ?_
 rintro n_104 τ_105 w next4 ⟨⟨s4l4, cr_11l4, cr_6l4⟩, H, rfl, l_106, I, s_107⟩ hn4
 dsimp only at l_106 I
 simp only [List.map_cons, List.map_nil, List.cons.injEq, and_true] at l_106
 have e4 := l_106
 simp only [e4]
 obtain ⟨n4, hm4, h⟩ : ∃ n4 : (Int × Tgnomonref3_walk × Tgnomonref3_walk) → Hp → Prop, (∀ s' H', n4 s' H' → J_100 s' H' ∧ m_101 s' < m_101 (s4l4, cr_11l4, cr_6l4)) ∧ T_gnomon_gnomonref3_walked_l4 x0 s4l4 cr_11l4 cr_6l4 H n4 K := ⟨_, fun _ _ h => h, b_103 (s4l4, cr_11l4, cr_6l4) H (fun s' H' => J_100 s' H' ∧ m_101 s' < m_101 (s4l4, cr_11l4, cr_6l4)) s_107 (fun _ _ a b => ⟨a, b⟩)⟩
 unfold F63_l4
 unfold T_gnomon_gnomonref3_walked_l4 at h
 refine opK_pu pu_fa_25_0 ?_
 refine opK_ld (ld1 Tryd.isAgg22 ((I.bring 2).at1 (o := 0) (vs := [(vs x0.fDecls)]) (nb rfl) rfl)) ?_
 refine opK_pu (pu_len_22 _ _ _) ?_
 refine opK_pu (pu_lss _ _ _ _ _ _) ?_
 refine opK_pu (Pu.g fun hb => by have hb_0 := hb; first | exact pu_fa_99_2 | (simp only [gval_t hb_0, gv_t hb_0, gv_t hb, gva_tt hb_0]; exact pu_fa_99_2) | (simp only [gval_t hb_0, gv_t hb_0, gv_t hb, gva_tf hb_0, gv_n]; exact pu_fa_99_2)) ?_
 refine opK_ld (Ld.g fun hb => by have hb_0 := hb; first | exact (ld1 Tryd.isAgg3 (I.at1 (o := 2) (vs := [(vi cr_11l4.fbad)]) (nb rfl) rfl)) | (simp only [gv_t hb_0]; exact (ld1 Tryd.isAgg3 (I.at1 (o := 2) (vs := [(vi cr_11l4.fbad)]) (nb rfl) rfl))) | (simp only [gval_t hb_0, gv_t hb_0, gv_t hb, gva_tf hb_0, gv_n]; exact (ld1 Tryd.isAgg3 (I.at1 (o := 2) (vs := [(vi cr_11l4.fbad)]) (nb rfl) rfl)))) ?_
 refine opK_pu (Pu.g fun hb => by have hb_0 := hb; first | exact (pu_eql _ _ _ _ _ _) | (simp only [gv_t hb_0]; exact (pu_eql _ _ _ _ _ _)) | (simp only [gval_t hb_0, gv_t hb_0, gv_t hb, gva_tf hb_0, gv_n]; exact (pu_eql _ _ _ _ _ _))) ?_
 refine opK_pu (pu_and _ _) ?_
 refine xcond_b (fun c_99 => ?_) (fun c_99 => ?_)
 ·replace h := h.1 c_99
  refine opK_calls (cap := []) (fun args w => Tryd.call91 args w) ?_
  refine Cv_ct (Fi := [bx g_12 99 (cs_gnomonref3_walk cr_11l4)]) (Fr := [bx g_7 99 (cs_gnomonref3_walk cr_6l4), bx g_2 25 (cs_api_Prog x0)]) I (h g_12) (fun v_94 H_90 F_95 w_91 I_92 l_97 k_93 q_96 => ?_) (fun _ _ _ _ _ q => q.elim)
  obtain ⟨r0_98, y0_98, rfl, rfl, h⟩ := q_96
  refine opK_pu (pu_add _ _ _ _ _ _) ?_
  exact hn4 _ _ _ (hm4 _ _ h).2 ⟨((IntKind.wrap .i64 (s4l4 + 1)), y0_98, cr_6l4), H_90, rfl, rfl, (((I_92.bring 2).bring 2).bring 2), (hm4 _ _ h).1⟩
 ·replace h := h.2 c_99
  exact hx1 _ _ (hj1 cr_11l4 cr_6l4 H _ (((I.bring 2).bring 2).bring 2) h)
theorem L_gnomon_gnomonref3_walked (x0 : Tapi_Prog) {H : Hp} {K : Tgnomonref3_walk → Hp → Prop} (h : T_gnomon_gnomonref3_walked x0 H K) : C_gnomon_gnomonref3_walked x0 H K := by
 intro w I
 refine F63_ok ?_
 refine LF_gnomon_gnomonref3_walked x0 I (fun r0 H' w' I' hk => ⟨H', _, I', r0, rfl, rfl, hk⟩) h


/- function 151: gnomon/tree.exprOf -/
def T_gnomon_tree_exprOf (x0 : Tapi_Expr) (H : Hp) (K : Itree_node → Hp → Prop) : Prop :=
 K (Itree_node.c_tree_expr (Ttree_expr.mk x0)) H
theorem LF_gnomon_tree_exprOf (x0 : Tapi_Expr) {w0 w : World} {ps0 : Nat → Prop} {H0 H : Hp} {K : Itree_node → Hp → Prop} {R : Value → World → Prop} {E : Pan} (I : Inv w0 ps0 H0 H [] w) (hR : ∀ (r0 : Itree_node) (H' : Hp) (w' : World) (_ : Inv w0 ps0 H0 H' [] w') (_ : K r0 H'), R (vItree_node r0) w') (h : T_gnomon_tree_exprOf x0 H K) : F151 (Value.agg (cs_api_Expr x0).toArray) w R E := by
 unfold T_gnomon_tree_exprOf at h
 unfold F151
 refine s_box I (cs := (cs_api_Expr x0)) rfl fun g_2 w_3 I_4 k_5 => ?_
 refine opK_ld (ldA Tryd.isAgg30 Tryd.sizeOf30 rfl (I_4.at1 (o := 0) (vs := (cs_api_Expr x0)) (nb rfl) rfl)) ?_
 refine opK_pu (pu_bld_96_0 _ _ _ _ _ _) ?_
 refine opK_pu (pu_mki_141_96 (Ttree_expr.mk x0)) ?_
 exact hR (Itree_node.c_tree_expr (Ttree_expr.mk x0)) H _ I_4.drop h
theorem L_gnomon_tree_exprOf (x0 : Tapi_Expr) {H : Hp} {K : Itree_node → Hp → Prop} (h : T_gnomon_tree_exprOf x0 H K) : C_gnomon_tree_exprOf x0 H K := by
 intro w I
 refine F151_ok ?_
 refine LF_gnomon_tree_exprOf x0 I (fun r0 H' w' I' hk => ⟨H', _, I', r0, rfl, rfl, hk⟩) h


/- function 149: (gnomon/tree.expr).parts -/
def T_gnomon_tree_expr_parts (x0 : Ttree_expr) (H : Hp) (K : Sl → Hp → Prop) : Prop :=
 C_gnomon_tree_each_gnomon_api_Expr_of_gnomon_tree_exprOf x0.fExpr.fArgs H (fun (r0_14 : Sl) (H_6 : Hp) => 
 K r0_14 H_6)
theorem LF_gnomon_tree_expr_parts (x0 : Ttree_expr) {w0 w : World} {ps0 : Nat → Prop} {H0 H : Hp} {K : Sl → Hp → Prop} {R : Value → World → Prop} {E : Pan} (I : Inv w0 ps0 H0 H [] w) (hR : ∀ (r0 : Sl) (H' : Hp) (w' : World) (_ : Inv w0 ps0 H0 H' [] w') (_ : K r0 H'), R (vs r0) w') (h : T_gnomon_tree_expr_parts x0 H K) : F149 (Value.agg (cs_api_Expr x0.fExpr).toArray) w R E := by
 unfold T_gnomon_tree_expr_parts at h
 unfold F149
 refine s_box I (cs := (cs_api_Expr x0.fExpr)) rfl fun g_2 w_3 I_4 k_5 => ?_
 refine opK_pu pu_fa_96_0 ?_
 refine opK_pu pu_fa_30_3 ?_
 refine opK_ld (ld1 Tryd.isAgg28 (I_4.at1 (o := 3) (vs := [(vs x0.fExpr.fArgs)]) (nb rfl) rfl)) ?_
 refine opK_calls (cap := []) (fun args w => Tryd.call150 args w) ?_
 refine Cv_ct (Fi := []) (Fr := [bx g_2 96 (cs_api_Expr x0.fExpr)]) I_4 (h) (fun v_10 H_6 F_11 w_7 I_8 l_13 k_9 q_12 => ?_) (fun _ _ _ _ _ q => q.elim)
 obtain ⟨r0_14, rfl, rfl, h⟩ := q_12
 exact hR r0_14 H_6 _ I_8.drop h
theorem L_gnomon_tree_expr_parts (x0 : Ttree_expr) {H : Hp} {K : Sl → Hp → Prop} (h : T_gnomon_tree_expr_parts x0 H K) : C_gnomon_tree_expr_parts x0 H K := by
 intro w I
 refine F149_ok ?_
 refine LF_gnomon_tree_expr_parts x0 I (fun r0 H' w' I' hk => ⟨H', _, I', r0, rfl, rfl, hk⟩) h


end Go.Proofs.YthldnpmfelniiaaDoor
