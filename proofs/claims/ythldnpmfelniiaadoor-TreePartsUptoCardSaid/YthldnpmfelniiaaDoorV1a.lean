/-
  Typed formulas of the program's functions, and the theorems that the contracts follow from them; printed by lift.py off the code.
-/
import Derived.Test.YthldnpmfelniiaaDoorV1
namespace Go.Proofs.YthldnpmfelniiaaDoor
open Go.RowKit
set_option maxRecDepth 100000
set_option maxHeartbeats 2000000

/- function 96: gnomon/tree.declOf -/
def T_gnomon_tree_declOf (x0 : Tapi_Decl) (H : Hp) (K : Itree_node → Hp → Prop) : Prop :=
 K (Itree_node.c_tree_decl (Ttree_decl.mk x0)) H
theorem LF_gnomon_tree_declOf (x0 : Tapi_Decl) {w0 w : World} {ps0 : Nat → Prop} {H0 H : Hp} {K : Itree_node → Hp → Prop} {R : Value → World → Prop} {E : Pan} (I : Inv w0 ps0 H0 H [] w) (hR : ∀ (r0 : Itree_node) (H' : Hp) (w' : World) (_ : Inv w0 ps0 H0 H' [] w') (_ : K r0 H'), R (vItree_node r0) w') (h : T_gnomon_tree_declOf x0 H K) : F96 (Value.agg (cs_api_Decl x0).toArray) w R E := by
 unfold T_gnomon_tree_declOf at h
 unfold F96
 refine s_box I (cs := (cs_api_Decl x0)) rfl fun g_2 w_3 I_4 k_5 => ?_
 refine opK_ld (ldA Tryd.isAgg67 Tryd.sizeOf67 rfl (I_4.at1 (o := 0) (vs := (cs_api_Decl x0)) (nb rfl) rfl)) ?_
 refine opK_pu (pu_bld_175_0 _ _) ?_
 refine opK_pu (pu_mki_141_175 (Ttree_decl.mk x0)) ?_
 exact hR (Itree_node.c_tree_decl (Ttree_decl.mk x0)) H _ I_4.drop h
theorem L_gnomon_tree_declOf (x0 : Tapi_Decl) {H : Hp} {K : Itree_node → Hp → Prop} (h : T_gnomon_tree_declOf x0 H K) : C_gnomon_tree_declOf x0 H K := by
 intro w I
 refine F96_ok ?_
 refine LF_gnomon_tree_declOf x0 I (fun r0 H' w' I' hk => ⟨H', _, I', r0, rfl, rfl, hk⟩) h


/- function 131: gnomon/text.Class$1 -/
def T_gnomon_text_Class_1 (x0 : Int) (x1 : Int) (x2 : Int) (H : Hp) (K : Bool → Hp → Prop) : Prop :=
 K ((decide (x0 ≤ x2)) && (decide (x2 ≤ x1))) H
theorem LF_gnomon_text_Class_1 (x0 : Int) (x1 : Int) (x2 : Int) (g2 : Nat) {w0 w : World} {ps0 : Nat → Prop} {H0 H : Hp} {K : Bool → Hp → Prop} {R : Value → World → Prop} {E : Pan} (I : Inv w0 ps0 H0 H [bx g2 21 [(Value.int .i32 x2)]] w) (hR : ∀ (r0 : Bool) (H' : Hp) (w' : World) (_ : Inv w0 ps0 H0 H' [bx g2 21 [(Value.int .i32 x2)]] w') (_ : K r0 H'), R (Value.bool r0) w') (h : T_gnomon_text_Class_1 x0 x1 x2 H K) : F131 (Value.int .i32 x0) (Value.int .i32 x1) (Value.pointer (some ⟨g2, 0, none⟩)) w R E := by
 unfold T_gnomon_text_Class_1 at h
 unfold F131
 refine opK_ld (ld1 Tryd.isAgg21 (I.at1 (o := 0) (vs := [(Value.int .i32 x2)]) (nb rfl) rfl)) ?_
 refine opK_pu (pu_leq _ _ _ _ _ _) ?_
 refine opK_ld (Ld.g fun hb => by have hb_0 := hb; first | exact (ld1 Tryd.isAgg21 (I.at1 (o := 0) (vs := [(Value.int .i32 x2)]) (nb rfl) rfl)) | (simp only [gval_t hb_0, gv_t hb_0, gv_t hb, gva_tt hb_0]; exact (ld1 Tryd.isAgg21 (I.at1 (o := 0) (vs := [(Value.int .i32 x2)]) (nb rfl) rfl))) | (simp only [gval_t hb_0, gv_t hb_0, gv_t hb, gva_tf hb_0, gv_n]; exact (ld1 Tryd.isAgg21 (I.at1 (o := 0) (vs := [(Value.int .i32 x2)]) (nb rfl) rfl)))) ?_
 try simp only [gval_b]
 refine opK_pu (Pu.g fun hb => by have hb_0 := hb; first | exact (pu_leq _ _ _ _ _ _) | (simp only [gv_t hb_0]; exact (pu_leq _ _ _ _ _ _)) | (simp only [gval_t hb_0, gv_t hb_0, gv_t hb, gva_tf hb_0, gv_n]; exact (pu_leq _ _ _ _ _ _))) ?_
 refine opK_pu (pu_and _ _) ?_
 exact hR ((decide (x0 ≤ x2)) && (decide (x2 ≤ x1))) H _ I h
theorem L_gnomon_text_Class_1 (x0 : Int) (x1 : Int) (x2 : Int) {H : Hp} {K : Bool → Hp → Prop} (h : T_gnomon_text_Class_1 x0 x1 x2 H K) : C_gnomon_text_Class_1 x0 x1 x2 H K := by
 intro g2 w I
 refine F131_ok ?_
 refine LF_gnomon_text_Class_1 x0 x1 x2 g2 I (fun r0 H' w' I' hk => ⟨H', _, I', r0, rfl, rfl, hk⟩) h


/- function 123: gnomon/lex.long -/
def T_gnomon_lex_long (x0 : ByteArray) (H : Hp) (K : Bool → Hp → Prop) : Prop :=
 C_unicode_utf8_RuneCountInString x0 H (fun (r0_9 : Int) (H_1 : Hp) => 
 K (decide (32 < r0_9)) H_1)
theorem LF_gnomon_lex_long (x0 : ByteArray) {w0 w : World} {ps0 : Nat → Prop} {H0 H : Hp} {K : Bool → Hp → Prop} {R : Value → World → Prop} {E : Pan} (I : Inv w0 ps0 H0 H [] w) (hR : ∀ (r0 : Bool) (H' : Hp) (w' : World) (_ : Inv w0 ps0 H0 H' [] w') (_ : K r0 H'), R (Value.bool r0) w') (h : T_gnomon_lex_long x0 H K) : F123 (Value.string x0) w R E := by
 unfold T_gnomon_lex_long at h
 unfold F123
 refine opK_calls (cap := []) (fun args w => Tryd.call130 args w) ?_
 refine Cv_ct (Fi := []) (Fr := []) I (h) (fun v_5 H_1 F_6 w_2 I_3 l_8 k_4 q_7 => ?_) (fun _ _ _ _ _ q => q.elim)
 obtain ⟨r0_9, rfl, rfl, h⟩ := q_7
 refine opK_pu (pu_gtr _ _ _ _ _ _) ?_
 exact hR (decide (32 < r0_9)) H_1 _ I_3 h
theorem L_gnomon_lex_long (x0 : ByteArray) {H : Hp} {K : Bool → Hp → Prop} (h : T_gnomon_lex_long x0 H K) : C_gnomon_lex_long x0 H K := by
 intro w I
 refine F123_ok ?_
 refine LF_gnomon_lex_long x0 I (fun r0 H' w' I' hk => ⟨H', _, I', r0, rfl, rfl, hk⟩) h


/- function 124: gnomon/lex.Word -/
def T_gnomon_lex_Word_j1 (s4j1 : Bool) (H : Hp) (K : Bool → Hp → Prop) : Prop :=
 (s4j1 = true →
 K true H) ∧
 (s4j1 = false →
 K false H)
def T_gnomon_lex_Word (x0 : ByteArray) (H : Hp) (K : Bool → Hp → Prop) : Prop :=
 (x0 = ⟨#[118, 97, 114]⟩ →
 T_gnomon_lex_Word_j1 (decide (x0 = ⟨#[118, 97, 114]⟩)) H K) ∧
 (¬ (x0 = ⟨#[118, 97, 114]⟩) →
 (x0 = ⟨#[97, 114, 114, 97, 121]⟩ →
 T_gnomon_lex_Word_j1 (decide (x0 = ⟨#[97, 114, 114, 97, 121]⟩)) H K) ∧
 (¬ (x0 = ⟨#[97, 114, 114, 97, 121]⟩) →
 (x0 = ⟨#[105, 102]⟩ →
 T_gnomon_lex_Word_j1 (decide (x0 = ⟨#[105, 102]⟩)) H K) ∧
 (¬ (x0 = ⟨#[105, 102]⟩) →
 (x0 = ⟨#[101, 108, 115, 101]⟩ →
 T_gnomon_lex_Word_j1 (decide (x0 = ⟨#[101, 108, 115, 101]⟩)) H K) ∧
 (¬ (x0 = ⟨#[101, 108, 115, 101]⟩) →
 (x0 = ⟨#[119, 104, 105, 108, 101]⟩ →
 T_gnomon_lex_Word_j1 (decide (x0 = ⟨#[119, 104, 105, 108, 101]⟩)) H K) ∧
 (¬ (x0 = ⟨#[119, 104, 105, 108, 101]⟩) →
 (x0 = ⟨#[97, 115, 115, 101, 114, 116]⟩ →
 T_gnomon_lex_Word_j1 (decide (x0 = ⟨#[97, 115, 115, 101, 114, 116]⟩)) H K) ∧
 (¬ (x0 = ⟨#[97, 115, 115, 101, 114, 116]⟩) →
 (x0 = ⟨#[97, 115, 115, 117, 109, 101]⟩ →
 T_gnomon_lex_Word_j1 (decide (x0 = ⟨#[97, 115, 115, 117, 109, 101]⟩)) H K) ∧
 (¬ (x0 = ⟨#[97, 115, 115, 117, 109, 101]⟩) →
 (x0 = ⟨#[115, 107, 105, 112]⟩ →
 T_gnomon_lex_Word_j1 (decide (x0 = ⟨#[115, 107, 105, 112]⟩)) H K) ∧
 (¬ (x0 = ⟨#[115, 107, 105, 112]⟩) →
 (x0 = ⟨#[105, 110, 112, 117, 116]⟩ →
 T_gnomon_lex_Word_j1 (decide (x0 = ⟨#[105, 110, 112, 117, 116]⟩)) H K) ∧
 (¬ (x0 = ⟨#[105, 110, 112, 117, 116]⟩) →
 (x0 = ⟨#[116, 114, 117, 101]⟩ →
 T_gnomon_lex_Word_j1 (decide (x0 = ⟨#[116, 114, 117, 101]⟩)) H K) ∧
 (¬ (x0 = ⟨#[116, 114, 117, 101]⟩) →
 T_gnomon_lex_Word_j1 (decide (x0 = ⟨#[102, 97, 108, 115, 101]⟩)) H K))))))))))
theorem LF_gnomon_lex_Word (x0 : ByteArray) {w0 w : World} {ps0 : Nat → Prop} {H0 H : Hp} {K : Bool → Hp → Prop} {R : Value → World → Prop} {E : Pan} (I : Inv w0 ps0 H0 H [] w) (hR : ∀ (r0 : Bool) (H' : Hp) (w' : World) (_ : Inv w0 ps0 H0 H' [] w') (_ : K r0 H'), R (Value.bool r0) w') (h : T_gnomon_lex_Word x0 H K) : F124 (Value.string x0) w R E := by
 unfold T_gnomon_lex_Word at h
 unfold F124
 have hj1 : ∀ (s4j1 : Bool) (H : Hp) (w : World) (_ : Inv w0 ps0 H0 H [] w) (_ : T_gnomon_lex_Word_j1 s4j1 H K), F124_j1 (Value.bool s4j1) w R E := by
  intro s4j1 H w I h
  unfold F124_j1
  intro _
  unfold T_gnomon_lex_Word_j1 at h
  refine xcond_b (fun c_1 => ?_) (fun c_1 => ?_)
  ·replace h := h.1 c_1
   exact hR true H _ I h
  ·replace h := h.2 c_1
   exact hR false H _ I h
 refine xcut_i fun j1 hx1 => ?_
 refine opK_pu (pu_eqs _ _ _ _ _) ?_
 refine xcond_p (fun c_11 => ?_) (fun c_11 => ?_)
 ·replace h := h.1 c_11
  exact hx1 _ _ (hj1 (decide (x0 = ⟨#[118, 97, 114]⟩)) H _ I h)
 ·replace h := h.2 c_11
  refine opK_pu (pu_eqs _ _ _ _ _) ?_
  refine xcond_p (fun c_10 => ?_) (fun c_10 => ?_)
  ·replace h := h.1 c_10
   exact hx1 _ _ (hj1 (decide (x0 = ⟨#[97, 114, 114, 97, 121]⟩)) H _ I h)
  ·replace h := h.2 c_10
   refine opK_pu (pu_eqs _ _ _ _ _) ?_
   refine xcond_p (fun c_9 => ?_) (fun c_9 => ?_)
   ·replace h := h.1 c_9
    exact hx1 _ _ (hj1 (decide (x0 = ⟨#[105, 102]⟩)) H _ I h)
   ·replace h := h.2 c_9
    refine opK_pu (pu_eqs _ _ _ _ _) ?_
    refine xcond_p (fun c_8 => ?_) (fun c_8 => ?_)
    ·replace h := h.1 c_8
     exact hx1 _ _ (hj1 (decide (x0 = ⟨#[101, 108, 115, 101]⟩)) H _ I h)
    ·replace h := h.2 c_8
     refine opK_pu (pu_eqs _ _ _ _ _) ?_
     refine xcond_p (fun c_7 => ?_) (fun c_7 => ?_)
     ·replace h := h.1 c_7
      exact hx1 _ _ (hj1 (decide (x0 = ⟨#[119, 104, 105, 108, 101]⟩)) H _ I h)
     ·replace h := h.2 c_7
      refine opK_pu (pu_eqs _ _ _ _ _) ?_
      refine xcond_p (fun c_6 => ?_) (fun c_6 => ?_)
      ·replace h := h.1 c_6
       exact hx1 _ _ (hj1 (decide (x0 = ⟨#[97, 115, 115, 101, 114, 116]⟩)) H _ I h)
      ·replace h := h.2 c_6
       refine opK_pu (pu_eqs _ _ _ _ _) ?_
       refine xcond_p (fun c_5 => ?_) (fun c_5 => ?_)
       ·replace h := h.1 c_5
        exact hx1 _ _ (hj1 (decide (x0 = ⟨#[97, 115, 115, 117, 109, 101]⟩)) H _ I h)
       ·replace h := h.2 c_5
        refine opK_pu (pu_eqs _ _ _ _ _) ?_
        refine xcond_p (fun c_4 => ?_) (fun c_4 => ?_)
        ·replace h := h.1 c_4
         exact hx1 _ _ (hj1 (decide (x0 = ⟨#[115, 107, 105, 112]⟩)) H _ I h)
        ·replace h := h.2 c_4
         refine opK_pu (pu_eqs _ _ _ _ _) ?_
         refine xcond_p (fun c_3 => ?_) (fun c_3 => ?_)
         ·replace h := h.1 c_3
          exact hx1 _ _ (hj1 (decide (x0 = ⟨#[105, 110, 112, 117, 116]⟩)) H _ I h)
         ·replace h := h.2 c_3
          refine opK_pu (pu_eqs _ _ _ _ _) ?_
          refine xcond_p (fun c_2 => ?_) (fun c_2 => ?_)
          ·replace h := h.1 c_2
           exact hx1 _ _ (hj1 (decide (x0 = ⟨#[116, 114, 117, 101]⟩)) H _ I h)
          ·replace h := h.2 c_2
           refine opK_pu (pu_eqs _ _ _ _ _) ?_
           exact hx1 _ _ (hj1 (decide (x0 = ⟨#[102, 97, 108, 115, 101]⟩)) H _ I h)
theorem L_gnomon_lex_Word (x0 : ByteArray) {H : Hp} {K : Bool → Hp → Prop} (h : T_gnomon_lex_Word x0 H K) : C_gnomon_lex_Word x0 H K := by
 intro w I
 refine F124_ok ?_
 refine LF_gnomon_lex_Word x0 I (fun r0 H' w' I' hk => ⟨H', _, I', r0, rfl, rfl, hk⟩) h


/- function 25: gnomon/tree.Nodes -/
def T_gnomon_tree_Nodes (x0 : Tapi_Prog) (H : Hp) (K : Int → Int → Hp → Prop) : Prop :=
 C_gnomon_tree_all x0 H (fun (r0_14 : Ttree_walker) (H_6 : Hp) => 
 (¬ (r0_14.fe = 0) →
 K 0 r0_14.fe H_6) ∧
 (r0_14.fe = 0 →
 K r0_14.fnodes 0 H_6))
theorem LF_gnomon_tree_Nodes (x0 : Tapi_Prog) {w0 w : World} {ps0 : Nat → Prop} {H0 H : Hp} {K : Int → Int → Hp → Prop} {R : Value → World → Prop} {E : Pan} (I : Inv w0 ps0 H0 H [] w) (hR : ∀ (r0 : Int) (r1 : Int) (H' : Hp) (w' : World) (_ : Inv w0 ps0 H0 H' [] w') (_ : K r0 r1 H'), R (Value.tuple #[(vi r0), (vi r1)]) w') (h : T_gnomon_tree_Nodes x0 H K) : F25 (Value.agg (cs_api_Prog x0).toArray) w R E := by
 unfold T_gnomon_tree_Nodes at h
 unfold F25
 refine s_box I (cs := (cs_api_Prog x0)) rfl fun g_2 w_3 I_4 k_5 => ?_
 refine opK_ld (ldA Tryd.isAgg25 Tryd.sizeOf25 rfl (I_4.at1 (o := 0) (vs := (cs_api_Prog x0)) (nb rfl) rfl)) ?_
 refine opK_calls (cap := []) (fun args w => Tryd.call66 args w) ?_
 refine Cv_ct (Fi := []) (Fr := [bx g_2 25 (cs_api_Prog x0)]) I_4 (h) (fun v_10 H_6 F_11 w_7 I_8 l_13 k_9 q_12 => ?_) (fun _ _ _ _ _ q => q.elim)
 obtain ⟨r0_14, gr0_14, rfl, rfl, h⟩ := q_12
 refine opK_pu (pu_nilp _) ?_
 refine opK_pu pu_fa_92_2 ?_
 refine opK_ld (ld1 Tryd.isAgg34 (I_8.at1 (o := 2) (vs := [(vi r0_14.fe)]) (nb rfl) rfl)) ?_
 refine opK_pu (pu_neq _ _ _ _ _ _) ?_
 refine xcond_n (fun c_18 => ?_) (fun c_18 => ?_)
 ·replace h := h.1 c_18
  refine s_dX I_8 fun w_16 I_17 => ?_
  refine qP_pu (pu_nilp _) ?_
  refine qP_pu pu_fa_92_2 ?_
  refine qL_ld (ld1 Tryd.isAgg34 (I_17.at1 (o := 2) (vs := [(vi r0_14.fe)]) (nb rfl) rfl)) ?_
  exact hR 0 r0_14.fe H_6 _ I_17.drop.drop h
 ·replace h := h.2 c_18
  refine opK_pu (pu_nilp _) ?_
  refine opK_pu pu_fa_92_0 ?_
  refine opK_ld (ld1 Tryd.isAgg3 (I_8.at1 (o := 0) (vs := [(vi r0_14.fnodes)]) (nb rfl) rfl)) ?_
  exact hR r0_14.fnodes 0 H_6 _ I_8.drop.drop h
theorem L_gnomon_tree_Nodes (x0 : Tapi_Prog) {H : Hp} {K : Int → Int → Hp → Prop} (h : T_gnomon_tree_Nodes x0 H K) : C_gnomon_tree_Nodes x0 H K := by
 intro w I
 refine F25_ok ?_
 refine LF_gnomon_tree_Nodes x0 I (fun r0 r1 H' w' I' hk => ⟨H', _, I', r0, r1, rfl, rfl, hk⟩) h


/- function 84: gnomon/tree.sameExpr -/
def T_gnomon_tree_sameExpr (x0 : Tapi_Expr) (x1 : Tapi_Expr) (H : Hp) (K : Bool → Hp → Prop) : Prop :=
 TG ((((decide (x0.fKind = x1.fKind)) && (decide (x0.fNum = x1.fNum))) && (decide (x0.fName = x1.fName))) = true) (C_slices_EqualFunc_gnomon_api_Expr_gnomon_api_Expr_gnomon_api_Expr_gnomon_api_Expr_of_gnomon_tree_sameExpr x0.fArgs x1.fArgs H) false H (fun (r0_19 : Bool) (H_11 : Hp) =>
 K ((((decide (x0.fKind = x1.fKind)) && (decide (x0.fNum = x1.fNum))) && (decide (x0.fName = x1.fName))) && r0_19) H_11)
theorem LF_gnomon_tree_sameExpr (x0 : Tapi_Expr) (x1 : Tapi_Expr) {w0 w : World} {ps0 : Nat → Prop} {H0 H : Hp} {K : Bool → Hp → Prop} {R : Value → World → Prop} {E : Pan} (I : Inv w0 ps0 H0 H [] w) (hR : ∀ (r0 : Bool) (H' : Hp) (w' : World) (_ : Inv w0 ps0 H0 H' [] w') (_ : K r0 H'), R (Value.bool r0) w') (h : T_gnomon_tree_sameExpr x0 x1 H K) : F84 (Value.agg (cs_api_Expr x0).toArray) (Value.agg (cs_api_Expr x1).toArray) w R E := by
 unfold T_gnomon_tree_sameExpr at h
 unfold F84
 refine s_box I (cs := (cs_api_Expr x0)) rfl fun g_2 w_3 I_4 k_5 => ?_
 refine s_box I_4 (cs := (cs_api_Expr x1)) rfl fun g_7 w_8 I_9 k_10 => ?_
 refine opK_pu pu_fa_30_0 ?_
 refine opK_ld (ld1 Tryd.isAgg3 ((I_9.bring 1).at1 (o := 0) (vs := [(vi x0.fKind)]) (nb rfl) rfl)) ?_
 refine opK_pu pu_fa_30_0 ?_
 refine opK_ld (ld1 Tryd.isAgg3 (I_9.at1 (o := 0) (vs := [(vi x1.fKind)]) (nb rfl) rfl)) ?_
 refine opK_pu (pu_eql _ _ _ _ _ _) ?_
 refine opK_pu (Pu.g fun hb => by have hb_0 := hb; first | exact pu_fa_30_1 | (simp only [gval_t hb_0, gv_t hb_0, gv_t hb, gva_tt hb_0]; exact pu_fa_30_1) | (simp only [gval_t hb_0, gv_t hb_0, gv_t hb, gva_tf hb_0, gv_n]; exact pu_fa_30_1)) ?_
 refine opK_ld (Ld.g fun hb => by have hb_0 := hb; first | exact (ld1 Tryd.isAgg2 ((I_9.bring 1).at1 (o := 1) (vs := [(vi x0.fNum)]) (nb rfl) rfl)) | (simp only [gv_t hb_0]; exact (ld1 Tryd.isAgg2 ((I_9.bring 1).at1 (o := 1) (vs := [(vi x0.fNum)]) (nb rfl) rfl))) | (simp only [gval_t hb_0, gv_t hb_0, gv_t hb, gva_tf hb_0, gv_n]; exact (ld1 Tryd.isAgg2 ((I_9.bring 1).at1 (o := 1) (vs := [(vi x0.fNum)]) (nb rfl) rfl)))) ?_
 refine opK_pu (Pu.g fun hb => by have hb_0 := hb; first | exact pu_fa_30_1 | (simp only [gval_t hb_0, gv_t hb_0, gv_t hb, gva_tt hb_0]; exact pu_fa_30_1) | (simp only [gval_t hb_0, gv_t hb_0, gv_t hb, gva_tf hb_0, gv_n]; exact pu_fa_30_1)) ?_
 refine opK_ld (Ld.g fun hb => by have hb_0 := hb; first | exact (ld1 Tryd.isAgg2 (I_9.at1 (o := 1) (vs := [(vi x1.fNum)]) (nb rfl) rfl)) | (simp only [gv_t hb_0]; exact (ld1 Tryd.isAgg2 (I_9.at1 (o := 1) (vs := [(vi x1.fNum)]) (nb rfl) rfl))) | (simp only [gval_t hb_0, gv_t hb_0, gv_t hb, gva_tf hb_0, gv_n]; exact (ld1 Tryd.isAgg2 (I_9.at1 (o := 1) (vs := [(vi x1.fNum)]) (nb rfl) rfl)))) ?_
 refine opK_pu (Pu.g fun hb => by have hb_0 := hb; first | exact (pu_eql _ _ _ _ _ _) | (simp only [gv_t hb_0]; exact (pu_eql _ _ _ _ _ _)) | (simp only [gval_t hb_0, gv_t hb_0, gv_t hb, gva_tf hb_0, gv_n]; exact (pu_eql _ _ _ _ _ _))) ?_
 refine opK_pu (pu_and _ _) ?_
 refine opK_pu (Pu.g fun hb => by have hb_0 := hb; first | exact pu_fa_30_2 | (simp only [gval_t hb_0, gv_t hb_0, gv_t hb, gva_tt hb_0]; exact pu_fa_30_2) | (simp only [gval_t hb_0, gv_t hb_0, gv_t hb, gva_tf hb_0, gv_n]; exact pu_fa_30_2)) ?_
 refine opK_ld (Ld.g fun hb => by have hb_0 := hb; first | exact (ld1 Tryd.isAgg9 ((I_9.bring 1).at1 (o := 2) (vs := [(Value.string x0.fName)]) (nb rfl) rfl)) | (simp only [gv_t hb_0]; exact (ld1 Tryd.isAgg9 ((I_9.bring 1).at1 (o := 2) (vs := [(Value.string x0.fName)]) (nb rfl) rfl))) | (simp only [gval_t hb_0, gv_t hb_0, gv_t hb, gva_tf hb_0, gv_n]; exact (ld1 Tryd.isAgg9 ((I_9.bring 1).at1 (o := 2) (vs := [(Value.string x0.fName)]) (nb rfl) rfl)))) ?_
 refine opK_pu (Pu.g fun hb => by have hb_0 := hb; first | exact pu_fa_30_2 | (simp only [gval_t hb_0, gv_t hb_0, gv_t hb, gva_tt hb_0]; exact pu_fa_30_2) | (simp only [gval_t hb_0, gv_t hb_0, gv_t hb, gva_tf hb_0, gv_n]; exact pu_fa_30_2)) ?_
 refine opK_ld (Ld.g fun hb => by have hb_0 := hb; first | exact (ld1 Tryd.isAgg9 (I_9.at1 (o := 2) (vs := [(Value.string x1.fName)]) (nb rfl) rfl)) | (simp only [gv_t hb_0]; exact (ld1 Tryd.isAgg9 (I_9.at1 (o := 2) (vs := [(Value.string x1.fName)]) (nb rfl) rfl))) | (simp only [gval_t hb_0, gv_t hb_0, gv_t hb, gva_tf hb_0, gv_n]; exact (ld1 Tryd.isAgg9 (I_9.at1 (o := 2) (vs := [(Value.string x1.fName)]) (nb rfl) rfl)))) ?_
 refine opK_pu (Pu.g fun hb => by have hb_0 := hb; first | exact (pu_eqs _ _ _ _ _) | (simp only [gv_t hb_0]; exact (pu_eqs _ _ _ _ _)) | (simp only [gval_t hb_0, gv_t hb_0, gv_t hb, gva_tf hb_0, gv_n]; exact (pu_eqs _ _ _ _ _))) ?_
 refine opK_pu (pu_and _ _) ?_
 refine opK_pu (Pu.g fun hb => by have hb_0 := hb; first | exact pu_fa_30_3 | (simp only [gval_t hb_0, gv_t hb_0, gv_t hb, gva_tt hb_0]; exact pu_fa_30_3) | (simp only [gval_t hb_0, gv_t hb_0, gv_t hb, gva_tf hb_0, gv_n]; exact pu_fa_30_3)) ?_
 refine opK_ld (Ld.g fun hb => by have hb_0 := hb; first | exact (ld1 Tryd.isAgg28 ((I_9.bring 1).at1 (o := 3) (vs := [(vs x0.fArgs)]) (nb rfl) rfl)) | (simp only [gv_t hb_0]; exact (ld1 Tryd.isAgg28 ((I_9.bring 1).at1 (o := 3) (vs := [(vs x0.fArgs)]) (nb rfl) rfl))) | (simp only [gval_t hb_0, gv_t hb_0, gv_t hb, gva_tf hb_0, gv_n]; exact (ld1 Tryd.isAgg28 ((I_9.bring 1).at1 (o := 3) (vs := [(vs x0.fArgs)]) (nb rfl) rfl)))) ?_
 refine opK_pu (Pu.g fun hb => by have hb_0 := hb; first | exact pu_fa_30_3 | (simp only [gval_t hb_0, gv_t hb_0, gv_t hb, gva_tt hb_0]; exact pu_fa_30_3) | (simp only [gval_t hb_0, gv_t hb_0, gv_t hb, gva_tf hb_0, gv_n]; exact pu_fa_30_3)) ?_
 refine opK_ld (Ld.g fun hb => by have hb_0 := hb; first | exact (ld1 Tryd.isAgg28 (I_9.at1 (o := 3) (vs := [(vs x1.fArgs)]) (nb rfl) rfl)) | (simp only [gv_t hb_0]; exact (ld1 Tryd.isAgg28 (I_9.at1 (o := 3) (vs := [(vs x1.fArgs)]) (nb rfl) rfl))) | (simp only [gval_t hb_0, gv_t hb_0, gv_t hb, gva_tf hb_0, gv_n]; exact (ld1 Tryd.isAgg28 (I_9.at1 (o := 3) (vs := [(vs x1.fArgs)]) (nb rfl) rfl)))) ?_
 refine opK_g2 (D := fun v_15 w_12 => ∃ (r0_19 : Bool) (H_11 : Hp) , v_15 = (gv (((decide (x0.fKind = x1.fKind)) && (decide (x0.fNum = x1.fNum))) && (decide (x0.fName = x1.fName))) true (Value.bool r0_19)) ∧ (Inv w0 ps0 H0 H_11 [bx g_7 30 (cs_api_Expr x1), bx g_2 30 (cs_api_Expr x0)] w_12) ∧ (∀ i, i < w_8.heap.size → ¬ inF [] i → w_12.heap[i]? = w_8.heap[i]?) ∧ Hle H H_11 ∧ (K ((((decide (x0.fKind = x1.fKind)) && (decide (x0.fNum = x1.fNum))) && (decide (x0.fName = x1.fName))) && r0_19) H_11)) (fun b_20 => ?_) (fun b_20 => ?_) ?_
 ·replace h := h.1 b_20
  have hb_0 := b_20
  try simp only [gv_t hb_0]
  refine opK_calls (cap := []) (fun args w => Tryd.call83 args w) ?_
  refine Cv_ct (Fi := []) (Fr := [bx g_7 30 (cs_api_Expr x1), bx g_2 30 (cs_api_Expr x0)]) I_9 (h) (fun v_15 H_11 F_16 w_12 I_13 l_18 k_14 q_17 => ?_) (fun _ _ _ _ _ q => q.elim)
  obtain ⟨r0_19, rfl, rfl, h⟩ := q_17
  exact ⟨r0_19, H_11, by first | rfl | rw [gv_t b_20], I_13, k_14, l_18, h⟩
 ·exact ⟨false, H, by first | rfl | rw [gv_f b_20], I_9, fun _ _ _ => rfl, Hle.refl _, h.2 b_20⟩
 ·clear h
  rintro v_15 w_12 ⟨r0_19, H_11, rfl, I_13, k_14, l_18, h⟩
  refine opK_pu (pu_and _ _) ?_
  exact hR ((((decide (x0.fKind = x1.fKind)) && (decide (x0.fNum = x1.fNum))) && (decide (x0.fName = x1.fName))) && r0_19) H_11 _ I_13.drop.drop h
theorem L_gnomon_tree_sameExpr (x0 : Tapi_Expr) (x1 : Tapi_Expr) {H : Hp} {K : Bool → Hp → Prop} (h : T_gnomon_tree_sameExpr x0 x1 H K) : C_gnomon_tree_sameExpr x0 x1 H K := by
 intro w I
 refine F84_ok ?_
 refine LF_gnomon_tree_sameExpr x0 x1 I (fun r0 H' w' I' hk => ⟨H', _, I', r0, rfl, rfl, hk⟩) h


/- function 83: slices.EqualFunc[[]gnomon/api.Expr,[]gnomon/api.Expr,gnomon/api.Expr,gnomon/api.Expr] -/
def T_slices_EqualFunc_gnomon_api_Expr_gnomon_api_Expr_gnomon_api_Expr_gnomon_api_Expr_of_gnomon_tree_sameExpr_j1 (H : Hp) (K : Bool → Hp → Prop) : Prop :=
 K true H
def T_slices_EqualFunc_gnomon_api_Expr_gnomon_api_Expr_gnomon_api_Expr_gnomon_api_Expr_of_gnomon_tree_sameExpr_l2 (s1l2 : Sl) (s15l2 : Sl) (s16l2 : Int) (s17l2 : Int) (H : Hp) (n2 : Int → Hp → Prop) (K : Bool → Hp → Prop) : Prop :=
 (s17l2 < s16l2 →
 (0 : Int) ≤ s17l2 ∧ (s17l2 : Int) < s15l2.n ∧ ∃ x_1 : Tapi_Expr, EltH H s15l2 s17l2 4 (cs_api_Expr x_1) ∧ 
 (0 : Int) ≤ s17l2 ∧ (s17l2 : Int) < s1l2.n ∧ ∃ x_16 : Tapi_Expr, EltH H s1l2 s17l2 4 (cs_api_Expr x_16) ∧ 
 C_gnomon_tree_sameExpr x_1 x_16 H (fun (r0_39 : Bool) (H_31 : Hp) => 
 ((!r0_39) = true →
 K false H_31) ∧
 ((!r0_39) = false →
 n2 (IntKind.wrap .i64 (s17l2 + 1)) H_31))) ∧
 (¬ (s17l2 < s16l2) →
 T_slices_EqualFunc_gnomon_api_Expr_gnomon_api_Expr_gnomon_api_Expr_gnomon_api_Expr_of_gnomon_tree_sameExpr_j1 H K)
def T_slices_EqualFunc_gnomon_api_Expr_gnomon_api_Expr_gnomon_api_Expr_gnomon_api_Expr_of_gnomon_tree_sameExpr (x0 : Sl) (x1 : Sl) (H : Hp) (K : Bool → Hp → Prop) : Prop :=
 (¬ ((x0.n : Int) = (x1.n : Int)) →
 K false H) ∧
 ((x0.n : Int) = (x1.n : Int) →
 TL (0 : Int) H fun (s : Int) H n2 => T_slices_EqualFunc_gnomon_api_Expr_gnomon_api_Expr_gnomon_api_Expr_gnomon_api_Expr_of_gnomon_tree_sameExpr_l2 x1 x0 (x0.n : Int) s H n2 K)
theorem LF_slices_EqualFunc_gnomon_api_Expr_gnomon_api_Expr_gnomon_api_Expr_gnomon_api_Expr_of_gnomon_tree_sameExpr (x0 : Sl) (x1 : Sl) {w0 w : World} {ps0 : Nat → Prop} {H0 H : Hp} {K : Bool → Hp → Prop} {R : Value → World → Prop} {E : Pan} (I : Inv w0 ps0 H0 H [] w) (hR : ∀ (r0 : Bool) (H' : Hp) (w' : World) (_ : Inv w0 ps0 H0 H' [] w') (_ : K r0 H'), R (Value.bool r0) w') (h : T_slices_EqualFunc_gnomon_api_Expr_gnomon_api_Expr_gnomon_api_Expr_gnomon_api_Expr_of_gnomon_tree_sameExpr x0 x1 H K) : F83 (vs x0) (vs x1) (Value.func (.func 84) #[] #[]) w R E := by
 unfold T_slices_EqualFunc_gnomon_api_Expr_gnomon_api_Expr_gnomon_api_Expr_gnomon_api_Expr_of_gnomon_tree_sameExpr at h
 unfold F83
 refine opK_pu (pu_len_28 _ _ _) ?_
 refine opK_pu (pu_len_28 _ _ _) ?_
 refine opK_pu (pu_neq _ _ _ _ _ _) ?_
 refine xcond_n (fun c_50 => ?_) (fun c_50 => ?_)
 ·replace h := h.1 c_50
  exact hR false H _ I h
 ·replace h := h.2 c_50
  have hj1 : ∀ (H : Hp) (w : World) (_ : Inv w0 ps0 H0 H [] w) (_ : T_slices_EqualFunc_gnomon_api_Expr_gnomon_api_Expr_gnomon_api_Expr_gnomon_api_Expr_of_gnomon_tree_sameExpr_j1 H K), F83_j1 w R E := by
   intro H w I h
   unfold F83_j1
   intro _
   unfold T_slices_EqualFunc_gnomon_api_Expr_gnomon_api_Expr_gnomon_api_Expr_gnomon_api_Expr_of_gnomon_tree_sameExpr_j1 at h
   exact hR true H _ I h
  refine xcut_i fun j1 hx1 => ?_
  refine opK_pu (pu_len_28 _ _ _) ?_
  obtain ⟨J_42, m_43, i_44, b_45⟩ := h
  refine xloop_J (J := fun n l w => ∃ (s : Int) (H : Hp) , n = m_43 s ∧ l = [(vi s)] ∧ Inv w0 ps0 H0 H [] w ∧ J_42 s H) ⟨_, 0, H, rfl, rfl, I, i_44⟩ ?_
  rintro n_46 τ_47 w next2 ⟨s17l2, H, rfl, l_48, I, s_49⟩ hn2
  simp only [List.map_cons, List.map_nil, List.cons.injEq, and_true] at l_48
  have e17 := l_48
  simp only [e17]
  obtain ⟨n2, hm2, h⟩ : ∃ n2 : Int → Hp → Prop, (∀ s' H', n2 s' H' → J_42 s' H' ∧ m_43 s' < m_43 s17l2) ∧ T_slices_EqualFunc_gnomon_api_Expr_gnomon_api_Expr_gnomon_api_Expr_gnomon_api_Expr_of_gnomon_tree_sameExpr_l2 x1 x0 (x0.n : Int) s17l2 H n2 K := ⟨_, fun _ _ h => h, b_45 s17l2 H (fun s' H' => J_42 s' H' ∧ m_43 s' < m_43 s17l2) s_49 (fun _ _ a b => ⟨a, b⟩)⟩
  unfold F83_l2
  unfold T_slices_EqualFunc_gnomon_api_Expr_gnomon_api_Expr_gnomon_api_Expr_gnomon_api_Expr_of_gnomon_tree_sameExpr_l2 at h
  refine opK_pu (pu_lss _ _ _ _ _ _) ?_
  refine xcond_p (fun c_41 => ?_) (fun c_41 => ?_)
  ·replace h := h.1 c_41
   obtain ⟨h_4, h_5, x_1, h_7, h⟩ := h
   obtain ⟨g_2, o_3, h_6, h_7⟩ := h_7
   refine opK_pu (pu_ix_28 h_6 _ _ _ _ h_4 h_5) ?_
   refine opK_ld (ldA (vs := (cs_api_Expr x_1)) Tryd.isAgg30 Tryd.sizeOf30 rfl (I.atH h_7)) ?_
   refine s_alloc I Tryd.zeroValue30 (cs := [(vi 0), (vi 0), (Value.string ⟨#[]⟩), (Value.slice none 0 0)]) rfl fun g_9 w_10 I_11 k_12 => ?_
   refine s_store I_11 Tryd.sizeOf30 (vs := (cs_api_Expr x_1)) (cs' := (cs_api_Expr x_1)) rfl rfl (nb rfl) rfl rfl fun w_13 I_14 k_15 => ?_
   obtain ⟨h_19, h_20, x_16, h_22, h⟩ := h
   obtain ⟨g_17, o_18, h_21, h_22⟩ := h_22
   refine opK_pu (pu_ix_28 h_21 _ _ _ _ h_19 h_20) ?_
   refine opK_ld (ldA (vs := (cs_api_Expr x_16)) Tryd.isAgg30 Tryd.sizeOf30 rfl (I_14.atH h_22)) ?_
   refine s_alloc I_14 Tryd.zeroValue30 (cs := [(vi 0), (vi 0), (Value.string ⟨#[]⟩), (Value.slice none 0 0)]) rfl fun g_24 w_25 I_26 k_27 => ?_
   refine s_store I_26 Tryd.sizeOf30 (vs := (cs_api_Expr x_16)) (cs' := (cs_api_Expr x_16)) rfl rfl (nb rfl) rfl rfl fun w_28 I_29 k_30 => ?_
   refine opK_ld (ldA Tryd.isAgg30 Tryd.sizeOf30 rfl ((I_29.bring 1).at1 (o := 0) (vs := (cs_api_Expr x_1)) (nb rfl) rfl)) ?_
   refine opK_ld (ldA Tryd.isAgg30 Tryd.sizeOf30 rfl (I_29.at1 (o := 0) (vs := (cs_api_Expr x_16)) (nb rfl) rfl)) ?_
   refine opK_calls (cap := []) (fun args w => Tryd.call84 args w) ?_
   refine Cv_ct (Fi := []) (Fr := [bx g_24 30 (cs_api_Expr x_16), bx g_9 30 (cs_api_Expr x_1)]) I_29 (h) (fun v_35 H_31 F_36 w_32 I_33 l_38 k_34 q_37 => ?_) (fun _ _ _ _ _ q => q.elim)
   obtain ⟨r0_39, rfl, rfl, h⟩ := q_37
   refine opK_pu (pu_not _) ?_
   refine xcond_b (fun c_40 => ?_) (fun c_40 => ?_)
   ·replace h := h.1 c_40
    exact hR false H_31 _ I_33.drop.drop h
   ·replace h := h.2 c_40
    refine opK_pu (pu_add _ _ _ _ _ _) ?_
    exact hn2 _ _ _ (hm2 _ _ h).2 ⟨(IntKind.wrap .i64 (s17l2 + 1)), H_31, rfl, rfl, I_33.drop.drop, (hm2 _ _ h).1⟩
  ·replace h := h.2 c_41
   exact hx1 _ _ (hj1 H _ I h)
theorem L_slices_EqualFunc_gnomon_api_Expr_gnomon_api_Expr_gnomon_api_Expr_gnomon_api_Expr_of_gnomon_tree_sameExpr (x0 : Sl) (x1 : Sl) {H : Hp} {K : Bool → Hp → Prop} (h : T_slices_EqualFunc_gnomon_api_Expr_gnomon_api_Expr_gnomon_api_Expr_gnomon_api_Expr_of_gnomon_tree_sameExpr x0 x1 H K) : C_slices_EqualFunc_gnomon_api_Expr_gnomon_api_Expr_gnomon_api_Expr_gnomon_api_Expr_of_gnomon_tree_sameExpr x0 x1 H K := by
 intro w I
 refine F83_ok ?_
 refine LF_slices_EqualFunc_gnomon_api_Expr_gnomon_api_Expr_gnomon_api_Expr_gnomon_api_Expr_of_gnomon_tree_sameExpr x0 x1 I (fun r0 H' w' I' hk => ⟨H', _, I', r0, rfl, rfl, hk⟩) h


/- function 14: gnomon/gnomonlaw3.known -/
def T_gnomon_gnomonlaw3_known (H : Hp) (K : Bool → Hp → Prop) : Prop :=
 C_gnomon_gnomonlaw3_one H (fun (r0_9 : Tapi_Prog) (H_1 : Hp) => 
 C_gnomon_tree_Depth r0_9 H_1 (fun (r0_18 : Int) (r1_18 : Int) (H_10 : Hp) => 
 C_gnomon_gnomonlaw3_one H_10 (fun (r0_27 : Tapi_Prog) (H_19 : Hp) => 
 C_gnomon_tree_Nodes r0_27 H_19 (fun (r0_36 : Int) (r1_36 : Int) (H_28 : Hp) => 
 TG (((((decide (r1_18 = 0)) && (decide (r1_36 = 0))) && (decide (r0_18 = 3))) && (decide (r0_36 = 5))) = true) (C_gnomon_tree_Expr (Tapi_Expr.mk 1 (-1) ⟨#[]⟩ (Sl.mk none 0 0)) H_28) 0 H_28 (fun (r0_45 : Int) (H_37 : Hp) =>
 TG ((((((decide (r1_18 = 0)) && (decide (r1_36 = 0))) && (decide (r0_18 = 3))) && (decide (r0_36 = 5))) && (decide (r0_45 = 30))) = true) (C_gnomon_gnomonlaw3_one H_37) (Tapi_Prog.mk (Sl.mk none 0 0) (Sl.mk none 0 0)) H_37 (fun (r0_54 : Tapi_Prog) (H_46 : Hp) =>
 TG ((((((decide (r1_18 = 0)) && (decide (r1_36 = 0))) && (decide (r0_18 = 3))) && (decide (r0_36 = 5))) && (decide (r0_45 = 30))) = true) (C_gnomon_gnomonlaw3_one H_46) (Tapi_Prog.mk (Sl.mk none 0 0) (Sl.mk none 0 0)) H_46 (fun (r0_63 : Tapi_Prog) (H_55 : Hp) =>
 TG ((((((decide (r1_18 = 0)) && (decide (r1_36 = 0))) && (decide (r0_18 = 3))) && (decide (r0_36 = 5))) && (decide (r0_45 = 30))) = true) (C_gnomon_tree_Equal r0_54 r0_63 H_55) false H_55 (fun (r0_72 : Bool) (H_64 : Hp) =>
 K ((((((decide (r1_18 = 0)) && (decide (r1_36 = 0))) && (decide (r0_18 = 3))) && (decide (r0_36 = 5))) && (decide (r0_45 = 30))) && r0_72) H_64))))))))
theorem LF_gnomon_gnomonlaw3_known {w0 w : World} {ps0 : Nat → Prop} {H0 H : Hp} {K : Bool → Hp → Prop} {R : Value → World → Prop} {E : Pan} (I : Inv w0 ps0 H0 H [] w) (hR : ∀ (r0 : Bool) (H' : Hp) (w' : World) (_ : Inv w0 ps0 H0 H' [] w') (_ : K r0 H'), R (Value.bool r0) w') (h : T_gnomon_gnomonlaw3_known H K) : F14 w R E := by
 unfold T_gnomon_gnomonlaw3_known at h
 unfold F14
 refine opK_calls (cap := []) (fun args w => Tryd.call50 args w) ?_
 refine Cv_ct (Fi := []) (Fr := []) I (h) (fun v_5 H_1 F_6 w_2 I_3 l_8 k_4 q_7 => ?_) (fun _ _ _ _ _ q => q.elim)
 obtain ⟨r0_9, rfl, rfl, h⟩ := q_7
 refine opK_calls (cap := []) (fun args w => Tryd.call24 args w) ?_
 refine Cv_ct (Fi := []) (Fr := []) I_3 (h) (fun v_14 H_10 F_15 w_11 I_12 l_17 k_13 q_16 => ?_) (fun _ _ _ _ _ q => q.elim)
 obtain ⟨r0_18, r1_18, rfl, rfl, h⟩ := q_16
 refine opK_pu (pu_extract _ _ _ rfl) ?_
 refine opK_pu (pu_extract _ _ _ rfl) ?_
 refine opK_calls (cap := []) (fun args w => Tryd.call50 args w) ?_
 refine Cv_ct (Fi := []) (Fr := []) I_12 (h) (fun v_23 H_19 F_24 w_20 I_21 l_26 k_22 q_25 => ?_) (fun _ _ _ _ _ q => q.elim)
 obtain ⟨r0_27, rfl, rfl, h⟩ := q_25
 refine opK_calls (cap := []) (fun args w => Tryd.call25 args w) ?_
 refine Cv_ct (Fi := []) (Fr := []) I_21 (h) (fun v_32 H_28 F_33 w_29 I_30 l_35 k_31 q_34 => ?_) (fun _ _ _ _ _ q => q.elim)
 obtain ⟨r0_36, r1_36, rfl, rfl, h⟩ := q_34
 refine opK_pu (pu_extract _ _ _ rfl) ?_
 refine opK_pu (pu_extract _ _ _ rfl) ?_
 refine opK_pu (pu_eql _ _ _ _ _ _) ?_
 try simp only [gval_b]
 refine opK_pu (Pu.g fun hb => by have hb_0 := hb; first | exact (pu_eql _ _ _ _ _ _) | (simp only [gv_t hb_0]; exact (pu_eql _ _ _ _ _ _)) | (simp only [gval_t hb_0, gv_t hb_0, gv_t hb, gva_tf hb_0, gv_n]; exact (pu_eql _ _ _ _ _ _))) ?_
 refine opK_pu (pu_and _ _) ?_
 try simp only [gval_b]
 refine opK_pu (Pu.g fun hb => by have hb_0 := hb; first | exact (pu_eql _ _ _ _ _ _) | (simp only [gv_t hb_0]; exact (pu_eql _ _ _ _ _ _)) | (simp only [gval_t hb_0, gv_t hb_0, gv_t hb, gva_tf hb_0, gv_n]; exact (pu_eql _ _ _ _ _ _))) ?_
 refine opK_pu (pu_and _ _) ?_
 try simp only [gval_b]
 refine opK_pu (Pu.g fun hb => by have hb_0 := hb; first | exact (pu_eql _ _ _ _ _ _) | (simp only [gv_t hb_0]; exact (pu_eql _ _ _ _ _ _)) | (simp only [gval_t hb_0, gv_t hb_0, gv_t hb, gva_tf hb_0, gv_n]; exact (pu_eql _ _ _ _ _ _))) ?_
 refine opK_pu (pu_and _ _) ?_
 refine opK_pu (Pu.g fun hb => by have hb_0 := hb; first | exact (pu_bld_30_1_0 _ _) | (simp only [gval_t hb_0, gv_t hb_0, gv_t hb, gva_tt hb_0]; exact (pu_bld_30_1_0 _ _)) | (simp only [gval_t hb_0, gv_t hb_0, gv_t hb, gva_tf hb_0, gv_n]; exact (pu_bld_30_1_0 _ _))) ?_
 refine opK_g2 (D := fun v_41 w_38 => ∃ (r0_45 : Int) (H_37 : Hp) , v_41 = (gv ((((decide (r1_18 = 0)) && (decide (r1_36 = 0))) && (decide (r0_18 = 3))) && (decide (r0_36 = 5))) true (vi r0_45)) ∧ (Inv w0 ps0 H0 H_37 [] w_38) ∧ (∀ i, i < w_29.heap.size → ¬ inF [] i → w_38.heap[i]? = w_29.heap[i]?) ∧ Hle H_28 H_37 ∧ (TG ((((((decide (r1_18 = 0)) && (decide (r1_36 = 0))) && (decide (r0_18 = 3))) && (decide (r0_36 = 5))) && (decide (r0_45 = 30))) = true) (C_gnomon_gnomonlaw3_one H_37) (Tapi_Prog.mk (Sl.mk none 0 0) (Sl.mk none 0 0)) H_37 (fun (r0_54 : Tapi_Prog) (H_46 : Hp) =>
 TG ((((((decide (r1_18 = 0)) && (decide (r1_36 = 0))) && (decide (r0_18 = 3))) && (decide (r0_36 = 5))) && (decide (r0_45 = 30))) = true) (C_gnomon_gnomonlaw3_one H_46) (Tapi_Prog.mk (Sl.mk none 0 0) (Sl.mk none 0 0)) H_46 (fun (r0_63 : Tapi_Prog) (H_55 : Hp) =>
 TG ((((((decide (r1_18 = 0)) && (decide (r1_36 = 0))) && (decide (r0_18 = 3))) && (decide (r0_36 = 5))) && (decide (r0_45 = 30))) = true) (C_gnomon_tree_Equal r0_54 r0_63 H_55) false H_55 (fun (r0_72 : Bool) (H_64 : Hp) =>
 K ((((((decide (r1_18 = 0)) && (decide (r1_36 = 0))) && (decide (r0_18 = 3))) && (decide (r0_36 = 5))) && (decide (r0_45 = 30))) && r0_72) H_64))))) (fun b_76 => ?_) (fun b_76 => ?_) ?_
 ·replace h := h.1 b_76
  have hb_0 := b_76
  try simp only [gv_t hb_0]
  refine opK_calls (cap := []) (fun args w => Tryd.call17 args w) ?_
  refine Cv_ct (Fi := []) (Fr := []) I_30 (h) (fun v_41 H_37 F_42 w_38 I_39 l_44 k_40 q_43 => ?_) (fun _ _ _ _ _ q => q.elim)
  obtain ⟨r0_45, rfl, rfl, h⟩ := q_43
  exact ⟨r0_45, H_37, by first | rfl | rw [gv_t b_76], I_39, k_40, l_44, h⟩
 ·exact ⟨0, H_28, by first | rfl | rw [gv_f b_76], I_30, fun _ _ _ => rfl, Hle.refl _, h.2 b_76⟩
 ·clear h
  rintro v_41 w_38 ⟨r0_45, H_37, rfl, I_39, k_40, l_44, h⟩
  refine opK_pu (Pu.g fun hb => by have hb_0 := hb; first | exact (pu_eql _ _ _ _ _ _) | (simp only [gv_t hb_0]; exact (pu_eql _ _ _ _ _ _)) | (simp only [gval_t hb_0, gv_t hb_0, gv_t hb, gva_tf hb_0, gv_n]; exact (pu_eql _ _ _ _ _ _))) ?_
  refine opK_pu (pu_and _ _) ?_
  refine opK_g2 (D := fun v_50 w_47 => ∃ (r0_54 : Tapi_Prog) (H_46 : Hp) , v_50 = (gv (((((decide (r1_18 = 0)) && (decide (r1_36 = 0))) && (decide (r0_18 = 3))) && (decide (r0_36 = 5))) && (decide (r0_45 = 30))) true (Value.agg (cs_api_Prog r0_54).toArray)) ∧ (Inv w0 ps0 H0 H_46 [] w_47) ∧ (∀ i, i < w_38.heap.size → ¬ inF [] i → w_47.heap[i]? = w_38.heap[i]?) ∧ Hle H_37 H_46 ∧ (TG ((((((decide (r1_18 = 0)) && (decide (r1_36 = 0))) && (decide (r0_18 = 3))) && (decide (r0_36 = 5))) && (decide (r0_45 = 30))) = true) (C_gnomon_gnomonlaw3_one H_46) (Tapi_Prog.mk (Sl.mk none 0 0) (Sl.mk none 0 0)) H_46 (fun (r0_63 : Tapi_Prog) (H_55 : Hp) =>
 TG ((((((decide (r1_18 = 0)) && (decide (r1_36 = 0))) && (decide (r0_18 = 3))) && (decide (r0_36 = 5))) && (decide (r0_45 = 30))) = true) (C_gnomon_tree_Equal r0_54 r0_63 H_55) false H_55 (fun (r0_72 : Bool) (H_64 : Hp) =>
 K ((((((decide (r1_18 = 0)) && (decide (r1_36 = 0))) && (decide (r0_18 = 3))) && (decide (r0_36 = 5))) && (decide (r0_45 = 30))) && r0_72) H_64)))) (fun b_75 => ?_) (fun b_75 => ?_) ?_
  ·replace h := h.1 b_75
   have hb_0 := b_75
   try simp only [gv_t hb_0]
   refine opK_calls (cap := []) (fun args w => Tryd.call50 args w) ?_
   refine Cv_ct (Fi := []) (Fr := []) I_39 (h) (fun v_50 H_46 F_51 w_47 I_48 l_53 k_49 q_52 => ?_) (fun _ _ _ _ _ q => q.elim)
   obtain ⟨r0_54, rfl, rfl, h⟩ := q_52
   exact ⟨r0_54, H_46, by first | rfl | rw [gv_t b_75], I_48, k_49, l_53, h⟩
  ·exact ⟨(Tapi_Prog.mk (Sl.mk none 0 0) (Sl.mk none 0 0)), H_37, by first | rfl | rw [gv_f b_75], I_39, fun _ _ _ => rfl, Hle.refl _, h.2 b_75⟩
  ·clear h
   rintro v_50 w_47 ⟨r0_54, H_46, rfl, I_48, k_49, l_53, h⟩
   refine opK_g2 (D := fun v_59 w_56 => ∃ (r0_63 : Tapi_Prog) (H_55 : Hp) , v_59 = (gv (((((decide (r1_18 = 0)) && (decide (r1_36 = 0))) && (decide (r0_18 = 3))) && (decide (r0_36 = 5))) && (decide (r0_45 = 30))) true (Value.agg (cs_api_Prog r0_63).toArray)) ∧ (Inv w0 ps0 H0 H_55 [] w_56) ∧ (∀ i, i < w_47.heap.size → ¬ inF [] i → w_56.heap[i]? = w_47.heap[i]?) ∧ Hle H_46 H_55 ∧ (TG ((((((decide (r1_18 = 0)) && (decide (r1_36 = 0))) && (decide (r0_18 = 3))) && (decide (r0_36 = 5))) && (decide (r0_45 = 30))) = true) (C_gnomon_tree_Equal r0_54 r0_63 H_55) false H_55 (fun (r0_72 : Bool) (H_64 : Hp) =>
 K ((((((decide (r1_18 = 0)) && (decide (r1_36 = 0))) && (decide (r0_18 = 3))) && (decide (r0_36 = 5))) && (decide (r0_45 = 30))) && r0_72) H_64))) (fun b_74 => ?_) (fun b_74 => ?_) ?_
   ·replace h := h.1 b_74
    have hb_0 := b_74
    try simp only [gv_t hb_0]
    refine opK_calls (cap := []) (fun args w => Tryd.call50 args w) ?_
    refine Cv_ct (Fi := []) (Fr := []) I_48 (h) (fun v_59 H_55 F_60 w_56 I_57 l_62 k_58 q_61 => ?_) (fun _ _ _ _ _ q => q.elim)
    obtain ⟨r0_63, rfl, rfl, h⟩ := q_61
    exact ⟨r0_63, H_55, by first | rfl | rw [gv_t b_74], I_57, k_58, l_62, h⟩
   ·exact ⟨(Tapi_Prog.mk (Sl.mk none 0 0) (Sl.mk none 0 0)), H_46, by first | rfl | rw [gv_f b_74], I_48, fun _ _ _ => rfl, Hle.refl _, h.2 b_74⟩
   ·clear h
    rintro v_59 w_56 ⟨r0_63, H_55, rfl, I_57, k_58, l_62, h⟩
    refine opK_g2 (D := fun v_68 w_65 => ∃ (r0_72 : Bool) (H_64 : Hp) , v_68 = (gv (((((decide (r1_18 = 0)) && (decide (r1_36 = 0))) && (decide (r0_18 = 3))) && (decide (r0_36 = 5))) && (decide (r0_45 = 30))) true (Value.bool r0_72)) ∧ (Inv w0 ps0 H0 H_64 [] w_65) ∧ (∀ i, i < w_56.heap.size → ¬ inF [] i → w_65.heap[i]? = w_56.heap[i]?) ∧ Hle H_55 H_64 ∧ (K ((((((decide (r1_18 = 0)) && (decide (r1_36 = 0))) && (decide (r0_18 = 3))) && (decide (r0_36 = 5))) && (decide (r0_45 = 30))) && r0_72) H_64)) (fun b_73 => ?_) (fun b_73 => ?_) ?_
    ·replace h := h.1 b_73
     have hb_0 := b_73
     try simp only [gv_t hb_0]
     refine opK_calls (cap := []) (fun args w => Tryd.call15 args w) ?_
     refine Cv_ct (Fi := []) (Fr := []) I_57 (h) (fun v_68 H_64 F_69 w_65 I_66 l_71 k_67 q_70 => ?_) (fun _ _ _ _ _ q => q.elim)
     obtain ⟨r0_72, rfl, rfl, h⟩ := q_70
     exact ⟨r0_72, H_64, by first | rfl | rw [gv_t b_73], I_66, k_67, l_71, h⟩
    ·exact ⟨false, H_55, by first | rfl | rw [gv_f b_73], I_57, fun _ _ _ => rfl, Hle.refl _, h.2 b_73⟩
    ·clear h
     rintro v_68 w_65 ⟨r0_72, H_64, rfl, I_66, k_67, l_71, h⟩
     refine opK_pu (pu_and _ _) ?_
     exact hR ((((((decide (r1_18 = 0)) && (decide (r1_36 = 0))) && (decide (r0_18 = 3))) && (decide (r0_36 = 5))) && (decide (r0_45 = 30))) && r0_72) H_64 _ I_66 h
theorem L_gnomon_gnomonlaw3_known {H : Hp} {K : Bool → Hp → Prop} (h : T_gnomon_gnomonlaw3_known H K) : C_gnomon_gnomonlaw3_known H K := by
 intro w I
 refine F14_ok ?_
 refine LF_gnomon_gnomonlaw3_known I (fun r0 H' w' I' hk => ⟨H', _, I', r0, rfl, rfl, hk⟩) h


/- function 55: gnomon/gnomonref3.Few -/
def T_gnomon_gnomonref3_Few (x0 : Tapi_Prog) (H : Hp) (K : Bool → Hp → Prop) : Prop :=
 C_gnomon_gnomonref3_walked x0 H (fun (r0_14 : Tgnomonref3_walk) (H_6 : Hp) => 
 K (decide (r0_14.fbad = 0)) H_6)
theorem LF_gnomon_gnomonref3_Few (x0 : Tapi_Prog) {w0 w : World} {ps0 : Nat → Prop} {H0 H : Hp} {K : Bool → Hp → Prop} {R : Value → World → Prop} {E : Pan} (I : Inv w0 ps0 H0 H [] w) (hR : ∀ (r0 : Bool) (H' : Hp) (w' : World) (_ : Inv w0 ps0 H0 H' [] w') (_ : K r0 H'), R (Value.bool r0) w') (h : T_gnomon_gnomonref3_Few x0 H K) : F55 (Value.agg (cs_api_Prog x0).toArray) w R E := by
 unfold T_gnomon_gnomonref3_Few at h
 unfold F55
 refine s_box I (cs := (cs_api_Prog x0)) rfl fun g_2 w_3 I_4 k_5 => ?_
 refine opK_ld (ldA Tryd.isAgg25 Tryd.sizeOf25 rfl (I_4.at1 (o := 0) (vs := (cs_api_Prog x0)) (nb rfl) rfl)) ?_
 refine opK_calls (cap := []) (fun args w => Tryd.call63 args w) ?_
 refine Cv_ct (Fi := []) (Fr := [bx g_2 25 (cs_api_Prog x0)]) I_4 (h) (fun v_10 H_6 F_11 w_7 I_8 l_13 k_9 q_12 => ?_) (fun _ _ _ _ _ q => q.elim)
 obtain ⟨r0_14, rfl, rfl, h⟩ := q_12
 refine opK_pu pu_fld_99_2 ?_
 refine opK_pu (pu_eql _ _ _ _ _ _) ?_
 exact hR (decide (r0_14.fbad = 0)) H_6 _ I_8.drop h
theorem L_gnomon_gnomonref3_Few (x0 : Tapi_Prog) {H : Hp} {K : Bool → Hp → Prop} (h : T_gnomon_gnomonref3_Few x0 H K) : C_gnomon_gnomonref3_Few x0 H K := by
 intro w I
 refine F55_ok ?_
 refine LF_gnomon_gnomonref3_Few x0 I (fun r0 H' w' I' hk => ⟨H', _, I', r0, rfl, rfl, hk⟩) h


/- function 56: gnomon/gnomonref3.sameStmts -/
def T_gnomon_gnomonref3_sameStmts_j3 (_s0j3 : Sl) (_s1j3 : Sl) (s5j3 : Int) (H : Hp) (n2 : Int → Hp → Prop) (_K : Bool → Hp → Prop) : Prop :=
 n2 (IntKind.wrap .i64 (s5j3 + 1)) H
def T_gnomon_gnomonref3_sameStmts_l6 (s0l6 : Sl) (s1l6 : Sl) (s5l6 : Int) (cr_22l6 : Tapi_Stmt) (cr_17l6 : Tapi_Stmt) (s9l6 : Int) (H : Hp) (n2 : Int → Hp → Prop) (n6 : Int → Hp → Prop) (K : Bool → Hp → Prop) : Prop :=
 (s9l6 < (cr_17l6.fExprs.n : Int) →
 (0 : Int) ≤ s9l6 ∧ (s9l6 : Int) < cr_17l6.fExprs.n ∧ ∃ x_79 : Tapi_Expr, EltH H cr_17l6.fExprs s9l6 4 (cs_api_Expr x_79) ∧ 
 (0 : Int) ≤ s9l6 ∧ (s9l6 : Int) < cr_22l6.fExprs.n ∧ ∃ x_86 : Tapi_Expr, EltH H cr_22l6.fExprs s9l6 4 (cs_api_Expr x_86) ∧ 
 C_gnomon_gnomonref3_SameExpr x_79 x_86 H (fun (r0_101 : Bool) (H_93 : Hp) => 
 ((!r0_101) = true →
 K false H_93) ∧
 ((!r0_101) = false →
 n6 (IntKind.wrap .i64 (s9l6 + 1)) H_93))) ∧
 (¬ (s9l6 < (cr_17l6.fExprs.n : Int)) →
 T_gnomon_gnomonref3_sameStmts_j3 s0l6 s1l6 s5l6 H n2 K)
def T_gnomon_gnomonref3_sameStmts_j5 (s0j5 : Sl) (s1j5 : Sl) (s5j5 : Int) (cr_22j5 : Tapi_Stmt) (cr_17j5 : Tapi_Stmt) (H : Hp) (n2 : Int → Hp → Prop) (K : Bool → Hp → Prop) : Prop :=
 TL (0 : Int) H fun (s : Int) H n6 => T_gnomon_gnomonref3_sameStmts_l6 s0j5 s1j5 s5j5 cr_22j5 cr_17j5 s H n2 n6 K
def T_gnomon_gnomonref3_sameStmts_l7 (s0l7 : Sl) (s1l7 : Sl) (s5l7 : Int) (cr_22l7 : Tapi_Stmt) (cr_17l7 : Tapi_Stmt) (s8l7 : Int) (H : Hp) (n2 : Int → Hp → Prop) (n7 : Int → Hp → Prop) (K : Bool → Hp → Prop) : Prop :=
 (s8l7 < (cr_17l7.fConds.n : Int) →
 (0 : Int) ≤ s8l7 ∧ (s8l7 : Int) < cr_17l7.fConds.n ∧ ∃ x_53 : Tapi_Cond, EltH H cr_17l7.fConds s8l7 4 (cs_api_Cond x_53) ∧ 
 (0 : Int) ≤ s8l7 ∧ (s8l7 : Int) < cr_22l7.fConds.n ∧ ∃ x_60 : Tapi_Cond, EltH H cr_22l7.fConds s8l7 4 (cs_api_Cond x_60) ∧ 
 C_gnomon_gnomonref3_SameCond x_53 x_60 H (fun (r0_75 : Bool) (H_67 : Hp) => 
 ((!r0_75) = true →
 K false H_67) ∧
 ((!r0_75) = false →
 n7 (IntKind.wrap .i64 (s8l7 + 1)) H_67))) ∧
 (¬ (s8l7 < (cr_17l7.fConds.n : Int)) →
 T_gnomon_gnomonref3_sameStmts_j5 s0l7 s1l7 s5l7 cr_22l7 cr_17l7 H n2 K)
def T_gnomon_gnomonref3_sameStmts_j4 (s0j4 : Sl) (s1j4 : Sl) (s5j4 : Int) (cr_22j4 : Tapi_Stmt) (cr_17j4 : Tapi_Stmt) (H : Hp) (n2 : Int → Hp → Prop) (K : Bool → Hp → Prop) : Prop :=
 TG (((((!decide (cr_17j4.fKind = cr_22j4.fKind)) || (!decide (cr_17j4.fName = cr_22j4.fName))) || (!decide ((cr_17j4.fConds.n : Int) = (cr_22j4.fConds.n : Int)))) || (!decide ((cr_17j4.fExprs.n : Int) = (cr_22j4.fExprs.n : Int)))) = false) (C_gnomon_gnomonref3_sameStmts cr_17j4.fThen cr_22j4.fThen H) false H (fun (r0_41 : Bool) (H_33 : Hp) =>
 TG ((((((!decide (cr_17j4.fKind = cr_22j4.fKind)) || (!decide (cr_17j4.fName = cr_22j4.fName))) || (!decide ((cr_17j4.fConds.n : Int) = (cr_22j4.fConds.n : Int)))) || (!decide ((cr_17j4.fExprs.n : Int) = (cr_22j4.fExprs.n : Int)))) || (!r0_41)) = false) (C_gnomon_gnomonref3_sameStmts cr_17j4.fElse cr_22j4.fElse H_33) false H_33 (fun (r0_50 : Bool) (H_42 : Hp) =>
 (((((((!decide (cr_17j4.fKind = cr_22j4.fKind)) || (!decide (cr_17j4.fName = cr_22j4.fName))) || (!decide ((cr_17j4.fConds.n : Int) = (cr_22j4.fConds.n : Int)))) || (!decide ((cr_17j4.fExprs.n : Int) = (cr_22j4.fExprs.n : Int)))) || (!r0_41)) || (!r0_50)) = true →
 K false H_42) ∧
 (((((((!decide (cr_17j4.fKind = cr_22j4.fKind)) || (!decide (cr_17j4.fName = cr_22j4.fName))) || (!decide ((cr_17j4.fConds.n : Int) = (cr_22j4.fConds.n : Int)))) || (!decide ((cr_17j4.fExprs.n : Int) = (cr_22j4.fExprs.n : Int)))) || (!r0_41)) || (!r0_50)) = false →
 TL (0 : Int) H_42 fun (s : Int) H n7 => T_gnomon_gnomonref3_sameStmts_l7 s0j4 s1j4 s5j4 cr_22j4 cr_17j4 s H n2 n7 K)))
def T_gnomon_gnomonref3_sameStmts_j1 (H : Hp) (K : Bool → Hp → Prop) : Prop :=
 K true H
def T_gnomon_gnomonref3_sameStmts_l2 (s0l2 : Sl) (s1l2 : Sl) (s5l2 : Int) (H : Hp) (n2 : Int → Hp → Prop) (K : Bool → Hp → Prop) : Prop :=
 (s5l2 < (s0l2.n : Int) →
 (0 : Int) ≤ s5l2 ∧ (s5l2 : Int) < s0l2.n ∧ ∃ x_3 : Tapi_Stmt, EltH H s0l2 s5l2 6 (cs_api_Stmt x_3) ∧ 
 (0 : Int) ≤ s5l2 ∧ (s5l2 : Int) < s1l2.n ∧ ∃ x_10 : Tapi_Stmt, EltH H s1l2 s5l2 6 (cs_api_Stmt x_10) ∧ 
 T_gnomon_gnomonref3_sameStmts_j4 s0l2 s1l2 s5l2 x_10 x_3 H n2 K) ∧
 (¬ (s5l2 < (s0l2.n : Int)) →
 T_gnomon_gnomonref3_sameStmts_j1 H K)
def T_gnomon_gnomonref3_sameStmts (x0 : Sl) (x1 : Sl) (H : Hp) (K : Bool → Hp → Prop) : Prop :=
 (¬ ((x0.n : Int) = (x1.n : Int)) →
 K false H) ∧
 ((x0.n : Int) = (x1.n : Int) →
 TL (0 : Int) H fun (s : Int) H n2 => T_gnomon_gnomonref3_sameStmts_l2 x0 x1 s H n2 K)
theorem LF_gnomon_gnomonref3_sameStmts (x0 : Sl) (x1 : Sl) {w0 w : World} {ps0 : Nat → Prop} {H0 H : Hp} {K : Bool → Hp → Prop} {R : Value → World → Prop} {E : Pan} (I : Inv w0 ps0 H0 H [] w) (hR : ∀ (r0 : Bool) (H' : Hp) (w' : World) (_ : Inv w0 ps0 H0 H' [] w') (_ : K r0 H'), R (Value.bool r0) w') (h : T_gnomon_gnomonref3_sameStmts x0 x1 H K) : F56 (vs x0) (vs x1) w R E := by
 unfold T_gnomon_gnomonref3_sameStmts at h
 unfold F56
 refine opK_pu (pu_len_23 _ _ _) ?_
 refine opK_pu (pu_len_23 _ _ _) ?_
 refine opK_pu (pu_neq _ _ _ _ _ _) ?_
 refine xcond_n (fun c_149 => ?_) (fun c_149 => ?_)
 ·replace h := h.1 c_149
  exact hR false H _ I h
 ·replace h := h.2 c_149
  have hj1 : ∀ (H : Hp) (w : World) (_ : Inv w0 ps0 H0 H [] w) (_ : T_gnomon_gnomonref3_sameStmts_j1 H K), F56_j1 w R E := by
   intro H w I h
   unfold F56_j1
   intro _
   unfold T_gnomon_gnomonref3_sameStmts_j1 at h
   exact hR true H _ I h
  refine xcut_i fun j1 hx1 => ?_
  obtain ⟨J_141, m_142, i_143, b_144⟩ := h
  refine xloop_J (J := fun n l w => ∃ (s : Int) (H : Hp) , n = m_142 s ∧ l = [(vi s)] ∧ Inv w0 ps0 H0 H [] w ∧ J_141 s H) ⟨_, 0, H, rfl, rfl, I, i_143⟩ ?_
  rintro n_145 τ_146 w next2 ⟨s5l2, H, rfl, l_147, I, s_148⟩ hn2
  simp only [List.map_cons, List.map_nil, List.cons.injEq, and_true] at l_147
  have e5 := l_147
  simp only [e5]
  obtain ⟨n2, hm2, h⟩ : ∃ n2 : Int → Hp → Prop, (∀ s' H', n2 s' H' → J_141 s' H' ∧ m_142 s' < m_142 s5l2) ∧ T_gnomon_gnomonref3_sameStmts_l2 x0 x1 s5l2 H n2 K := ⟨_, fun _ _ h => h, b_144 s5l2 H (fun s' H' => J_141 s' H' ∧ m_142 s' < m_142 s5l2) s_148 (fun _ _ a b => ⟨a, b⟩)⟩
  unfold F56_l2
  unfold T_gnomon_gnomonref3_sameStmts_l2 at h
  refine opK_pu (pu_len_23 _ _ _) ?_
  refine opK_pu (pu_lss _ _ _ _ _ _) ?_
  refine xcond_p (fun c_140 => ?_) (fun c_140 => ?_)
  ·replace h := h.1 c_140
   have hj3 : ∀ (H : Hp) (w : World) (_ : Inv w0 ps0 H0 H [] w) (_ : T_gnomon_gnomonref3_sameStmts_j3 x0 x1 s5l2 H n2 K), F56_j3 (vs x0) (vs x1) (vi s5l2) w next2 R E := by
    intro H w I h
    unfold F56_j3
    intro _
    unfold T_gnomon_gnomonref3_sameStmts_j3 at h
    refine opK_pu (pu_add _ _ _ _ _ _) ?_
    exact hn2 _ _ _ (hm2 _ _ h).2 ⟨(IntKind.wrap .i64 (s5l2 + 1)), H, rfl, rfl, I, (hm2 _ _ h).1⟩
   refine xcut_i fun j3 hx3 => ?_
   have hj4 : ∀ (cr_22j4 : Tapi_Stmt) (cr_17j4 : Tapi_Stmt) (gbr_22j4 : Nat) (gbr_17j4 : Nat) (H : Hp) (w : World) (_ : Inv w0 ps0 H0 H [bx gbr_22j4 88 (cs_api_Stmt cr_22j4), bx gbr_17j4 88 (cs_api_Stmt cr_17j4)] w) (_ : T_gnomon_gnomonref3_sameStmts_j4 x0 x1 s5l2 cr_22j4 cr_17j4 H n2 K), F56_j4 (vs x0) (vs x1) (vi s5l2) (Value.pointer (some ⟨gbr_17j4, 0, none⟩)) (Value.pointer (some ⟨gbr_22j4, 0, none⟩)) w j3 R E := by
    intro cr_22j4 cr_17j4 gbr_22j4 gbr_17j4 H w I h
    unfold F56_j4
    intro _
    unfold T_gnomon_gnomonref3_sameStmts_j4 at h
    refine opK_pu pu_fa_88_0 ?_
    refine opK_ld (ld1 Tryd.isAgg3 ((I.bring 1).at1 (o := 0) (vs := [(vi cr_17j4.fKind)]) (nb rfl) rfl)) ?_
    refine opK_pu pu_fa_88_0 ?_
    refine opK_ld (ld1 Tryd.isAgg3 (I.at1 (o := 0) (vs := [(vi cr_22j4.fKind)]) (nb rfl) rfl)) ?_
    refine opK_pu (pu_neq _ _ _ _ _ _) ?_
    refine opK_pu (Pu.g fun hb => by have hb_0 := hb; first | exact pu_fa_88_1 | (simp only [gval_t hb_0, gv_t hb_0, gv_t hb, gva_ft hb_0]; exact pu_fa_88_1) | (simp only [gval_t hb_0, gv_t hb_0, gv_t hb, gva_ff hb_0, gv_n]; exact pu_fa_88_1)) ?_
    refine opK_ld (Ld.g fun hb => by have hb_0 := hb; first | exact (ld1 Tryd.isAgg9 ((I.bring 1).at1 (o := 1) (vs := [(Value.string cr_17j4.fName)]) (nb rfl) rfl)) | (simp only [gv_t hb_0]; exact (ld1 Tryd.isAgg9 ((I.bring 1).at1 (o := 1) (vs := [(Value.string cr_17j4.fName)]) (nb rfl) rfl))) | (simp only [gval_t hb_0, gv_t hb_0, gv_t hb, gva_ff hb_0, gv_n]; exact (ld1 Tryd.isAgg9 ((I.bring 1).at1 (o := 1) (vs := [(Value.string cr_17j4.fName)]) (nb rfl) rfl)))) ?_
    refine opK_pu (Pu.g fun hb => by have hb_0 := hb; first | exact pu_fa_88_1 | (simp only [gval_t hb_0, gv_t hb_0, gv_t hb, gva_ft hb_0]; exact pu_fa_88_1) | (simp only [gval_t hb_0, gv_t hb_0, gv_t hb, gva_ff hb_0, gv_n]; exact pu_fa_88_1)) ?_
    refine opK_ld (Ld.g fun hb => by have hb_0 := hb; first | exact (ld1 Tryd.isAgg9 (I.at1 (o := 1) (vs := [(Value.string cr_22j4.fName)]) (nb rfl) rfl)) | (simp only [gv_t hb_0]; exact (ld1 Tryd.isAgg9 (I.at1 (o := 1) (vs := [(Value.string cr_22j4.fName)]) (nb rfl) rfl))) | (simp only [gval_t hb_0, gv_t hb_0, gv_t hb, gva_ff hb_0, gv_n]; exact (ld1 Tryd.isAgg9 (I.at1 (o := 1) (vs := [(Value.string cr_22j4.fName)]) (nb rfl) rfl)))) ?_
    refine opK_pu (Pu.g fun hb => by have hb_0 := hb; first | exact (pu_nes _ _ _ _ _) | (simp only [gv_t hb_0]; exact (pu_nes _ _ _ _ _)) | (simp only [gval_t hb_0, gv_t hb_0, gv_t hb, gva_ff hb_0, gv_n]; exact (pu_nes _ _ _ _ _))) ?_
    refine opK_pu (pu_or _ _) ?_
    refine opK_pu (Pu.g fun hb => by have hb_0 := hb; first | exact pu_fa_88_3 | (simp only [gval_t hb_0, gv_t hb_0, gv_t hb, gva_ft hb_0]; exact pu_fa_88_3) | (simp only [gval_t hb_0, gv_t hb_0, gv_t hb, gva_ff hb_0, gv_n]; exact pu_fa_88_3)) ?_
    refine opK_ld (Ld.g fun hb => by have hb_0 := hb; first | exact (ld1 Tryd.isAgg31 ((I.bring 1).at1 (o := 3) (vs := [(vs cr_17j4.fConds)]) (nb rfl) rfl)) | (simp only [gv_t hb_0]; exact (ld1 Tryd.isAgg31 ((I.bring 1).at1 (o := 3) (vs := [(vs cr_17j4.fConds)]) (nb rfl) rfl))) | (simp only [gval_t hb_0, gv_t hb_0, gv_t hb, gva_ff hb_0, gv_n]; exact (ld1 Tryd.isAgg31 ((I.bring 1).at1 (o := 3) (vs := [(vs cr_17j4.fConds)]) (nb rfl) rfl)))) ?_
    refine opK_pu (Pu.g fun hb => by have hb_0 := hb; first | exact (pu_len_31 _ _ _) | (simp only [gv_t hb_0]; exact (pu_len_31 _ _ _)) | (simp only [gval_t hb_0, gv_t hb_0, gv_t hb, gva_ff hb_0, gv_n]; exact (pu_len_31 _ _ _))) ?_
    refine opK_pu (Pu.g fun hb => by have hb_0 := hb; first | exact pu_fa_88_3 | (simp only [gval_t hb_0, gv_t hb_0, gv_t hb, gva_ft hb_0]; exact pu_fa_88_3) | (simp only [gval_t hb_0, gv_t hb_0, gv_t hb, gva_ff hb_0, gv_n]; exact pu_fa_88_3)) ?_
    refine opK_ld (Ld.g fun hb => by have hb_0 := hb; first | exact (ld1 Tryd.isAgg31 (I.at1 (o := 3) (vs := [(vs cr_22j4.fConds)]) (nb rfl) rfl)) | (simp only [gv_t hb_0]; exact (ld1 Tryd.isAgg31 (I.at1 (o := 3) (vs := [(vs cr_22j4.fConds)]) (nb rfl) rfl))) | (simp only [gval_t hb_0, gv_t hb_0, gv_t hb, gva_ff hb_0, gv_n]; exact (ld1 Tryd.isAgg31 (I.at1 (o := 3) (vs := [(vs cr_22j4.fConds)]) (nb rfl) rfl)))) ?_
    refine opK_pu (Pu.g fun hb => by have hb_0 := hb; first | exact (pu_len_31 _ _ _) | (simp only [gv_t hb_0]; exact (pu_len_31 _ _ _)) | (simp only [gval_t hb_0, gv_t hb_0, gv_t hb, gva_ff hb_0, gv_n]; exact (pu_len_31 _ _ _))) ?_
    refine opK_pu (Pu.g fun hb => by have hb_0 := hb; first | exact (pu_neq _ _ _ _ _ _) | (simp only [gv_t hb_0]; exact (pu_neq _ _ _ _ _ _)) | (simp only [gval_t hb_0, gv_t hb_0, gv_t hb, gva_ff hb_0, gv_n]; exact (pu_neq _ _ _ _ _ _))) ?_
    refine opK_pu (pu_or _ _) ?_
    refine opK_pu (Pu.g fun hb => by have hb_0 := hb; first | exact pu_fa_88_2 | (simp only [gval_t hb_0, gv_t hb_0, gv_t hb, gva_ft hb_0]; exact pu_fa_88_2) | (simp only [gval_t hb_0, gv_t hb_0, gv_t hb, gva_ff hb_0, gv_n]; exact pu_fa_88_2)) ?_
    refine opK_ld (Ld.g fun hb => by have hb_0 := hb; first | exact (ld1 Tryd.isAgg28 ((I.bring 1).at1 (o := 2) (vs := [(vs cr_17j4.fExprs)]) (nb rfl) rfl)) | (simp only [gv_t hb_0]; exact (ld1 Tryd.isAgg28 ((I.bring 1).at1 (o := 2) (vs := [(vs cr_17j4.fExprs)]) (nb rfl) rfl))) | (simp only [gval_t hb_0, gv_t hb_0, gv_t hb, gva_ff hb_0, gv_n]; exact (ld1 Tryd.isAgg28 ((I.bring 1).at1 (o := 2) (vs := [(vs cr_17j4.fExprs)]) (nb rfl) rfl)))) ?_
    refine opK_pu (Pu.g fun hb => by have hb_0 := hb; first | exact (pu_len_28 _ _ _) | (simp only [gv_t hb_0]; exact (pu_len_28 _ _ _)) | (simp only [gval_t hb_0, gv_t hb_0, gv_t hb, gva_ff hb_0, gv_n]; exact (pu_len_28 _ _ _))) ?_
    refine opK_pu (Pu.g fun hb => by have hb_0 := hb; first | exact pu_fa_88_2 | (simp only [gval_t hb_0, gv_t hb_0, gv_t hb, gva_ft hb_0]; exact pu_fa_88_2) | (simp only [gval_t hb_0, gv_t hb_0, gv_t hb, gva_ff hb_0, gv_n]; exact pu_fa_88_2)) ?_
    refine opK_ld (Ld.g fun hb => by have hb_0 := hb; first | exact (ld1 Tryd.isAgg28 (I.at1 (o := 2) (vs := [(vs cr_22j4.fExprs)]) (nb rfl) rfl)) | (simp only [gv_t hb_0]; exact (ld1 Tryd.isAgg28 (I.at1 (o := 2) (vs := [(vs cr_22j4.fExprs)]) (nb rfl) rfl))) | (simp only [gval_t hb_0, gv_t hb_0, gv_t hb, gva_ff hb_0, gv_n]; exact (ld1 Tryd.isAgg28 (I.at1 (o := 2) (vs := [(vs cr_22j4.fExprs)]) (nb rfl) rfl)))) ?_
    refine opK_pu (Pu.g fun hb => by have hb_0 := hb; first | exact (pu_len_28 _ _ _) | (simp only [gv_t hb_0]; exact (pu_len_28 _ _ _)) | (simp only [gval_t hb_0, gv_t hb_0, gv_t hb, gva_ff hb_0, gv_n]; exact (pu_len_28 _ _ _))) ?_
    refine opK_pu (Pu.g fun hb => by have hb_0 := hb; first | exact (pu_neq _ _ _ _ _ _) | (simp only [gv_t hb_0]; exact (pu_neq _ _ _ _ _ _)) | (simp only [gval_t hb_0, gv_t hb_0, gv_t hb, gva_ff hb_0, gv_n]; exact (pu_neq _ _ _ _ _ _))) ?_
    refine opK_pu (pu_or _ _) ?_
    refine opK_pu (Pu.g fun hb => by have hb_0 := hb; first | exact pu_fa_88_4 | (simp only [gval_t hb_0, gv_t hb_0, gv_t hb, gva_ft hb_0]; exact pu_fa_88_4) | (simp only [gval_t hb_0, gv_t hb_0, gv_t hb, gva_ff hb_0, gv_n]; exact pu_fa_88_4)) ?_
    refine opK_ld (Ld.g fun hb => by have hb_0 := hb; first | exact (ld1 Tryd.isAgg23 ((I.bring 1).at1 (o := 4) (vs := [(vs cr_17j4.fThen)]) (nb rfl) rfl)) | (simp only [gv_t hb_0]; exact (ld1 Tryd.isAgg23 ((I.bring 1).at1 (o := 4) (vs := [(vs cr_17j4.fThen)]) (nb rfl) rfl))) | (simp only [gval_t hb_0, gv_t hb_0, gv_t hb, gva_ff hb_0, gv_n]; exact (ld1 Tryd.isAgg23 ((I.bring 1).at1 (o := 4) (vs := [(vs cr_17j4.fThen)]) (nb rfl) rfl)))) ?_
    refine opK_pu (Pu.g fun hb => by have hb_0 := hb; first | exact pu_fa_88_4 | (simp only [gval_t hb_0, gv_t hb_0, gv_t hb, gva_ft hb_0]; exact pu_fa_88_4) | (simp only [gval_t hb_0, gv_t hb_0, gv_t hb, gva_ff hb_0, gv_n]; exact pu_fa_88_4)) ?_
    refine opK_ld (Ld.g fun hb => by have hb_0 := hb; first | exact (ld1 Tryd.isAgg23 (I.at1 (o := 4) (vs := [(vs cr_22j4.fThen)]) (nb rfl) rfl)) | (simp only [gv_t hb_0]; exact (ld1 Tryd.isAgg23 (I.at1 (o := 4) (vs := [(vs cr_22j4.fThen)]) (nb rfl) rfl))) | (simp only [gval_t hb_0, gv_t hb_0, gv_t hb, gva_ff hb_0, gv_n]; exact (ld1 Tryd.isAgg23 (I.at1 (o := 4) (vs := [(vs cr_22j4.fThen)]) (nb rfl) rfl)))) ?_
    refine opK_g2 (D := fun v_37 w_34 => ∃ (r0_41 : Bool) (H_33 : Hp) , v_37 = (gv ((((!decide (cr_17j4.fKind = cr_22j4.fKind)) || (!decide (cr_17j4.fName = cr_22j4.fName))) || (!decide ((cr_17j4.fConds.n : Int) = (cr_22j4.fConds.n : Int)))) || (!decide ((cr_17j4.fExprs.n : Int) = (cr_22j4.fExprs.n : Int)))) false (Value.bool r0_41)) ∧ (Inv w0 ps0 H0 H_33 [bx gbr_22j4 88 (cs_api_Stmt cr_22j4), bx gbr_17j4 88 (cs_api_Stmt cr_17j4)] w_34) ∧ (∀ i, i < w.heap.size → ¬ inF [] i → w_34.heap[i]? = w.heap[i]?) ∧ Hle H H_33 ∧ (TG ((((((!decide (cr_17j4.fKind = cr_22j4.fKind)) || (!decide (cr_17j4.fName = cr_22j4.fName))) || (!decide ((cr_17j4.fConds.n : Int) = (cr_22j4.fConds.n : Int)))) || (!decide ((cr_17j4.fExprs.n : Int) = (cr_22j4.fExprs.n : Int)))) || (!r0_41)) = false) (C_gnomon_gnomonref3_sameStmts cr_17j4.fElse cr_22j4.fElse H_33) false H_33 (fun (r0_50 : Bool) (H_42 : Hp) =>
 (((((((!decide (cr_17j4.fKind = cr_22j4.fKind)) || (!decide (cr_17j4.fName = cr_22j4.fName))) || (!decide ((cr_17j4.fConds.n : Int) = (cr_22j4.fConds.n : Int)))) || (!decide ((cr_17j4.fExprs.n : Int) = (cr_22j4.fExprs.n : Int)))) || (!r0_41)) || (!r0_50)) = true →
 K false H_42) ∧
 (((((((!decide (cr_17j4.fKind = cr_22j4.fKind)) || (!decide (cr_17j4.fName = cr_22j4.fName))) || (!decide ((cr_17j4.fConds.n : Int) = (cr_22j4.fConds.n : Int)))) || (!decide ((cr_17j4.fExprs.n : Int) = (cr_22j4.fExprs.n : Int)))) || (!r0_41)) || (!r0_50)) = false →
 TL (0 : Int) H_42 fun (s : Int) H n7 => T_gnomon_gnomonref3_sameStmts_l7 x0 x1 s5l2 cr_22j4 cr_17j4 s H n2 n7 K)))) (fun b_123 => ?_) (fun b_123 => ?_) ?_
    ·replace h := h.1 b_123
     have hb_0 := b_123
     try simp only [gv_t hb_0]
     refine opK_calls (cap := []) (fun args w => Tryd.call56 args w) ?_
     refine Cv_ct (Fi := []) (Fr := [bx gbr_22j4 88 (cs_api_Stmt cr_22j4), bx gbr_17j4 88 (cs_api_Stmt cr_17j4)]) I (h) (fun v_37 H_33 F_38 w_34 I_35 l_40 k_36 q_39 => ?_) (fun _ _ _ _ _ q => q.elim)
     obtain ⟨r0_41, rfl, rfl, h⟩ := q_39
     exact ⟨r0_41, H_33, by first | rfl | rw [gv_t b_123], I_35, k_36, l_40, h⟩
    ·exact ⟨false, H, by first | rfl | rw [gv_f b_123], I, fun _ _ _ => rfl, Hle.refl _, h.2 b_123⟩
    ·clear h
     rintro v_37 w_34 ⟨r0_41, H_33, rfl, I_35, k_36, l_40, h⟩
     refine opK_pu (Pu.g fun hb => by have hb_0 := hb; first | exact (pu_not _) | (simp only [gv_t hb_0]; exact (pu_not _)) | (simp only [gval_t hb_0, gv_t hb_0, gv_t hb, gva_ff hb_0, gv_n]; exact (pu_not _))) ?_
     refine opK_pu (pu_or _ _) ?_
     refine opK_pu (Pu.g fun hb => by have hb_0 := hb; first | exact pu_fa_88_5 | (simp only [gval_t hb_0, gv_t hb_0, gv_t hb, gva_ft hb_0]; exact pu_fa_88_5) | (simp only [gval_t hb_0, gv_t hb_0, gv_t hb, gva_ff hb_0, gv_n]; exact pu_fa_88_5)) ?_
     refine opK_ld (Ld.g fun hb => by have hb_0 := hb; first | exact (ld1 Tryd.isAgg23 ((I_35.bring 1).at1 (o := 5) (vs := [(vs cr_17j4.fElse)]) (nb rfl) rfl)) | (simp only [gv_t hb_0]; exact (ld1 Tryd.isAgg23 ((I_35.bring 1).at1 (o := 5) (vs := [(vs cr_17j4.fElse)]) (nb rfl) rfl))) | (simp only [gval_t hb_0, gv_t hb_0, gv_t hb, gva_ff hb_0, gv_n]; exact (ld1 Tryd.isAgg23 ((I_35.bring 1).at1 (o := 5) (vs := [(vs cr_17j4.fElse)]) (nb rfl) rfl)))) ?_
     refine opK_pu (Pu.g fun hb => by have hb_0 := hb; first | exact pu_fa_88_5 | (simp only [gval_t hb_0, gv_t hb_0, gv_t hb, gva_ft hb_0]; exact pu_fa_88_5) | (simp only [gval_t hb_0, gv_t hb_0, gv_t hb, gva_ff hb_0, gv_n]; exact pu_fa_88_5)) ?_
     refine opK_ld (Ld.g fun hb => by have hb_0 := hb; first | exact (ld1 Tryd.isAgg23 (I_35.at1 (o := 5) (vs := [(vs cr_22j4.fElse)]) (nb rfl) rfl)) | (simp only [gv_t hb_0]; exact (ld1 Tryd.isAgg23 (I_35.at1 (o := 5) (vs := [(vs cr_22j4.fElse)]) (nb rfl) rfl))) | (simp only [gval_t hb_0, gv_t hb_0, gv_t hb, gva_ff hb_0, gv_n]; exact (ld1 Tryd.isAgg23 (I_35.at1 (o := 5) (vs := [(vs cr_22j4.fElse)]) (nb rfl) rfl)))) ?_
     refine opK_g2 (D := fun v_46 w_43 => ∃ (r0_50 : Bool) (H_42 : Hp) , v_46 = (gv (((((!decide (cr_17j4.fKind = cr_22j4.fKind)) || (!decide (cr_17j4.fName = cr_22j4.fName))) || (!decide ((cr_17j4.fConds.n : Int) = (cr_22j4.fConds.n : Int)))) || (!decide ((cr_17j4.fExprs.n : Int) = (cr_22j4.fExprs.n : Int)))) || (!r0_41)) false (Value.bool r0_50)) ∧ (Inv w0 ps0 H0 H_42 [bx gbr_22j4 88 (cs_api_Stmt cr_22j4), bx gbr_17j4 88 (cs_api_Stmt cr_17j4)] w_43) ∧ (∀ i, i < w_34.heap.size → ¬ inF [] i → w_43.heap[i]? = w_34.heap[i]?) ∧ Hle H_33 H_42 ∧ ((((((((!decide (cr_17j4.fKind = cr_22j4.fKind)) || (!decide (cr_17j4.fName = cr_22j4.fName))) || (!decide ((cr_17j4.fConds.n : Int) = (cr_22j4.fConds.n : Int)))) || (!decide ((cr_17j4.fExprs.n : Int) = (cr_22j4.fExprs.n : Int)))) || (!r0_41)) || (!r0_50)) = true →
 K false H_42) ∧
 (((((((!decide (cr_17j4.fKind = cr_22j4.fKind)) || (!decide (cr_17j4.fName = cr_22j4.fName))) || (!decide ((cr_17j4.fConds.n : Int) = (cr_22j4.fConds.n : Int)))) || (!decide ((cr_17j4.fExprs.n : Int) = (cr_22j4.fExprs.n : Int)))) || (!r0_41)) || (!r0_50)) = false →
 TL (0 : Int) H_42 fun (s : Int) H n7 => T_gnomon_gnomonref3_sameStmts_l7 x0 x1 s5l2 cr_22j4 cr_17j4 s H n2 n7 K))) (fun b_122 => ?_) (fun b_122 => ?_) ?_
     ·replace h := h.1 b_122
      have hb_0 := b_122
      try simp only [gv_t hb_0]
      refine opK_calls (cap := []) (fun args w => Tryd.call56 args w) ?_
      refine Cv_ct (Fi := []) (Fr := [bx gbr_22j4 88 (cs_api_Stmt cr_22j4), bx gbr_17j4 88 (cs_api_Stmt cr_17j4)]) I_35 (h) (fun v_46 H_42 F_47 w_43 I_44 l_49 k_45 q_48 => ?_) (fun _ _ _ _ _ q => q.elim)
      obtain ⟨r0_50, rfl, rfl, h⟩ := q_48
      exact ⟨r0_50, H_42, by first | rfl | rw [gv_t b_122], I_44, k_45, l_49, h⟩
     ·exact ⟨false, H_33, by first | rfl | rw [gv_f b_122], I_35, fun _ _ _ => rfl, Hle.refl _, h.2 b_122⟩
     ·clear h
      rintro v_46 w_43 ⟨r0_50, H_42, rfl, I_44, k_45, l_49, h⟩
      refine opK_pu (Pu.g fun hb => by have hb_0 := hb; first | exact (pu_not _) | (simp only [gv_t hb_0]; exact (pu_not _)) | (simp only [gval_t hb_0, gv_t hb_0, gv_t hb, gva_ff hb_0, gv_n]; exact (pu_not _))) ?_
      refine opK_pu (pu_or _ _) ?_
      refine xcond_b (fun c_121 => ?_) (fun c_121 => ?_)
      ·replace h := h.1 c_121
       exact hR false H_42 _ I_44.drop.drop h
      ·replace h := h.2 c_121
       have hj5 : ∀ (H : Hp) (w : World) (_ : Inv w0 ps0 H0 H [bx gbr_22j4 88 (cs_api_Stmt cr_22j4), bx gbr_17j4 88 (cs_api_Stmt cr_17j4)] w) (_ : T_gnomon_gnomonref3_sameStmts_j5 x0 x1 s5l2 cr_22j4 cr_17j4 H n2 K), F56_j5 (vs x0) (vs x1) (vi s5l2) (Value.pointer (some ⟨gbr_17j4, 0, none⟩)) (Value.pointer (some ⟨gbr_22j4, 0, none⟩)) w j3 R E := by
        intro H w I h
        unfold F56_j5
        intro _
        unfold T_gnomon_gnomonref3_sameStmts_j5 at h
        obtain ⟨J_104, m_105, i_106, b_107⟩ := h
        refine xloop_J (J := fun n l w => ∃ (s : Int) (H : Hp) , n = m_105 s ∧ l = [(vi s)] ∧ Inv w0 ps0 H0 H [bx gbr_22j4 88 (cs_api_Stmt cr_22j4), bx gbr_17j4 88 (cs_api_Stmt cr_17j4)] w ∧ J_104 s H) ⟨_, 0, H, rfl, rfl, ((I.bring 1).bring 1), i_106⟩ ?_
        rintro n_108 τ_109 w next6 ⟨s9l6, H, rfl, l_110, I, s_111⟩ hn6
        simp only [List.map_cons, List.map_nil, List.cons.injEq, and_true] at l_110
        have e9 := l_110
        simp only [e9]
        obtain ⟨n6, hm6, h⟩ : ∃ n6 : Int → Hp → Prop, (∀ s' H', n6 s' H' → J_104 s' H' ∧ m_105 s' < m_105 s9l6) ∧ T_gnomon_gnomonref3_sameStmts_l6 x0 x1 s5l2 cr_22j4 cr_17j4 s9l6 H n2 n6 K := ⟨_, fun _ _ h => h, b_107 s9l6 H (fun s' H' => J_104 s' H' ∧ m_105 s' < m_105 s9l6) s_111 (fun _ _ a b => ⟨a, b⟩)⟩
        unfold F56_l6
        unfold T_gnomon_gnomonref3_sameStmts_l6 at h
        refine opK_pu pu_fa_88_2 ?_
        refine opK_ld (ld1 Tryd.isAgg28 ((I.bring 1).at1 (o := 2) (vs := [(vs cr_17j4.fExprs)]) (nb rfl) rfl)) ?_
        refine opK_pu (pu_len_28 _ _ _) ?_
        refine opK_pu (pu_lss _ _ _ _ _ _) ?_
        refine xcond_p (fun c_103 => ?_) (fun c_103 => ?_)
        ·replace h := h.1 c_103
         refine s_dX I fun w_77 I_78 => ?_
         refine qP_pu pu_fa_88_2 ?_
         refine qP_pu pu_fa_88_2 ?_
         refine qL_ld (ld1 Tryd.isAgg28 ((I_78.bring 1).at1 (o := 2) (vs := [(vs cr_17j4.fExprs)]) (nb rfl) rfl)) ?_
         obtain ⟨h_82, h_83, x_79, h_85, h⟩ := h
         obtain ⟨g_80, o_81, h_84, h_85⟩ := h_85
         refine qP_pu (pu_ix_28 h_84 _ _ _ _ h_82 h_83) ?_
         refine qL_ld (ldA (vs := (cs_api_Expr x_79)) Tryd.isAgg30 Tryd.sizeOf30 rfl (I_78.atH h_85)) ?_
         refine qL_ld (ld1 Tryd.isAgg28 (I_78.at1 (o := 2) (vs := [(vs cr_22j4.fExprs)]) (nb rfl) rfl)) ?_
         obtain ⟨h_89, h_90, x_86, h_92, h⟩ := h
         obtain ⟨g_87, o_88, h_91, h_92⟩ := h_92
         refine qP_pu (pu_ix_28 h_91 _ _ _ _ h_89 h_90) ?_
         refine qL_ld (ldA (vs := (cs_api_Expr x_86)) Tryd.isAgg30 Tryd.sizeOf30 rfl (I_78.atH h_92)) ?_
         refine opK_calls (cap := []) (fun args w => Tryd.call88 args w) ?_
         refine Cv_ct (Fi := []) (Fr := [bx gbr_22j4 88 (cs_api_Stmt cr_22j4), bx gbr_17j4 88 (cs_api_Stmt cr_17j4)]) I_78 (h) (fun v_97 H_93 F_98 w_94 I_95 l_100 k_96 q_99 => ?_) (fun _ _ _ _ _ q => q.elim)
         obtain ⟨r0_101, rfl, rfl, h⟩ := q_99
         refine qP_pu (pu_not _) ?_
         refine xcond_b (fun c_102 => ?_) (fun c_102 => ?_)
         ·replace h := h.1 c_102
          exact hR false H_93 _ I_95.drop.drop h
         ·replace h := h.2 c_102
          refine opK_pu (pu_add _ _ _ _ _ _) ?_
          exact hn6 _ _ _ (hm6 _ _ h).2 ⟨(IntKind.wrap .i64 (s9l6 + 1)), H_93, rfl, rfl, ((I_95.bring 1).bring 1), (hm6 _ _ h).1⟩
        ·replace h := h.2 c_103
         exact hx3 _ _ (hj3 H _ I.drop.drop h)
       refine xcut_i fun j5 hx5 => ?_
       obtain ⟨J_113, m_114, i_115, b_116⟩ := h
       refine xloop_J (J := fun n l w => ∃ (s : Int) (H : Hp) , n = m_114 s ∧ l = [(vi s)] ∧ Inv w0 ps0 H0 H [bx gbr_22j4 88 (cs_api_Stmt cr_22j4), bx gbr_17j4 88 (cs_api_Stmt cr_17j4)] w ∧ J_113 s H) ⟨_, 0, H_42, rfl, rfl, ((I_44.bring 1).bring 1), i_115⟩ ?_
       rintro n_117 τ_118 w next7 ⟨s8l7, H, rfl, l_119, I, s_120⟩ hn7
       simp only [List.map_cons, List.map_nil, List.cons.injEq, and_true] at l_119
       have e8 := l_119
       simp only [e8]
       obtain ⟨n7, hm7, h⟩ : ∃ n7 : Int → Hp → Prop, (∀ s' H', n7 s' H' → J_113 s' H' ∧ m_114 s' < m_114 s8l7) ∧ T_gnomon_gnomonref3_sameStmts_l7 x0 x1 s5l2 cr_22j4 cr_17j4 s8l7 H n2 n7 K := ⟨_, fun _ _ h => h, b_116 s8l7 H (fun s' H' => J_113 s' H' ∧ m_114 s' < m_114 s8l7) s_120 (fun _ _ a b => ⟨a, b⟩)⟩
       unfold F56_l7
       unfold T_gnomon_gnomonref3_sameStmts_l7 at h
       refine opK_pu pu_fa_88_3 ?_
       refine opK_ld (ld1 Tryd.isAgg31 ((I.bring 1).at1 (o := 3) (vs := [(vs cr_17j4.fConds)]) (nb rfl) rfl)) ?_
       refine opK_pu (pu_len_31 _ _ _) ?_
       refine opK_pu (pu_lss _ _ _ _ _ _) ?_
       refine xcond_p (fun c_112 => ?_) (fun c_112 => ?_)
       ·replace h := h.1 c_112
        refine s_dX I fun w_51 I_52 => ?_
        refine qP_pu pu_fa_88_3 ?_
        refine qP_pu pu_fa_88_3 ?_
        refine qL_ld (ld1 Tryd.isAgg31 ((I_52.bring 1).at1 (o := 3) (vs := [(vs cr_17j4.fConds)]) (nb rfl) rfl)) ?_
        obtain ⟨h_56, h_57, x_53, h_59, h⟩ := h
        obtain ⟨g_54, o_55, h_58, h_59⟩ := h_59
        refine qP_pu (pu_ix_31 h_58 _ _ _ _ h_56 h_57) ?_
        refine qL_ld (ldA (vs := (cs_api_Cond x_53)) Tryd.isAgg33 Tryd.sizeOf33 rfl (I_52.atH h_59)) ?_
        refine qL_ld (ld1 Tryd.isAgg31 (I_52.at1 (o := 3) (vs := [(vs cr_22j4.fConds)]) (nb rfl) rfl)) ?_
        obtain ⟨h_63, h_64, x_60, h_66, h⟩ := h
        obtain ⟨g_61, o_62, h_65, h_66⟩ := h_66
        refine qP_pu (pu_ix_31 h_65 _ _ _ _ h_63 h_64) ?_
        refine qL_ld (ldA (vs := (cs_api_Cond x_60)) Tryd.isAgg33 Tryd.sizeOf33 rfl (I_52.atH h_66)) ?_
        refine opK_calls (cap := []) (fun args w => Tryd.call87 args w) ?_
        refine Cv_ct (Fi := []) (Fr := [bx gbr_22j4 88 (cs_api_Stmt cr_22j4), bx gbr_17j4 88 (cs_api_Stmt cr_17j4)]) I_52 (h) (fun v_71 H_67 F_72 w_68 I_69 l_74 k_70 q_73 => ?_) (fun _ _ _ _ _ q => q.elim)
        obtain ⟨r0_75, rfl, rfl, h⟩ := q_73
        refine qP_pu (pu_not _) ?_
        refine xcond_b (fun c_76 => ?_) (fun c_76 => ?_)
        ·replace h := h.1 c_76
         exact hR false H_67 _ I_69.drop.drop h
        ·replace h := h.2 c_76
         refine opK_pu (pu_add _ _ _ _ _ _) ?_
         exact hn7 _ _ _ (hm7 _ _ h).2 ⟨(IntKind.wrap .i64 (s8l7 + 1)), H_67, rfl, rfl, ((I_69.bring 1).bring 1), (hm7 _ _ h).1⟩
       ·replace h := h.2 c_112
        exact hx5 _ _ (hj5 H _ ((I.bring 1).bring 1) h)
   refine xcut_i fun j4 hx4 => ?_
   refine s_dX I fun w_1 I_2 => ?_
   obtain ⟨h_6, h_7, x_3, h_9, h⟩ := h
   obtain ⟨g_4, o_5, h_8, h_9⟩ := h_9
   refine qP_pu (pu_ix_23 h_8 _ _ _ _ h_6 h_7) ?_
   obtain ⟨h_13, h_14, x_10, h_16, h⟩ := h
   obtain ⟨g_11, o_12, h_15, h_16⟩ := h_16
   refine qP_pu (pu_ix_23 h_15 _ _ _ _ h_13 h_14) ?_
   refine qL_ld (ldA (vs := (cs_api_Stmt x_3)) Tryd.isAgg88 Tryd.sizeOf88 rfl (I_2.atH h_9)) ?_
   refine qL_ld (ldA (vs := (cs_api_Stmt x_10)) Tryd.isAgg88 Tryd.sizeOf88 rfl (I_2.atH h_16)) ?_
   refine ⟨?_, ?_⟩
   ·refine s_alloc I_2 Tryd.zeroValue88 (cs := [(vi 0), (Value.string ⟨#[]⟩), (Value.slice none 0 0), (Value.slice none 0 0), (Value.slice none 0 0), (Value.slice none 0 0)]) rfl fun g_18 w_19 I_20 k_21 => ?_
    refine ⟨(k_21 _ (I_2.atH_lt h_16)), (k_21 _ (I_2.atH_lt h_9)), ?_⟩
    refine s_alloc I_20 Tryd.zeroValue88 (cs := [(vi 0), (Value.string ⟨#[]⟩), (Value.slice none 0 0), (Value.slice none 0 0), (Value.slice none 0 0), (Value.slice none 0 0)]) rfl fun g_23 w_24 I_25 k_26 => ?_
    refine ⟨(k_26 _ (I_20.atH_lt h_16)), (k_26 _ (I_20.atH_lt h_9)), ?_⟩
    refine s_store (I_25.bring 1) Tryd.sizeOf88 (vs := (cs_api_Stmt x_3)) (cs' := (cs_api_Stmt x_3)) rfl rfl (nb rfl) rfl rfl fun w_27 I_28 k_29 => ?_
    refine ⟨(k_29 _ (Inv.ne_H (I_25.bring 1) h_16)), ?_⟩
    refine s_store (I_28.bring 1) Tryd.sizeOf88 (vs := (cs_api_Stmt x_10)) (cs' := (cs_api_Stmt x_10)) rfl rfl (nb rfl) rfl rfl fun w_30 I_31 k_32 => ?_
    exact hx4 _ _ (hj4 x_10 x_3 g_23 g_18 H _ ((I_31.bring 1).bring 1) h)
   ·refine s_alloc I_2 Tryd.zeroValue88 (cs := [(vi 0), (Value.string ⟨#[]⟩), (Value.slice none 0 0), (Value.slice none 0 0), (Value.slice none 0 0), (Value.slice none 0 0)]) rfl fun g_125 w_126 I_127 k_128 => ?_
    refine ⟨(k_128 _ (I_2.atH_lt h_16)), (k_128 _ (I_2.atH_lt h_9)), ?_⟩
    refine s_alloc I_127 Tryd.zeroValue88 (cs := [(vi 0), (Value.string ⟨#[]⟩), (Value.slice none 0 0), (Value.slice none 0 0), (Value.slice none 0 0), (Value.slice none 0 0)]) rfl fun g_130 w_131 I_132 k_133 => ?_
    refine ⟨(k_133 _ (I_127.atH_lt h_16)), (k_133 _ (I_127.atH_lt h_9)), ?_⟩
    refine s_store I_132 Tryd.sizeOf88 (vs := (cs_api_Stmt x_3)) (cs' := (cs_api_Stmt x_3)) rfl rfl (nb rfl) rfl rfl fun w_134 I_135 k_136 => ?_
    refine ⟨(k_136 _ (Inv.ne_H I_132 h_16)), ?_⟩
    refine s_store (I_135.bring 1) Tryd.sizeOf88 (vs := (cs_api_Stmt x_10)) (cs' := (cs_api_Stmt x_10)) rfl rfl (nb rfl) rfl rfl fun w_137 I_138 k_139 => ?_
    exact hx4 _ _ (hj4 x_10 x_3 g_125 g_130 H _ ((I_138.bring 1).bring 1) h)
  ·replace h := h.2 c_140
   exact hx1 _ _ (hj1 H _ I h)
theorem L_gnomon_gnomonref3_sameStmts (x0 : Sl) (x1 : Sl) {H : Hp} {K : Bool → Hp → Prop} (h : T_gnomon_gnomonref3_sameStmts x0 x1 H K) : C_gnomon_gnomonref3_sameStmts x0 x1 H K := by
 intro w I
 refine F56_ok ?_
 refine LF_gnomon_gnomonref3_sameStmts x0 x1 I (fun r0 H' w' I' hk => ⟨H', _, I', r0, rfl, rfl, hk⟩) h


/- function 3: gnomon/gnomonlaw3.TreeEquals -/
def T_gnomon_gnomonlaw3_TreeEquals (x0 : Tapi_Prog) (x1 : Tapi_Prog) (H : Hp) (K : Bool → Hp → Prop) : Prop :=
 C_gnomon_gnomonlaw3_known H (fun (r0_21 : Bool) (H_13 : Hp) => 
 TG (r0_21 = true) (C_gnomon_tree_Equal x0 x1 H_13) false H_13 (fun (r0_30 : Bool) (H_22 : Hp) =>
 TG (r0_21 = true) (C_gnomon_gnomonref3_Equal x0 x1 H_22) false H_22 (fun (r0_39 : Bool) (H_31 : Hp) =>
 TG ((r0_21 && (r0_30 == r0_39)) = true) (C_gnomon_tree_Equal x1 x0 H_31) false H_31 (fun (r0_48 : Bool) (H_40 : Hp) =>
 TG ((r0_21 && (r0_30 == r0_39)) = true) (C_gnomon_tree_Equal x0 x1 H_40) false H_40 (fun (r0_57 : Bool) (H_49 : Hp) =>
 K ((r0_21 && (r0_30 == r0_39)) && (r0_48 == r0_57)) H_49)))))
theorem LF_gnomon_gnomonlaw3_TreeEquals (x0 : Tapi_Prog) (x1 : Tapi_Prog) {w0 w : World} {ps0 : Nat → Prop} {H0 H : Hp} {K : Bool → Hp → Prop} {R : Value → World → Prop} {E : Pan} (I : Inv w0 ps0 H0 H [] w) (hR : ∀ (r0 : Bool) (H' : Hp) (w' : World) (_ : Inv w0 ps0 H0 H' [] w') (_ : K r0 H'), R (Value.bool r0) w') (h : T_gnomon_gnomonlaw3_TreeEquals x0 x1 H K) : F3 (Value.agg (cs_api_Prog x0).toArray) (Value.agg (cs_api_Prog x1).toArray) w R E := by
 unfold T_gnomon_gnomonlaw3_TreeEquals at h
 unfold F3
 refine s_box I (cs := (cs_api_Prog x0)) rfl fun g_2 w_3 I_4 k_5 => ?_
 refine s_box I_4 (cs := (cs_api_Prog x1)) rfl fun g_7 w_8 I_9 k_10 => ?_
 refine s_dX I_9 fun w_11 I_12 => ?_
 refine opK_calls (cap := []) (fun args w => Tryd.call14 args w) ?_
 refine Cv_ct (Fi := []) (Fr := [bx g_7 25 (cs_api_Prog x1), bx g_2 25 (cs_api_Prog x0)]) I_12 (h) (fun v_17 H_13 F_18 w_14 I_15 l_20 k_16 q_19 => ?_) (fun _ _ _ _ _ q => q.elim)
 obtain ⟨r0_21, rfl, rfl, h⟩ := q_19
 refine qL_ld (Ld.g fun hb => by have hb_0 := hb; first | exact (ldA Tryd.isAgg25 Tryd.sizeOf25 rfl ((I_15.bring 1).at1 (o := 0) (vs := (cs_api_Prog x0)) (nb rfl) rfl)) | (simp only [gval_t hb_0, gv_t hb_0, gv_t hb, gva_tt hb_0]; exact (ldA Tryd.isAgg25 Tryd.sizeOf25 rfl ((I_15.bring 1).at1 (o := 0) (vs := (cs_api_Prog x0)) (nb rfl) rfl))) | (simp only [gval_t hb_0, gv_t hb_0, gv_t hb, gva_tf hb_0, gv_n]; exact (ldA Tryd.isAgg25 Tryd.sizeOf25 rfl ((I_15.bring 1).at1 (o := 0) (vs := (cs_api_Prog x0)) (nb rfl) rfl)))) ?_
 refine qL_ld (Ld.g fun hb => by have hb_0 := hb; first | exact (ldA Tryd.isAgg25 Tryd.sizeOf25 rfl (I_15.at1 (o := 0) (vs := (cs_api_Prog x1)) (nb rfl) rfl)) | (simp only [gval_t hb_0, gv_t hb_0, gv_t hb, gva_tt hb_0]; exact (ldA Tryd.isAgg25 Tryd.sizeOf25 rfl (I_15.at1 (o := 0) (vs := (cs_api_Prog x1)) (nb rfl) rfl))) | (simp only [gval_t hb_0, gv_t hb_0, gv_t hb, gva_tf hb_0, gv_n]; exact (ldA Tryd.isAgg25 Tryd.sizeOf25 rfl (I_15.at1 (o := 0) (vs := (cs_api_Prog x1)) (nb rfl) rfl)))) ?_
 refine qL_ld (Ld.g fun hb => by have hb_0 := hb; first | exact (ldA Tryd.isAgg25 Tryd.sizeOf25 rfl ((I_15.bring 1).at1 (o := 0) (vs := (cs_api_Prog x0)) (nb rfl) rfl)) | (simp only [gval_t hb_0, gv_t hb_0, gv_t hb, gva_tt hb_0]; exact (ldA Tryd.isAgg25 Tryd.sizeOf25 rfl ((I_15.bring 1).at1 (o := 0) (vs := (cs_api_Prog x0)) (nb rfl) rfl))) | (simp only [gval_t hb_0, gv_t hb_0, gv_t hb, gva_tf hb_0, gv_n]; exact (ldA Tryd.isAgg25 Tryd.sizeOf25 rfl ((I_15.bring 1).at1 (o := 0) (vs := (cs_api_Prog x0)) (nb rfl) rfl)))) ?_
 refine qL_ld (Ld.g fun hb => by have hb_0 := hb; first | exact (ldA Tryd.isAgg25 Tryd.sizeOf25 rfl (I_15.at1 (o := 0) (vs := (cs_api_Prog x1)) (nb rfl) rfl)) | (simp only [gval_t hb_0, gv_t hb_0, gv_t hb, gva_tt hb_0]; exact (ldA Tryd.isAgg25 Tryd.sizeOf25 rfl (I_15.at1 (o := 0) (vs := (cs_api_Prog x1)) (nb rfl) rfl))) | (simp only [gval_t hb_0, gv_t hb_0, gv_t hb, gva_tf hb_0, gv_n]; exact (ldA Tryd.isAgg25 Tryd.sizeOf25 rfl (I_15.at1 (o := 0) (vs := (cs_api_Prog x1)) (nb rfl) rfl)))) ?_
 refine opK_g2 (D := fun v_26 w_23 => ∃ (r0_30 : Bool) (H_22 : Hp) , v_26 = (gv r0_21 true (Value.bool r0_30)) ∧ (Inv w0 ps0 H0 H_22 [bx g_7 25 (cs_api_Prog x1), bx g_2 25 (cs_api_Prog x0)] w_23) ∧ (∀ i, i < w_14.heap.size → ¬ inF [] i → w_23.heap[i]? = w_14.heap[i]?) ∧ Hle H_13 H_22 ∧ (TG (r0_21 = true) (C_gnomon_gnomonref3_Equal x0 x1 H_22) false H_22 (fun (r0_39 : Bool) (H_31 : Hp) =>
 TG ((r0_21 && (r0_30 == r0_39)) = true) (C_gnomon_tree_Equal x1 x0 H_31) false H_31 (fun (r0_48 : Bool) (H_40 : Hp) =>
 TG ((r0_21 && (r0_30 == r0_39)) = true) (C_gnomon_tree_Equal x0 x1 H_40) false H_40 (fun (r0_57 : Bool) (H_49 : Hp) =>
 K ((r0_21 && (r0_30 == r0_39)) && (r0_48 == r0_57)) H_49))))) (fun b_61 => ?_) (fun b_61 => ?_) ?_
 ·replace h := h.1 b_61
  have hb_0 := b_61
  try simp only [gv_t hb_0]
  refine opK_calls (cap := []) (fun args w => Tryd.call15 args w) ?_
  refine Cv_ct (Fi := []) (Fr := [bx g_7 25 (cs_api_Prog x1), bx g_2 25 (cs_api_Prog x0)]) I_15 (h) (fun v_26 H_22 F_27 w_23 I_24 l_29 k_25 q_28 => ?_) (fun _ _ _ _ _ q => q.elim)
  obtain ⟨r0_30, rfl, rfl, h⟩ := q_28
  exact ⟨r0_30, H_22, by first | rfl | rw [gv_t b_61], I_24, k_25, l_29, h⟩
 ·exact ⟨false, H_13, by first | rfl | rw [gv_f b_61], I_15, fun _ _ _ => rfl, Hle.refl _, h.2 b_61⟩
 ·clear h
  rintro v_26 w_23 ⟨r0_30, H_22, rfl, I_24, k_25, l_29, h⟩
  refine ⟨(k_25 _ I_15.lt1 (Inv.not_in (Fi := []) I_15)), (k_25 _ (I_15.bring 1).lt1 (Inv.not_in (Fi := []) (I_15.bring 1))), ?_⟩
  refine opK_g2 (D := fun v_35 w_32 => ∃ (r0_39 : Bool) (H_31 : Hp) , v_35 = (gv r0_21 true (Value.bool r0_39)) ∧ (Inv w0 ps0 H0 H_31 [bx g_7 25 (cs_api_Prog x1), bx g_2 25 (cs_api_Prog x0)] w_32) ∧ (∀ i, i < w_23.heap.size → ¬ inF [] i → w_32.heap[i]? = w_23.heap[i]?) ∧ Hle H_22 H_31 ∧ (TG ((r0_21 && (r0_30 == r0_39)) = true) (C_gnomon_tree_Equal x1 x0 H_31) false H_31 (fun (r0_48 : Bool) (H_40 : Hp) =>
 TG ((r0_21 && (r0_30 == r0_39)) = true) (C_gnomon_tree_Equal x0 x1 H_40) false H_40 (fun (r0_57 : Bool) (H_49 : Hp) =>
 K ((r0_21 && (r0_30 == r0_39)) && (r0_48 == r0_57)) H_49)))) (fun b_60 => ?_) (fun b_60 => ?_) ?_
  ·replace h := h.1 b_60
   have hb_0 := b_60
   try simp only [gv_t hb_0]
   refine opK_calls (cap := []) (fun args w => Tryd.call16 args w) ?_
   refine Cv_ct (Fi := []) (Fr := [bx g_7 25 (cs_api_Prog x1), bx g_2 25 (cs_api_Prog x0)]) I_24 (h) (fun v_35 H_31 F_36 w_32 I_33 l_38 k_34 q_37 => ?_) (fun _ _ _ _ _ q => q.elim)
   obtain ⟨r0_39, rfl, rfl, h⟩ := q_37
   exact ⟨r0_39, H_31, by first | rfl | rw [gv_t b_60], I_33, k_34, l_38, h⟩
  ·exact ⟨false, H_22, by first | rfl | rw [gv_f b_60], I_24, fun _ _ _ => rfl, Hle.refl _, h.2 b_60⟩
  ·clear h
   rintro v_35 w_32 ⟨r0_39, H_31, rfl, I_33, k_34, l_38, h⟩
   refine qP_pu (Pu.g fun hb => by have hb_0 := hb; first | exact (pu_eqb_4 _ _ _ _) | (simp only [gv_t hb_0]; exact (pu_eqb_4 _ _ _ _)) | (simp only [gval_t hb_0, gv_t hb_0, gv_t hb, gva_tf hb_0, gv_n]; exact (pu_eqb_4 _ _ _ _))) ?_
   refine qP_pu (pu_and _ _) ?_
   refine qL_ld (Ld.g fun hb => by have hb_0 := hb; first | exact (ldA Tryd.isAgg25 Tryd.sizeOf25 rfl (I_33.at1 (o := 0) (vs := (cs_api_Prog x1)) (nb rfl) rfl)) | (simp only [gval_t hb_0, gv_t hb_0, gv_t hb, gva_tt hb_0]; exact (ldA Tryd.isAgg25 Tryd.sizeOf25 rfl (I_33.at1 (o := 0) (vs := (cs_api_Prog x1)) (nb rfl) rfl))) | (simp only [gval_t hb_0, gv_t hb_0, gv_t hb, gva_tf hb_0, gv_n]; exact (ldA Tryd.isAgg25 Tryd.sizeOf25 rfl (I_33.at1 (o := 0) (vs := (cs_api_Prog x1)) (nb rfl) rfl)))) ?_
   refine qL_ld (Ld.g fun hb => by have hb_0 := hb; first | exact (ldA Tryd.isAgg25 Tryd.sizeOf25 rfl ((I_33.bring 1).at1 (o := 0) (vs := (cs_api_Prog x0)) (nb rfl) rfl)) | (simp only [gval_t hb_0, gv_t hb_0, gv_t hb, gva_tt hb_0]; exact (ldA Tryd.isAgg25 Tryd.sizeOf25 rfl ((I_33.bring 1).at1 (o := 0) (vs := (cs_api_Prog x0)) (nb rfl) rfl))) | (simp only [gval_t hb_0, gv_t hb_0, gv_t hb, gva_tf hb_0, gv_n]; exact (ldA Tryd.isAgg25 Tryd.sizeOf25 rfl ((I_33.bring 1).at1 (o := 0) (vs := (cs_api_Prog x0)) (nb rfl) rfl)))) ?_
   refine qL_ld (Ld.g fun hb => by have hb_0 := hb; first | exact (ldA Tryd.isAgg25 Tryd.sizeOf25 rfl ((I_33.bring 1).at1 (o := 0) (vs := (cs_api_Prog x0)) (nb rfl) rfl)) | (simp only [gval_t hb_0, gv_t hb_0, gv_t hb, gva_tt hb_0]; exact (ldA Tryd.isAgg25 Tryd.sizeOf25 rfl ((I_33.bring 1).at1 (o := 0) (vs := (cs_api_Prog x0)) (nb rfl) rfl))) | (simp only [gval_t hb_0, gv_t hb_0, gv_t hb, gva_tf hb_0, gv_n]; exact (ldA Tryd.isAgg25 Tryd.sizeOf25 rfl ((I_33.bring 1).at1 (o := 0) (vs := (cs_api_Prog x0)) (nb rfl) rfl)))) ?_
   refine qL_ld (Ld.g fun hb => by have hb_0 := hb; first | exact (ldA Tryd.isAgg25 Tryd.sizeOf25 rfl (I_33.at1 (o := 0) (vs := (cs_api_Prog x1)) (nb rfl) rfl)) | (simp only [gval_t hb_0, gv_t hb_0, gv_t hb, gva_tt hb_0]; exact (ldA Tryd.isAgg25 Tryd.sizeOf25 rfl (I_33.at1 (o := 0) (vs := (cs_api_Prog x1)) (nb rfl) rfl))) | (simp only [gval_t hb_0, gv_t hb_0, gv_t hb, gva_tf hb_0, gv_n]; exact (ldA Tryd.isAgg25 Tryd.sizeOf25 rfl (I_33.at1 (o := 0) (vs := (cs_api_Prog x1)) (nb rfl) rfl)))) ?_
   refine opK_g2 (D := fun v_44 w_41 => ∃ (r0_48 : Bool) (H_40 : Hp) , v_44 = (gv (r0_21 && (r0_30 == r0_39)) true (Value.bool r0_48)) ∧ (Inv w0 ps0 H0 H_40 [bx g_7 25 (cs_api_Prog x1), bx g_2 25 (cs_api_Prog x0)] w_41) ∧ (∀ i, i < w_32.heap.size → ¬ inF [] i → w_41.heap[i]? = w_32.heap[i]?) ∧ Hle H_31 H_40 ∧ (TG ((r0_21 && (r0_30 == r0_39)) = true) (C_gnomon_tree_Equal x0 x1 H_40) false H_40 (fun (r0_57 : Bool) (H_49 : Hp) =>
 K ((r0_21 && (r0_30 == r0_39)) && (r0_48 == r0_57)) H_49))) (fun b_59 => ?_) (fun b_59 => ?_) ?_
   ·replace h := h.1 b_59
    have hb_0 := b_59
    try simp only [gv_t hb_0]
    refine opK_calls (cap := []) (fun args w => Tryd.call15 args w) ?_
    refine Cv_ct (Fi := []) (Fr := [bx g_7 25 (cs_api_Prog x1), bx g_2 25 (cs_api_Prog x0)]) I_33 (h) (fun v_44 H_40 F_45 w_41 I_42 l_47 k_43 q_46 => ?_) (fun _ _ _ _ _ q => q.elim)
    obtain ⟨r0_48, rfl, rfl, h⟩ := q_46
    exact ⟨r0_48, H_40, by first | rfl | rw [gv_t b_59], I_42, k_43, l_47, h⟩
   ·exact ⟨false, H_31, by first | rfl | rw [gv_f b_59], I_33, fun _ _ _ => rfl, Hle.refl _, h.2 b_59⟩
   ·clear h
    rintro v_44 w_41 ⟨r0_48, H_40, rfl, I_42, k_43, l_47, h⟩
    refine ⟨(k_43 _ I_33.lt1 (Inv.not_in (Fi := []) I_33)), (k_43 _ (I_33.bring 1).lt1 (Inv.not_in (Fi := []) (I_33.bring 1))), ?_⟩
    refine opK_g2 (D := fun v_53 w_50 => ∃ (r0_57 : Bool) (H_49 : Hp) , v_53 = (gv (r0_21 && (r0_30 == r0_39)) true (Value.bool r0_57)) ∧ (Inv w0 ps0 H0 H_49 [bx g_7 25 (cs_api_Prog x1), bx g_2 25 (cs_api_Prog x0)] w_50) ∧ (∀ i, i < w_41.heap.size → ¬ inF [] i → w_50.heap[i]? = w_41.heap[i]?) ∧ Hle H_40 H_49 ∧ (K ((r0_21 && (r0_30 == r0_39)) && (r0_48 == r0_57)) H_49)) (fun b_58 => ?_) (fun b_58 => ?_) ?_
    ·replace h := h.1 b_58
     have hb_0 := b_58
     try simp only [gv_t hb_0]
     refine opK_calls (cap := []) (fun args w => Tryd.call15 args w) ?_
     refine Cv_ct (Fi := []) (Fr := [bx g_7 25 (cs_api_Prog x1), bx g_2 25 (cs_api_Prog x0)]) I_42 (h) (fun v_53 H_49 F_54 w_50 I_51 l_56 k_52 q_55 => ?_) (fun _ _ _ _ _ q => q.elim)
     obtain ⟨r0_57, rfl, rfl, h⟩ := q_55
     exact ⟨r0_57, H_49, by first | rfl | rw [gv_t b_58], I_51, k_52, l_56, h⟩
    ·exact ⟨false, H_40, by first | rfl | rw [gv_f b_58], I_42, fun _ _ _ => rfl, Hle.refl _, h.2 b_58⟩
    ·clear h
     rintro v_53 w_50 ⟨r0_57, H_49, rfl, I_51, k_52, l_56, h⟩
     refine qP_pu (Pu.g fun hb => by have hb_0 := hb; first | exact (pu_eqb_4 _ _ _ _) | (simp only [gv_t hb_0]; exact (pu_eqb_4 _ _ _ _)) | (simp only [gval_t hb_0, gv_t hb_0, gv_t hb, gva_tf hb_0, gv_n]; exact (pu_eqb_4 _ _ _ _))) ?_
     refine qP_pu (pu_and _ _) ?_
     exact hR ((r0_21 && (r0_30 == r0_39)) && (r0_48 == r0_57)) H_49 _ I_51.drop.drop h
theorem L_gnomon_gnomonlaw3_TreeEquals (x0 : Tapi_Prog) (x1 : Tapi_Prog) {H : Hp} {K : Bool → Hp → Prop} (h : T_gnomon_gnomonlaw3_TreeEquals x0 x1 H K) : C_gnomon_gnomonlaw3_TreeEquals x0 x1 H K := by
 intro w I
 refine F3_ok ?_
 refine LF_gnomon_gnomonlaw3_TreeEquals x0 x1 I (fun r0 H' w' I' hk => ⟨H', _, I', r0, rfl, rfl, hk⟩) h


/- function 152: (gnomon/tree.cond).form -/
def T_gnomon_tree_cond_form_j2 (s50j2 : Bool) (cr_6j2 : Ttree_has) (_cr_1j2 : Ttree_cond) (H : Hp) (K : Bool → Hp → Prop) : Prop :=
 (s50j2 = true →
 K (decide (cr_6j2.fexprs = 0 ∧ cr_6j2.fparts = 2)) H) ∧
 (s50j2 = false →
 K false H)
def T_gnomon_tree_cond_form_j1 (s38j1 : Int) (s39j1 : Bool) (cr_6j1 : Ttree_has) (cr_1j1 : Ttree_cond) (H : Hp) (K : Bool → Hp → Prop) : Prop :=
 (s39j1 = true →
 K (decide (cr_6j1.fexprs = 0 ∧ cr_6j1.fparts = 0)) H) ∧
 (s39j1 = false →
 (s38j1 = 4 →
 K (decide (cr_6j1.fexprs = 0 ∧ cr_6j1.fparts = 1)) H) ∧
 (¬ (s38j1 = 4) →
 (s38j1 = 5 →
 T_gnomon_tree_cond_form_j2 (decide (s38j1 = 5)) cr_6j1 cr_1j1 H K) ∧
 (¬ (s38j1 = 5) →
 T_gnomon_tree_cond_form_j2 (decide (s38j1 = 6)) cr_6j1 cr_1j1 H K)))
def T_gnomon_tree_cond_form (x0 : Ttree_cond) (H : Hp) (K : Bool → Hp → Prop) : Prop :=
 (x0.fCond.fKind = 3 →
 K (((decide (1 ≤ x0.fCond.fOp)) && (decide (x0.fCond.fOp ≤ 6))) && (decide ((x0.fCond.fExprs.n : Int) = 2 ∧ (x0.fCond.fParts.n : Int) = 0))) H) ∧
 (¬ (x0.fCond.fKind = 3) →
 (¬ (x0.fCond.fOp = 0) →
 K false H) ∧
 (x0.fCond.fOp = 0 →
 (x0.fCond.fKind = 1 →
 T_gnomon_tree_cond_form_j1 x0.fCond.fKind (decide (x0.fCond.fKind = 1)) (Ttree_has.mk (x0.fCond.fExprs.n : Int) (x0.fCond.fParts.n : Int)) x0 H K) ∧
 (¬ (x0.fCond.fKind = 1) →
 T_gnomon_tree_cond_form_j1 x0.fCond.fKind (decide (x0.fCond.fKind = 2)) (Ttree_has.mk (x0.fCond.fExprs.n : Int) (x0.fCond.fParts.n : Int)) x0 H K)))
theorem LF_gnomon_tree_cond_form (x0 : Ttree_cond) {w0 w : World} {ps0 : Nat → Prop} {H0 H : Hp} {K : Bool → Hp → Prop} {R : Value → World → Prop} {E : Pan} (I : Inv w0 ps0 H0 H [] w) (hR : ∀ (r0 : Bool) (H' : Hp) (w' : World) (_ : Inv w0 ps0 H0 H' [] w') (_ : K r0 H'), R (Value.bool r0) w') (h : T_gnomon_tree_cond_form x0 H K) : F152 (Value.agg (cs_api_Cond x0.fCond).toArray) w R E := by
 unfold T_gnomon_tree_cond_form at h
 unfold F152
 refine s_box I (cs := (cs_api_Cond x0.fCond)) rfl fun g_2 w_3 I_4 k_5 => ?_
 refine opK_pu pu_fa_106_0 ?_
 refine opK_pu pu_fa_33_2 ?_
 refine opK_ld (ld1 Tryd.isAgg28 (I_4.at1 (o := 2) (vs := [(vs x0.fCond.fExprs)]) (nb rfl) rfl)) ?_
 refine opK_pu (pu_len_28 _ _ _) ?_
 refine opK_pu pu_fa_106_0 ?_
 refine opK_pu pu_fa_33_3 ?_
 refine opK_ld (ld1 Tryd.isAgg31 (I_4.at1 (o := 3) (vs := [(vs x0.fCond.fParts)]) (nb rfl) rfl)) ?_
 refine opK_pu (pu_len_31 _ _ _) ?_
 refine opK_pu (pu_bld_209_0_1 _ _) ?_
 refine s_alloc I_4 Tryd.zeroValue209 (cs := [(vi 0), (vi 0)]) rfl fun g_7 w_8 I_9 k_10 => ?_
 refine s_store I_9 Tryd.sizeOf209 (vs := [(vi (x0.fCond.fExprs.n : Int)), (vi (x0.fCond.fParts.n : Int))]) (cs' := [(vi (x0.fCond.fExprs.n : Int)), (vi (x0.fCond.fParts.n : Int))]) rfl rfl (nb rfl) rfl rfl fun w_11 I_12 k_13 => ?_
 refine opK_pu pu_fa_106_0 ?_
 refine opK_pu pu_fa_33_0 ?_
 refine opK_ld (ld1 Tryd.isAgg3 ((I_12.bring 1).at1 (o := 0) (vs := [(vi x0.fCond.fKind)]) (nb rfl) rfl)) ?_
 refine opK_pu (pu_eql _ _ _ _ _ _) ?_
 refine xcond_p (fun c_20 => ?_) (fun c_20 => ?_)
 ·replace h := h.1 c_20
  refine opK_pu pu_fa_106_0 ?_
  refine opK_pu pu_fa_33_1 ?_
  refine opK_ld (ld1 Tryd.isAgg3 ((I_12.bring 1).at1 (o := 1) (vs := [(vi x0.fCond.fOp)]) (nb rfl) rfl)) ?_
  refine opK_pu (pu_geq _ _ _ _ _ _) ?_
  refine opK_pu (Pu.g fun hb => by have hb_0 := hb; first | exact pu_fa_106_0 | (simp only [gval_t hb_0, gv_t hb_0, gv_t hb, gva_tt hb_0]; exact pu_fa_106_0) | (simp only [gval_t hb_0, gv_t hb_0, gv_t hb, gva_tf hb_0, gv_n]; exact pu_fa_106_0)) ?_
  refine opK_pu (Pu.g fun hb => by have hb_0 := hb; first | exact pu_fa_33_1 | (simp only [gv_t hb_0]; exact pu_fa_33_1) | (simp only [gval_t hb_0, gv_t hb_0, gv_t hb, gva_tf hb_0, gv_n]; exact pu_fa_33_1)) ?_
  refine opK_ld (Ld.g fun hb => by have hb_0 := hb; first | exact (ld1 Tryd.isAgg3 ((I_12.bring 1).at1 (o := 1) (vs := [(vi x0.fCond.fOp)]) (nb rfl) rfl)) | (simp only [gv_t hb_0]; exact (ld1 Tryd.isAgg3 ((I_12.bring 1).at1 (o := 1) (vs := [(vi x0.fCond.fOp)]) (nb rfl) rfl))) | (simp only [gval_t hb_0, gv_t hb_0, gv_t hb, gva_tf hb_0, gv_n]; exact (ld1 Tryd.isAgg3 ((I_12.bring 1).at1 (o := 1) (vs := [(vi x0.fCond.fOp)]) (nb rfl) rfl)))) ?_
  refine opK_pu (Pu.g fun hb => by have hb_0 := hb; first | exact (pu_leq _ _ _ _ _ _) | (simp only [gv_t hb_0]; exact (pu_leq _ _ _ _ _ _)) | (simp only [gval_t hb_0, gv_t hb_0, gv_t hb, gva_tf hb_0, gv_n]; exact (pu_leq _ _ _ _ _ _))) ?_
  refine opK_pu (pu_and _ _) ?_
  refine opK_ld (Ld.g fun hb => by have hb_0 := hb; first | exact (ldA Tryd.isAgg209 Tryd.sizeOf209 rfl (I_12.at1 (o := 0) (vs := [(vi (x0.fCond.fExprs.n : Int)), (vi (x0.fCond.fParts.n : Int))]) (nb rfl) rfl)) | (simp only [gval_t hb_0, gv_t hb_0, gv_t hb, gva_tt hb_0]; exact (ldA Tryd.isAgg209 Tryd.sizeOf209 rfl (I_12.at1 (o := 0) (vs := [(vi (x0.fCond.fExprs.n : Int)), (vi (x0.fCond.fParts.n : Int))]) (nb rfl) rfl))) | (simp only [gval_t hb_0, gv_t hb_0, gv_t hb, gva_tf hb_0, gv_n]; exact (ldA Tryd.isAgg209 Tryd.sizeOf209 rfl (I_12.at1 (o := 0) (vs := [(vi (x0.fCond.fExprs.n : Int)), (vi (x0.fCond.fParts.n : Int))]) (nb rfl) rfl)))) ?_
  refine opK_pu (Pu.g fun hb => by have hb_0 := hb; first | exact (pu_bld_209_0_1 _ _) | (simp only [gval_t hb_0, gv_t hb_0, gv_t hb, gva_tt hb_0]; exact (pu_bld_209_0_1 _ _)) | (simp only [gval_t hb_0, gv_t hb_0, gv_t hb, gva_tf hb_0, gv_n]; exact (pu_bld_209_0_1 _ _))) ?_
  refine opK_pu (Pu.g fun hb => by have hb_0 := hb; first | exact (pu_eq_209 _ _ _ _ _ _) | (simp only [gv_t hb_0]; exact (pu_eq_209 _ _ _ _ _ _)) | (simp only [gval_t hb_0, gv_t hb_0, gv_t hb, gva_tf hb_0, gv_n]; exact (pu_eq_209 _ _ _ _ _ _))) ?_
  refine opK_pu (pu_and _ _) ?_
  exact hR (((decide (1 ≤ x0.fCond.fOp)) && (decide (x0.fCond.fOp ≤ 6))) && (decide ((x0.fCond.fExprs.n : Int) = 2 ∧ (x0.fCond.fParts.n : Int) = 0))) H _ I_12.drop.drop h
 ·replace h := h.2 c_20
  refine opK_pu pu_fa_106_0 ?_
  refine opK_pu pu_fa_33_1 ?_
  refine opK_ld (ld1 Tryd.isAgg3 ((I_12.bring 1).at1 (o := 1) (vs := [(vi x0.fCond.fOp)]) (nb rfl) rfl)) ?_
  refine opK_pu (pu_neq _ _ _ _ _ _) ?_
  refine xcond_n (fun c_19 => ?_) (fun c_19 => ?_)
  ·replace h := h.1 c_19
   exact hR false H _ I_12.drop.drop h
  ·replace h := h.2 c_19
   refine opK_pu pu_fa_106_0 ?_
   refine opK_pu pu_fa_33_0 ?_
   refine opK_ld (ld1 Tryd.isAgg3 ((I_12.bring 1).at1 (o := 0) (vs := [(vi x0.fCond.fKind)]) (nb rfl) rfl)) ?_
   have hj1 : ∀ (s39j1 : Bool) (H : Hp) (w : World) (_ : Inv w0 ps0 H0 H [bx g_7 209 [(vi (Ttree_has.mk (x0.fCond.fExprs.n : Int) (x0.fCond.fParts.n : Int)).fexprs), (vi (Ttree_has.mk (x0.fCond.fExprs.n : Int) (x0.fCond.fParts.n : Int)).fparts)], bx g_2 106 (cs_api_Cond x0.fCond)] w) (_ : T_gnomon_tree_cond_form_j1 x0.fCond.fKind s39j1 (Ttree_has.mk (x0.fCond.fExprs.n : Int) (x0.fCond.fParts.n : Int)) x0 H K), F152_j1 (Value.pointer (some ⟨g_7, 0, none⟩)) (vi x0.fCond.fKind) (Value.bool s39j1) w R E := by
    intro s39j1 H w I h
    unfold F152_j1
    intro _
    unfold T_gnomon_tree_cond_form_j1 at h
    refine xcond_b (fun c_17 => ?_) (fun c_17 => ?_)
    ·replace h := h.1 c_17
     refine opK_ld (ldA Tryd.isAgg209 Tryd.sizeOf209 rfl (I.at1 (o := 0) (vs := [(vi (Ttree_has.mk (x0.fCond.fExprs.n : Int) (x0.fCond.fParts.n : Int)).fexprs), (vi (Ttree_has.mk (x0.fCond.fExprs.n : Int) (x0.fCond.fParts.n : Int)).fparts)]) (nb rfl) rfl)) ?_
     refine opK_pu (pu_bld_209 ) ?_
     refine opK_pu (pu_eq_209 _ _ _ _ _ _) ?_
     exact hR (decide ((Ttree_has.mk (x0.fCond.fExprs.n : Int) (x0.fCond.fParts.n : Int)).fexprs = 0 ∧ (Ttree_has.mk (x0.fCond.fExprs.n : Int) (x0.fCond.fParts.n : Int)).fparts = 0)) H _ I.drop.drop h
    ·replace h := h.2 c_17
     refine opK_pu (pu_eql _ _ _ _ _ _) ?_
     refine xcond_p (fun c_16 => ?_) (fun c_16 => ?_)
     ·replace h := h.1 c_16
      refine opK_ld (ldA Tryd.isAgg209 Tryd.sizeOf209 rfl (I.at1 (o := 0) (vs := [(vi (Ttree_has.mk (x0.fCond.fExprs.n : Int) (x0.fCond.fParts.n : Int)).fexprs), (vi (Ttree_has.mk (x0.fCond.fExprs.n : Int) (x0.fCond.fParts.n : Int)).fparts)]) (nb rfl) rfl)) ?_
      refine opK_pu (pu_bld_209_0_1 _ _) ?_
      refine opK_pu (pu_eq_209 _ _ _ _ _ _) ?_
      exact hR (decide ((Ttree_has.mk (x0.fCond.fExprs.n : Int) (x0.fCond.fParts.n : Int)).fexprs = 0 ∧ (Ttree_has.mk (x0.fCond.fExprs.n : Int) (x0.fCond.fParts.n : Int)).fparts = 1)) H _ I.drop.drop h
     ·replace h := h.2 c_16
      have hj2 : ∀ (s50j2 : Bool) (H : Hp) (w : World) (_ : Inv w0 ps0 H0 H [bx g_7 209 [(vi (Ttree_has.mk (x0.fCond.fExprs.n : Int) (x0.fCond.fParts.n : Int)).fexprs), (vi (Ttree_has.mk (x0.fCond.fExprs.n : Int) (x0.fCond.fParts.n : Int)).fparts)], bx g_2 106 (cs_api_Cond x0.fCond)] w) (_ : T_gnomon_tree_cond_form_j2 s50j2 (Ttree_has.mk (x0.fCond.fExprs.n : Int) (x0.fCond.fParts.n : Int)) x0 H K), F152_j2 (Value.pointer (some ⟨g_7, 0, none⟩)) (Value.bool s50j2) w R E := by
       intro s50j2 H w I h
       unfold F152_j2
       intro _
       unfold T_gnomon_tree_cond_form_j2 at h
       refine xcond_b (fun c_14 => ?_) (fun c_14 => ?_)
       ·replace h := h.1 c_14
        refine opK_ld (ldA Tryd.isAgg209 Tryd.sizeOf209 rfl (I.at1 (o := 0) (vs := [(vi (Ttree_has.mk (x0.fCond.fExprs.n : Int) (x0.fCond.fParts.n : Int)).fexprs), (vi (Ttree_has.mk (x0.fCond.fExprs.n : Int) (x0.fCond.fParts.n : Int)).fparts)]) (nb rfl) rfl)) ?_
        refine opK_pu (pu_bld_209_0_1 _ _) ?_
        refine opK_pu (pu_eq_209 _ _ _ _ _ _) ?_
        exact hR (decide ((Ttree_has.mk (x0.fCond.fExprs.n : Int) (x0.fCond.fParts.n : Int)).fexprs = 0 ∧ (Ttree_has.mk (x0.fCond.fExprs.n : Int) (x0.fCond.fParts.n : Int)).fparts = 2)) H _ I.drop.drop h
       ·replace h := h.2 c_14
        exact hR false H _ I.drop.drop h
      refine xcut_i fun j2 hx2 => ?_
      refine opK_pu (pu_eql _ _ _ _ _ _) ?_
      refine xcond_p (fun c_15 => ?_) (fun c_15 => ?_)
      ·replace h := h.1 c_15
       exact hx2 _ _ (hj2 (decide (x0.fCond.fKind = 5)) H _ ((I.bring 1).bring 1) h)
      ·replace h := h.2 c_15
       refine opK_pu (pu_eql _ _ _ _ _ _) ?_
       exact hx2 _ _ (hj2 (decide (x0.fCond.fKind = 6)) H _ ((I.bring 1).bring 1) h)
   refine xcut_i fun j1 hx1 => ?_
   refine opK_pu (pu_eql _ _ _ _ _ _) ?_
   refine xcond_p (fun c_18 => ?_) (fun c_18 => ?_)
   ·replace h := h.1 c_18
    exact hx1 _ _ (hj1 (decide (x0.fCond.fKind = 1)) H _ ((I_12.bring 1).bring 1) h)
   ·replace h := h.2 c_18
    refine opK_pu (pu_eql _ _ _ _ _ _) ?_
    exact hx1 _ _ (hj1 (decide (x0.fCond.fKind = 2)) H _ ((I_12.bring 1).bring 1) h)
theorem L_gnomon_tree_cond_form (x0 : Ttree_cond) {H : Hp} {K : Bool → Hp → Prop} (h : T_gnomon_tree_cond_form x0 H K) : C_gnomon_tree_cond_form x0 H K := by
 intro w I
 refine F152_ok ?_
 refine LF_gnomon_tree_cond_form x0 I (fun r0 H' w' I' hk => ⟨H', _, I', r0, rfl, rfl, hk⟩) h


/- function 154: gnomon/tree.each[gnomon/api.Cond] -/
def T_gnomon_tree_each_gnomon_api_Cond_of_gnomon_tree_condOf_j1 (cs5j1 : (List Itree_node)) (H : Hp) (K : Sl → Hp → Prop) : Prop :=
 ∀ (ss5j1 : Sl) (H_39 : Hp), Hle H H_39 → SlH H_39 1 cs_tree_node ss5j1 cs5j1 → ss5j1.n ≤ ss5j1.c →
 K ss5j1 H_39
def T_gnomon_tree_each_gnomon_api_Cond_of_gnomon_tree_condOf_l2 (s8l2 : Sl) (s9l2 : Int) (cs5l2 : (List Itree_node)) (s10l2 : Int) (H : Hp) (n2 : ((List Itree_node) × Int) → Hp → Prop) (K : Sl → Hp → Prop) : Prop :=
 (s10l2 < s9l2 →
 (0 : Int) ≤ s10l2 ∧ (s10l2 : Int) < s8l2.n ∧ ∃ x_1 : Tapi_Cond, EltH H s8l2 s10l2 4 (cs_api_Cond x_1) ∧ 
 C_gnomon_tree_condOf x_1 H (fun (r0_24 : Itree_node) (H_16 : Hp) => 
 (cs5l2.length + ([r0_24] : List Itree_node).length) * 17 ≤ 140737488355328 ∧
 n2 ((cs5l2 ++ [r0_24]), (IntKind.wrap .i64 (s10l2 + 1))) H_16)) ∧
 (¬ (s10l2 < s9l2) →
 T_gnomon_tree_each_gnomon_api_Cond_of_gnomon_tree_condOf_j1 cs5l2 H K)
def T_gnomon_tree_each_gnomon_api_Cond_of_gnomon_tree_condOf (x0 : Sl) (H : Hp) (K : Sl → Hp → Prop) : Prop :=
 TL (([], 0) : (List Itree_node) × Int) H fun (s : (List Itree_node) × Int) H n2 => T_gnomon_tree_each_gnomon_api_Cond_of_gnomon_tree_condOf_l2 x0 (x0.n : Int) s.1 s.2 H n2 K
theorem LF_gnomon_tree_each_gnomon_api_Cond_of_gnomon_tree_condOf (x0 : Sl) {w0 w : World} {ps0 : Nat → Prop} {H0 H : Hp} {K : Sl → Hp → Prop} {R : Value → World → Prop} {E : Pan} (I : Inv w0 ps0 H0 H [] w) (hR : ∀ (r0 : Sl) (H' : Hp) (w' : World) (_ : Inv w0 ps0 H0 H' [] w') (_ : K r0 H'), R (vs r0) w') (h : T_gnomon_tree_each_gnomon_api_Cond_of_gnomon_tree_condOf x0 H K) : F154 (vs x0) (Value.func (.func 155) #[] #[]) w R E := by
 unfold T_gnomon_tree_each_gnomon_api_Cond_of_gnomon_tree_condOf at h
 unfold F154
 have hj1 : ∀ (cs5j1 : (List Itree_node)) (ss5j1 : Sl) (Fs5j1 : Frag) (H : Hp) (w : World) (_ : RowL 141 1 cs_tree_node ss5j1 cs5j1 Fs5j1) (_ : Inv w0 ps0 H0 H [Fs5j1] w) (_ : T_gnomon_tree_each_gnomon_api_Cond_of_gnomon_tree_condOf_j1 cs5j1 H K), F154_j1 (vs ss5j1) w R E := by
  intro cs5j1 ss5j1 Fs5j1 H w hs5j1 I h
  unfold F154_j1
  intro _
  unfold T_gnomon_tree_each_gnomon_api_Cond_of_gnomon_tree_condOf_j1 at h
  obtain ⟨H_39, I_40, l_41, h_42, h_43⟩ := Inv.freezeC I hs5j1 (by decide)
  replace h := h ss5j1 H_39 l_41 h_42 h_43
  exact hR ss5j1 H_39 _ I_40 h
 refine xcut_i fun j1 hx1 => ?_
 refine opK_pu (pu_len_31 _ _ _) ?_
 obtain ⟨J_45, m_46, i_47, b_48⟩ := h
 refine xloop_J (J := fun n l w => ∃ (s : (List Itree_node) × Int) (H : Hp) (ss5l2 : Sl) (Fs5l2 : Frag) , n = m_46 s ∧ l = (match s with | (cs5l2, s10l2) => [(vs ss5l2), (vi s10l2)]) ∧ (match s with | (cs5l2, s10l2) => RowL 141 1 cs_tree_node ss5l2 cs5l2 Fs5l2) ∧ (match s with | (cs5l2, s10l2) => Inv w0 ps0 H0 H [Fs5l2] w) ∧ J_45 s H) ⟨_, ([], 0), H, (Sl.mk none 0 0), [], rfl, rfl, (RowL.nil cs_tree_node_l cs_tree_node_o), I.nil, i_47⟩ ?_
 rintro n_49 τ_50 w next2 ⟨⟨cs5l2, s10l2⟩, H, ss5l2, Fs5l2, rfl, l_51, hs5l2, I, s_52⟩ hn2
 dsimp only at l_51 I hs5l2
 simp only [List.map_cons, List.map_nil, List.cons.injEq, and_true] at l_51
 obtain ⟨e5, e10⟩ := l_51
 simp only [e5, e10]
 obtain ⟨n2, hm2, h⟩ : ∃ n2 : ((List Itree_node) × Int) → Hp → Prop, (∀ s' H', n2 s' H' → J_45 s' H' ∧ m_46 s' < m_46 (cs5l2, s10l2)) ∧ T_gnomon_tree_each_gnomon_api_Cond_of_gnomon_tree_condOf_l2 x0 (x0.n : Int) cs5l2 s10l2 H n2 K := ⟨_, fun _ _ h => h, b_48 (cs5l2, s10l2) H (fun s' H' => J_45 s' H' ∧ m_46 s' < m_46 (cs5l2, s10l2)) s_52 (fun _ _ a b => ⟨a, b⟩)⟩
 unfold F154_l2
 unfold T_gnomon_tree_each_gnomon_api_Cond_of_gnomon_tree_condOf_l2 at h
 refine opK_pu (pu_lss _ _ _ _ _ _) ?_
 refine xcond_p (fun c_44 => ?_) (fun c_44 => ?_)
 ·replace h := h.1 c_44
  obtain ⟨h_4, h_5, x_1, h_7, h⟩ := h
  obtain ⟨g_2, o_3, h_6, h_7⟩ := h_7
  refine opK_pu (pu_ix_31 h_6 _ _ _ _ h_4 h_5) ?_
  refine opK_ld (ldA (vs := (cs_api_Cond x_1)) Tryd.isAgg33 Tryd.sizeOf33 rfl (I.atH h_7)) ?_
  refine s_alloc I Tryd.zeroValue33 (cs := [(vi 0), (vi 0), (Value.slice none 0 0), (Value.slice none 0 0)]) rfl fun g_9 w_10 I_11 k_12 => ?_
  refine s_store I_11 Tryd.sizeOf33 (vs := (cs_api_Cond x_1)) (cs' := (cs_api_Cond x_1)) rfl rfl (nb rfl) rfl rfl fun w_13 I_14 k_15 => ?_
  refine opK_ld (ldA Tryd.isAgg33 Tryd.sizeOf33 rfl (I_14.at1 (o := 0) (vs := (cs_api_Cond x_1)) (nb rfl) rfl)) ?_
  refine opK_calls (cap := []) (fun args w => Tryd.call155 args w) ?_
  refine Cv_ct (Fi := []) (Fr := [bx g_9 33 (cs_api_Cond x_1), Fs5l2]) I_14 (h) (fun v_20 H_16 F_21 w_17 I_18 l_23 k_19 q_22 => ?_) (fun _ _ _ _ _ q => q.elim)
  obtain ⟨r0_24, rfl, rfl, h⟩ := q_22
  refine s_bs (e := 141) (c := cs_tree_node) (xs := [r0_24]) I_18 (bs_97_1 _) rfl rfl cs_tree_node_l cs_tree_node_o (nb rfl) fun s_26 F_27 w_28 h_29 I_30 k_31 => ?_
  obtain ⟨h_38, h⟩ := h
  refine app_97 (s := ss5l2) (xs := cs5l2) (I_30.bring 2) hs5l2 (h_29.srcO ((I_30.bring 2).bring 1)) h_38 fun s_32 F_33 w_34 h_35 I_36 k_37 => ?_
  refine opK_pu (pu_add _ _ _ _ _ _) ?_
  exact hn2 _ _ _ (hm2 _ _ h).2 ⟨((cs5l2 ++ [r0_24]), (IntKind.wrap .i64 (s10l2 + 1))), H_16, s_32, F_33, rfl, rfl, h_35, ((I_36.bring 1).drop.bring 1).drop, (hm2 _ _ h).1⟩
 ·replace h := h.2 c_44
  exact hx1 _ _ (hj1 cs5l2 ss5l2 Fs5l2 H _ hs5l2 I h)
theorem L_gnomon_tree_each_gnomon_api_Cond_of_gnomon_tree_condOf (x0 : Sl) {H : Hp} {K : Sl → Hp → Prop} (h : T_gnomon_tree_each_gnomon_api_Cond_of_gnomon_tree_condOf x0 H K) : C_gnomon_tree_each_gnomon_api_Cond_of_gnomon_tree_condOf x0 H K := by
 intro w I
 refine F154_ok ?_
 refine LF_gnomon_tree_each_gnomon_api_Cond_of_gnomon_tree_condOf x0 I (fun r0 H' w' I' hk => ⟨H', _, I', r0, rfl, rfl, hk⟩) h


/- function 153: (gnomon/tree.cond).parts -/
def T_gnomon_tree_cond_parts (x0 : Ttree_cond) (H : Hp) (K : Sl → Hp → Prop) : Prop :=
 C_gnomon_tree_each_gnomon_api_Expr_of_gnomon_tree_exprOf x0.fCond.fExprs H (fun (r0_16 : Sl) (H_8 : Hp) => 
 C_gnomon_tree_each_gnomon_api_Cond_of_gnomon_tree_condOf x0.fCond.fParts H_8 (fun (r0_25 : Sl) (H_17 : Hp) => 
 ∀ (s_27 : Sl) (H_33 : Hp), Hle H_17 H_33 → SlH H_33 1 csl s_27 [r0_16, r0_25] → s_27.n ≤ s_27.c →
 C_slices_Concat_gnomon_tree_node_gnomon_tree_node s_27 H_33 (fun (r0_46 : Sl) (H_38 : Hp) => 
 K r0_46 H_38)))
theorem LF_gnomon_tree_cond_parts (x0 : Ttree_cond) {w0 w : World} {ps0 : Nat → Prop} {H0 H : Hp} {K : Sl → Hp → Prop} {R : Value → World → Prop} {E : Pan} (I : Inv w0 ps0 H0 H [] w) (hR : ∀ (r0 : Sl) (H' : Hp) (w' : World) (_ : Inv w0 ps0 H0 H' [] w') (_ : K r0 H'), R (vs r0) w') (h : T_gnomon_tree_cond_parts x0 H K) : F153 (Value.agg (cs_api_Cond x0.fCond).toArray) w R E := by
 unfold T_gnomon_tree_cond_parts at h
 unfold F153
 refine s_box I (cs := (cs_api_Cond x0.fCond)) rfl fun g_2 w_3 I_4 k_5 => ?_
 refine s_dX I_4 fun w_6 I_7 => ?_
 refine qP_pu pu_fa_106_0 ?_
 refine qP_pu pu_fa_33_2 ?_
 refine qP_pu pu_fa_106_0 ?_
 refine qP_pu pu_fa_33_3 ?_
 refine qL_ld (ld1 Tryd.isAgg28 (I_7.at1 (o := 2) (vs := [(vs x0.fCond.fExprs)]) (nb rfl) rfl)) ?_
 refine qL_ld (ld1 Tryd.isAgg31 (I_7.at1 (o := 3) (vs := [(vs x0.fCond.fParts)]) (nb rfl) rfl)) ?_
 refine opK_calls (cap := []) (fun args w => Tryd.call150 args w) ?_
 refine Cv_ct (Fi := []) (Fr := [bx g_2 106 (cs_api_Cond x0.fCond)]) I_7 (h) (fun v_12 H_8 F_13 w_9 I_10 l_15 k_11 q_14 => ?_) (fun _ _ _ _ _ q => q.elim)
 obtain ⟨r0_16, rfl, rfl, h⟩ := q_14
 refine ⟨(k_11 _ I_7.lt1 (Inv.not_in (Fi := []) I_7)), ?_⟩
 refine opK_calls (cap := []) (fun args w => Tryd.call154 args w) ?_
 refine Cv_ct (Fi := []) (Fr := [bx g_2 106 (cs_api_Cond x0.fCond)]) I_10 (h) (fun v_21 H_17 F_22 w_18 I_19 l_24 k_20 q_23 => ?_) (fun _ _ _ _ _ q => q.elim)
 obtain ⟨r0_25, rfl, rfl, h⟩ := q_23
 refine s_bs (e := 97) (c := csl) (xs := [r0_16, r0_25]) I_19 (bs_172_2 _ _ _ _ _ _) rfl rfl csl_l csl_o (nb rfl) fun s_27 F_28 w_29 h_30 I_31 k_32 => ?_
 obtain ⟨H_33, I_34, l_35, h_36, h_37⟩ := Inv.freezeC I_31 h_30 (by decide)
 replace h := h s_27 H_33 l_35 h_36 h_37
 refine opK_calls (cap := []) (fun args w => Tryd.call94 args w) ?_
 refine Cv_ct (Fi := []) (Fr := [bx g_2 106 (cs_api_Cond x0.fCond)]) I_34 (h) (fun v_42 H_38 F_43 w_39 I_40 l_45 k_41 q_44 => ?_) (fun _ _ _ _ _ q => q.elim)
 obtain ⟨r0_46, rfl, rfl, h⟩ := q_44
 exact hR r0_46 H_38 _ I_40.drop h
theorem L_gnomon_tree_cond_parts (x0 : Ttree_cond) {H : Hp} {K : Sl → Hp → Prop} (h : T_gnomon_tree_cond_parts x0 H K) : C_gnomon_tree_cond_parts x0 H K := by
 intro w I
 refine F153_ok ?_
 refine LF_gnomon_tree_cond_parts x0 I (fun r0 H' w' I' hk => ⟨H', _, I', r0, rfl, rfl, hk⟩) h


end Go.Proofs.YthldnpmfelniiaaDoor
