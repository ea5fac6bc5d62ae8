/-
  Contracts of the program's functions; printed by lift.py off the code.
-/
import Derived.Test.YthldnpmfelniiaaDoorU1
import Derived.Test.YthldnpmfelniiaaDoorG1
namespace Go.Proofs.YthldnpmfelniiaaDoor
open Go.RowKit
set_option maxRecDepth 100000
set_option maxHeartbeats 2000000

def C_gnomon_gnomonlaw3_one (H : Hp) (K : Tapi_Prog → Hp → Prop) : Prop :=
 Ct Tryd.prog 50 [] H [] (fun v H' Fo => ∃ (r0 : Tapi_Prog), v = (Value.agg (cs_api_Prog r0).toArray) ∧ Fo = [] ∧ K r0 H') noQE
def C_gnomon_tree_declOf (x0 : Tapi_Decl) (H : Hp) (K : Itree_node → Hp → Prop) : Prop :=
 Ct Tryd.prog 96 [(Value.agg (cs_api_Decl x0).toArray)] H [] (fun v H' Fo => ∃ (r0 : Itree_node), v = (vItree_node r0) ∧ Fo = [] ∧ K r0 H') noQE
def C_gnomon_tree_each_gnomon_api_Decl_of_gnomon_tree_declOf (x0 : Sl) (H : Hp) (K : Sl → Hp → Prop) : Prop :=
 Ct Tryd.prog 95 [(vs x0), (Value.func (.func 96) #[] #[])] H [] (fun v H' Fo => ∃ (r0 : Sl), v = (vs r0) ∧ Fo = [] ∧ K r0 H') noQE
def C_gnomon_tree_stmtOf (x0 : Tapi_Stmt) (H : Hp) (K : Itree_node → Hp → Prop) : Prop :=
 Ct Tryd.prog 98 [(Value.agg (cs_api_Stmt x0).toArray)] H [] (fun v H' Fo => ∃ (r0 : Itree_node), v = (vItree_node r0) ∧ Fo = [] ∧ K r0 H') noQE
def C_gnomon_tree_each_gnomon_api_Stmt_of_gnomon_tree_stmtOf (x0 : Sl) (H : Hp) (K : Sl → Hp → Prop) : Prop :=
 Ct Tryd.prog 97 [(vs x0), (Value.func (.func 98) #[] #[])] H [] (fun v H' Fo => ∃ (r0 : Sl), v = (vs r0) ∧ Fo = [] ∧ K r0 H') noQE
def C_slices_Grow_gnomon_tree_node_gnomon_tree_node_of_nil (x1 : Int) (H : Hp) (K : (List Itree_node) → Hp → Prop) : Prop :=
 Ct Tryd.prog 120 [(Value.slice none 0 0), (vi x1)] H [] (fun v H' Fo => ∃ (r0 : (List Itree_node)) (sr0 : Sl) (Fr0 : Frag), v = (vs sr0) ∧ Fo = [Fr0] ∧ RowL 141 1 cs_tree_node sr0 r0 Fr0 ∧ K r0 H') noQE
def C_slices_Concat_gnomon_tree_node_gnomon_tree_node (x0 : Sl) (H : Hp) (K : Sl → Hp → Prop) : Prop :=
 Ct Tryd.prog 94 [(vs x0)] H [] (fun v H' Fo => ∃ (r0 : Sl), v = (vs r0) ∧ Fo = [] ∧ K r0 H') noQE
def C_gnomon_tree_name (x0 : Itree_node) (H : Hp) (K : ByteArray → Bool → Hp → Prop) : Prop :=
 Ct Tryd.prog 114 [(vItree_node x0)] H [] (fun v H' Fo => ∃ (r0 : ByteArray) (r1 : Bool), v = (Value.tuple #[(Value.string r0), (Value.bool r1)]) ∧ Fo = [] ∧ K r0 r1 H') noQE
def C_gnomon_text_Class_1 (x0 : Int) (x1 : Int) (x2 : Int) (H : Hp) (K : Bool → Hp → Prop) : Prop :=
 ∀ (g2 : Nat), Ct Tryd.prog 131 [(Value.int .i32 x0), (Value.int .i32 x1), (Value.pointer (some ⟨g2, 0, none⟩))] H [bx g2 21 [(Value.int .i32 x2)]] (fun v H' Fo => ∃ (r0 : Bool), v = (Value.bool r0) ∧ Fo = [bx g2 21 [(Value.int .i32 x2)]] ∧ K r0 H') noQE
def C_gnomon_text_Class (x0 : Int) (H : Hp) (K : Int → Hp → Prop) : Prop :=
 Ct Tryd.prog 126 [(Value.int .i32 x0)] H [] (fun v H' Fo => ∃ (r0 : Int), v = (vi r0) ∧ Fo = [] ∧ K r0 H') noQE
def C_gnomon_lex_goesOn (x0 : Int) (H : Hp) (K : Bool → Hp → Prop) : Prop :=
 Ct Tryd.prog 125 [(Value.int .i32 x0)] H [] (fun v H' Fo => ∃ (r0 : Bool), v = (Value.bool r0) ∧ Fo = [] ∧ K r0 H') noQE
def C_unicode_utf8_ValidString (x0 : ByteArray) (H : Hp) (K : Bool → Hp → Prop) : Prop :=
 Ct Tryd.prog 122 [(Value.string x0)] H [] (fun v H' Fo => ∃ (r0 : Bool), v = (Value.bool r0) ∧ Fo = [] ∧ K r0 H') noQE
def C_unicode_utf8_RuneCountInString (x0 : ByteArray) (H : Hp) (K : Int → Hp → Prop) : Prop :=
 Ct Tryd.prog 130 [(Value.string x0)] H [] (fun v H' Fo => ∃ (r0 : Int), v = (vi r0) ∧ Fo = [] ∧ K r0 H') noQE
def C_gnomon_lex_long (x0 : ByteArray) (H : Hp) (K : Bool → Hp → Prop) : Prop :=
 Ct Tryd.prog 123 [(Value.string x0)] H [] (fun v H' Fo => ∃ (r0 : Bool), v = (Value.bool r0) ∧ Fo = [] ∧ K r0 H') noQE
def C_gnomon_lex_Word (x0 : ByteArray) (H : Hp) (K : Bool → Hp → Prop) : Prop :=
 Ct Tryd.prog 124 [(Value.string x0)] H [] (fun v H' Fo => ∃ (r0 : Bool), v = (Value.bool r0) ∧ Fo = [] ∧ K r0 H') noQE
def C_gnomon_lex_Name (x0 : ByteArray) (H : Hp) (K : Bool → Hp → Prop) : Prop :=
 Ct Tryd.prog 115 [(Value.string x0)] H [] (fun v H' Fo => ∃ (r0 : Bool), v = (Value.bool r0) ∧ Fo = [] ∧ K r0 H') noQE
def C_slices_Index_string_string (x0 : (List ByteArray)) (x1 : ByteArray) (H : Hp) (K : Int → Hp → Prop) : Prop :=
 ∀ (sx0 : Sl) (Fx0 : Frag), RowL 9 1 cs_string sx0 x0 Fx0 → Ct Tryd.prog 127 [(vs sx0), (Value.string x1)] H [Fx0] (fun v H' Fo => ∃ (r0 : Int), v = (vi r0) ∧ Fo = [Fx0] ∧ K r0 H') noQE
def C_slices_Contains_string_string (x0 : (List ByteArray)) (x1 : ByteArray) (H : Hp) (K : Bool → Hp → Prop) : Prop :=
 ∀ (sx0 : Sl) (Fx0 : Frag), RowL 9 1 cs_string sx0 x0 Fx0 → Ct Tryd.prog 116 [(vs sx0), (Value.string x1)] H [Fx0] (fun v H' Fo => ∃ (r0 : Bool), v = (Value.bool r0) ∧ Fo = [Fx0] ∧ K r0 H') noQE
def C_gnomon_tree_walker_meets (x0 : Ttree_walker) (x0_5 : (List ByteArray)) (x1 : Itree_node) (x2 : Int) (H : Hp) (K : Bool → Ttree_walker → (List ByteArray) → Hp → Prop) : Prop :=
 ∀ (g0 : Nat), ∀ (sx0_5 : Sl) (Fx0_5 : Frag), RowL 9 1 cs_string sx0_5 x0_5 Fx0_5 → Ct Tryd.prog 90 [(Value.pointer (some ⟨g0, 0, none⟩)), (vItree_node x1), (vi x2)] H [bx g0 92 [(vi x0.fnodes), (vi x0.fdepth), (vi x0.fe), (Value.bool x0.fform), (Value.bool x0.fnamed), (vs sx0_5)], Fx0_5] (fun v H' Fo => ∃ (r0 : Bool) (y0 : Ttree_walker) (y0_5 : (List ByteArray)) (sy0_5 : Sl) (Fy0_5 : Frag), v = (Value.bool r0) ∧ Fo = [bx g0 92 [(vi y0.fnodes), (vi y0.fdepth), (vi y0.fe), (Value.bool y0.fform), (Value.bool y0.fnamed), (vs sy0_5)], Fy0_5] ∧ RowL 9 1 cs_string sy0_5 y0_5 Fy0_5 ∧ K r0 y0 y0_5 H') noQE
def C_gnomon_tree_walked_1 (x0 : Sl) (x1 : Int) (x2 : Ttree_walker) (x2_5 : (List ByteArray)) (H : Hp) (K : Bool → Ttree_walker → (List ByteArray) → Hp → Prop) : Prop :=
 ∀ (g2 g2b g3 : Nat), ∀ (sx2_5 : Sl) (Fx2_5 : Frag), RowL 9 1 cs_string sx2_5 x2_5 Fx2_5 → Ct Tryd.prog 89 [(vs x0), (vi x1), (Value.pointer (some ⟨g2, 0, none⟩)), (Value.pointer (some ⟨g3, 0, none⟩))] H [bx g2 93 [(Value.pointer (some ⟨g2b, 0, none⟩))], bx g2b 92 [(vi x2.fnodes), (vi x2.fdepth), (vi x2.fe), (Value.bool x2.fform), (Value.bool x2.fnamed), (vs sx2_5)], Fx2_5, bx g3 139 [(Value.func (.func 89) #[] #[(Value.pointer (some ⟨g2, 0, none⟩)), (Value.pointer (some ⟨g3, 0, none⟩))])]] (fun v H' Fo => ∃ (r0 : Bool) (y0 : Ttree_walker) (y0_5 : (List ByteArray)) (sy0_5 : Sl) (Fy0_5 : Frag), v = (Value.bool r0) ∧ Fo = [bx g2 93 [(Value.pointer (some ⟨g2b, 0, none⟩))], bx g2b 92 [(vi y0.fnodes), (vi y0.fdepth), (vi y0.fe), (Value.bool y0.fform), (Value.bool y0.fnamed), (vs sy0_5)], Fy0_5, bx g3 139 [(Value.func (.func 89) #[] #[(Value.pointer (some ⟨g2, 0, none⟩)), (Value.pointer (some ⟨g3, 0, none⟩))])]] ∧ RowL 9 1 cs_string sy0_5 y0_5 Fy0_5 ∧ K r0 y0 y0_5 H') noQE
def C_gnomon_tree_walked (x0 : Sl) (H : Hp) (K : Ttree_walker → Hp → Prop) : Prop :=
 Ct Tryd.prog 57 [(vs x0)] H [] (fun v H' Fo => ∃ (r0 : Ttree_walker) (gr0 : Nat), v = (Value.pointer (some ⟨gr0, 0, none⟩)) ∧ Fo = [bx gr0 92 (cs_tree_walker r0)] ∧ K r0 H') noQE
def C_gnomon_tree_all (x0 : Tapi_Prog) (H : Hp) (K : Ttree_walker → Hp → Prop) : Prop :=
 Ct Tryd.prog 66 [(Value.agg (cs_api_Prog x0).toArray)] H [] (fun v H' Fo => ∃ (r0 : Ttree_walker) (gr0 : Nat), v = (Value.pointer (some ⟨gr0, 0, none⟩)) ∧ Fo = [bx gr0 92 (cs_tree_walker r0)] ∧ K r0 H') noQE
def C_gnomon_tree_Depth (x0 : Tapi_Prog) (H : Hp) (K : Int → Int → Hp → Prop) : Prop :=
 Ct Tryd.prog 24 [(Value.agg (cs_api_Prog x0).toArray)] H [] (fun v H' Fo => ∃ (r0 : Int) (r1 : Int), v = (Value.tuple #[(vi r0), (vi r1)]) ∧ Fo = [] ∧ K r0 r1 H') noQE
def C_gnomon_tree_Nodes (x0 : Tapi_Prog) (H : Hp) (K : Int → Int → Hp → Prop) : Prop :=
 Ct Tryd.prog 25 [(Value.agg (cs_api_Prog x0).toArray)] H [] (fun v H' Fo => ∃ (r0 : Int) (r1 : Int), v = (Value.tuple #[(vi r0), (vi r1)]) ∧ Fo = [] ∧ K r0 r1 H') noQE
def C_gnomon_tree_Expr (x0 : Tapi_Expr) (H : Hp) (K : Int → Hp → Prop) : Prop :=
 Ct Tryd.prog 17 [(Value.agg (cs_api_Expr x0).toArray)] H [] (fun v H' Fo => ∃ (r0 : Int), v = (vi r0) ∧ Fo = [] ∧ K r0 H') noQE
def C_gnomon_tree_Check (x0 : Tapi_Prog) (H : Hp) (K : Int → Hp → Prop) : Prop :=
 Ct Tryd.prog 27 [(Value.agg (cs_api_Prog x0).toArray)] H [] (fun v H' Fo => ∃ (r0 : Int), v = (vi r0) ∧ Fo = [] ∧ K r0 H') noQE
def C_gnomon_tree_bounded (x0 : Tapi_Prog) (H : Hp) (K : Bool → Hp → Prop) : Prop :=
 Ct Tryd.prog 51 [(Value.agg (cs_api_Prog x0).toArray)] H [] (fun v H' Fo => ∃ (r0 : Bool), v = (Value.bool r0) ∧ Fo = [] ∧ K r0 H') noQE
def C_slices_Equal_gnomon_api_Decl_gnomon_api_Decl (x0 : Sl) (x1 : Sl) (H : Hp) (K : Bool → Hp → Prop) : Prop :=
 Ct Tryd.prog 52 [(vs x0), (vs x1)] H [] (fun v H' Fo => ∃ (r0 : Bool), v = (Value.bool r0) ∧ Fo = [] ∧ K r0 H') noQE
def C_gnomon_tree_sameExpr (x0 : Tapi_Expr) (x1 : Tapi_Expr) (H : Hp) (K : Bool → Hp → Prop) : Prop :=
 Ct Tryd.prog 84 [(Value.agg (cs_api_Expr x0).toArray), (Value.agg (cs_api_Expr x1).toArray)] H [] (fun v H' Fo => ∃ (r0 : Bool), v = (Value.bool r0) ∧ Fo = [] ∧ K r0 H') noQE
def C_slices_EqualFunc_gnomon_api_Expr_gnomon_api_Expr_gnomon_api_Expr_gnomon_api_Expr_of_gnomon_tree_sameExpr (x0 : Sl) (x1 : Sl) (H : Hp) (K : Bool → Hp → Prop) : Prop :=
 Ct Tryd.prog 83 [(vs x0), (vs x1), (Value.func (.func 84) #[] #[])] H [] (fun v H' Fo => ∃ (r0 : Bool), v = (Value.bool r0) ∧ Fo = [] ∧ K r0 H') noQE
def C_gnomon_tree_sameCond (x0 : Tapi_Cond) (x1 : Tapi_Cond) (H : Hp) (K : Bool → Hp → Prop) : Prop :=
 Ct Tryd.prog 86 [(Value.agg (cs_api_Cond x0).toArray), (Value.agg (cs_api_Cond x1).toArray)] H [] (fun v H' Fo => ∃ (r0 : Bool), v = (Value.bool r0) ∧ Fo = [] ∧ K r0 H') noQE
def C_slices_EqualFunc_gnomon_api_Cond_gnomon_api_Cond_gnomon_api_Cond_gnomon_api_Cond_of_gnomon_tree_sameCond (x0 : Sl) (x1 : Sl) (H : Hp) (K : Bool → Hp → Prop) : Prop :=
 Ct Tryd.prog 85 [(vs x0), (vs x1), (Value.func (.func 86) #[] #[])] H [] (fun v H' Fo => ∃ (r0 : Bool), v = (Value.bool r0) ∧ Fo = [] ∧ K r0 H') noQE
def C_gnomon_tree_sameStmt (x0 : Tapi_Stmt) (x1 : Tapi_Stmt) (H : Hp) (K : Bool → Hp → Prop) : Prop :=
 Ct Tryd.prog 54 [(Value.agg (cs_api_Stmt x0).toArray), (Value.agg (cs_api_Stmt x1).toArray)] H [] (fun v H' Fo => ∃ (r0 : Bool), v = (Value.bool r0) ∧ Fo = [] ∧ K r0 H') noQE
def C_slices_EqualFunc_gnomon_api_Stmt_gnomon_api_Stmt_gnomon_api_Stmt_gnomon_api_Stmt_of_gnomon_tree_sameStmt (x0 : Sl) (x1 : Sl) (H : Hp) (K : Bool → Hp → Prop) : Prop :=
 Ct Tryd.prog 53 [(vs x0), (vs x1), (Value.func (.func 54) #[] #[])] H [] (fun v H' Fo => ∃ (r0 : Bool), v = (Value.bool r0) ∧ Fo = [] ∧ K r0 H') noQE
def C_gnomon_tree_Equal (x0 : Tapi_Prog) (x1 : Tapi_Prog) (H : Hp) (K : Bool → Hp → Prop) : Prop :=
 Ct Tryd.prog 15 [(Value.agg (cs_api_Prog x0).toArray), (Value.agg (cs_api_Prog x1).toArray)] H [] (fun v H' Fo => ∃ (r0 : Bool), v = (Value.bool r0) ∧ Fo = [] ∧ K r0 H') noQE
def C_gnomon_gnomonlaw3_known (H : Hp) (K : Bool → Hp → Prop) : Prop :=
 Ct Tryd.prog 14 [] H [] (fun v H' Fo => ∃ (r0 : Bool), v = (Value.bool r0) ∧ Fo = [] ∧ K r0 H') noQE
def C_gnomon_gnomonref3_walk_node (x0 : Tgnomonref3_walk) (x1 : Int) (H : Hp) (K : Bool → Tgnomonref3_walk → Hp → Prop) : Prop :=
 ∀ (g0 : Nat), Ct Tryd.prog 91 [(Value.pointer (some ⟨g0, 0, none⟩)), (vi x1)] H [bx g0 99 (cs_gnomonref3_walk x0)] (fun v H' Fo => ∃ (r0 : Bool) (y0 : Tgnomonref3_walk), v = (Value.bool r0) ∧ Fo = [bx g0 99 (cs_gnomonref3_walk y0)] ∧ K r0 y0 H') noQE
def C_gnomon_gnomonref3_walk_expr (x0 : Tgnomonref3_walk) (x1 : Tapi_Expr) (x2 : Int) (H : Hp) (K : Tgnomonref3_walk → Hp → Prop) : Prop :=
 ∀ (g0 : Nat), Ct Tryd.prog 58 [(Value.pointer (some ⟨g0, 0, none⟩)), (Value.agg (cs_api_Expr x1).toArray), (vi x2)] H [bx g0 99 (cs_gnomonref3_walk x0)] (fun v H' Fo => ∃ (y0 : Tgnomonref3_walk), v = (Value.tuple #[]) ∧ Fo = [bx g0 99 (cs_gnomonref3_walk y0)] ∧ K y0 H') noQE
def C_gnomon_gnomonref3_walk_cond (x0 : Tgnomonref3_walk) (x1 : Tapi_Cond) (x2 : Int) (H : Hp) (K : Tgnomonref3_walk → Hp → Prop) : Prop :=
 ∀ (g0 : Nat), Ct Tryd.prog 61 [(Value.pointer (some ⟨g0, 0, none⟩)), (Value.agg (cs_api_Cond x1).toArray), (vi x2)] H [bx g0 99 (cs_gnomonref3_walk x0)] (fun v H' Fo => ∃ (y0 : Tgnomonref3_walk), v = (Value.tuple #[]) ∧ Fo = [bx g0 99 (cs_gnomonref3_walk y0)] ∧ K y0 H') noQE
def C_gnomon_gnomonref3_walk_stmt (x0 : Tgnomonref3_walk) (x1 : Tapi_Stmt) (x2 : Int) (H : Hp) (K : Tgnomonref3_walk → Hp → Prop) : Prop :=
 ∀ (g0 : Nat), Ct Tryd.prog 92 [(Value.pointer (some ⟨g0, 0, none⟩)), (Value.agg (cs_api_Stmt x1).toArray), (vi x2)] H [bx g0 99 (cs_gnomonref3_walk x0)] (fun v H' Fo => ∃ (y0 : Tgnomonref3_walk), v = (Value.tuple #[]) ∧ Fo = [bx g0 99 (cs_gnomonref3_walk y0)] ∧ K y0 H') noQE
def C_gnomon_gnomonref3_walked (x0 : Tapi_Prog) (H : Hp) (K : Tgnomonref3_walk → Hp → Prop) : Prop :=
 Ct Tryd.prog 63 [(Value.agg (cs_api_Prog x0).toArray)] H [] (fun v H' Fo => ∃ (r0 : Tgnomonref3_walk), v = (Value.agg (cs_gnomonref3_walk r0).toArray) ∧ Fo = [] ∧ K r0 H') noQE
def C_gnomon_gnomonref3_Few (x0 : Tapi_Prog) (H : Hp) (K : Bool → Hp → Prop) : Prop :=
 Ct Tryd.prog 55 [(Value.agg (cs_api_Prog x0).toArray)] H [] (fun v H' Fo => ∃ (r0 : Bool), v = (Value.bool r0) ∧ Fo = [] ∧ K r0 H') noQE
def C_gnomon_gnomonref3_SameExpr (x0 : Tapi_Expr) (x1 : Tapi_Expr) (H : Hp) (K : Bool → Hp → Prop) : Prop :=
 Ct Tryd.prog 88 [(Value.agg (cs_api_Expr x0).toArray), (Value.agg (cs_api_Expr x1).toArray)] H [] (fun v H' Fo => ∃ (r0 : Bool), v = (Value.bool r0) ∧ Fo = [] ∧ K r0 H') noQE
def C_gnomon_gnomonref3_SameCond (x0 : Tapi_Cond) (x1 : Tapi_Cond) (H : Hp) (K : Bool → Hp → Prop) : Prop :=
 Ct Tryd.prog 87 [(Value.agg (cs_api_Cond x0).toArray), (Value.agg (cs_api_Cond x1).toArray)] H [] (fun v H' Fo => ∃ (r0 : Bool), v = (Value.bool r0) ∧ Fo = [] ∧ K r0 H') noQE
def C_gnomon_gnomonref3_sameStmts (x0 : Sl) (x1 : Sl) (H : Hp) (K : Bool → Hp → Prop) : Prop :=
 Ct Tryd.prog 56 [(vs x0), (vs x1)] H [] (fun v H' Fo => ∃ (r0 : Bool), v = (Value.bool r0) ∧ Fo = [] ∧ K r0 H') noQE
def C_gnomon_gnomonref3_Equal (x0 : Tapi_Prog) (x1 : Tapi_Prog) (H : Hp) (K : Bool → Hp → Prop) : Prop :=
 Ct Tryd.prog 16 [(Value.agg (cs_api_Prog x0).toArray), (Value.agg (cs_api_Prog x1).toArray)] H [] (fun v H' Fo => ∃ (r0 : Bool), v = (Value.bool r0) ∧ Fo = [] ∧ K r0 H') noQE
def C_gnomon_gnomonlaw3_TreeEquals (x0 : Tapi_Prog) (x1 : Tapi_Prog) (H : Hp) (K : Bool → Hp → Prop) : Prop :=
 Ct Tryd.prog 3 [(Value.agg (cs_api_Prog x0).toArray), (Value.agg (cs_api_Prog x1).toArray)] H [] (fun v H' Fo => ∃ (r0 : Bool), v = (Value.bool r0) ∧ Fo = [] ∧ K r0 H') noQE
def C_gnomon_gnomonref1_Rune (x0 : ByteArray) (x1 : Int) (H : Hp) (K : Int → Int → Bool → Hp → Prop) : Prop :=
 Ct Tryd.prog 118 [(Value.string x0), (vi x1)] H [] (fun v H' Fo => ∃ (r0 : Int) (r1 : Int) (r2 : Bool), v = (Value.tuple #[(vi r0), (vi r1), (Value.bool r2)]) ∧ Fo = [] ∧ K r0 r1 r2 H') noQE
def C_gnomon_gnomonref1_between (x0 : Int) (x1 : Int) (x2 : Int) (H : Hp) (K : Bool → Hp → Prop) : Prop :=
 Ct Tryd.prog 128 [(vi x0), (vi x1), (vi x2)] H [] (fun v H' Fo => ∃ (r0 : Bool), v = (Value.bool r0) ∧ Fo = [] ∧ K r0 H') noQE
def C_gnomon_gnomonref1_Class (x0 : Int) (H : Hp) (K : Int → Hp → Prop) : Prop :=
 Ct Tryd.prog 119 [(vi x0)] H [] (fun v H' Fo => ∃ (r0 : Int), v = (vi r0) ∧ Fo = [] ∧ K r0 H') noQE
def C_gnomon_gnomonref2_Word (x0 : ByteArray) (H : Hp) (K : Bool → Hp → Prop) : Prop :=
 Ct Tryd.prog 117 [(Value.string x0)] H [] (fun v H' Fo => ∃ (r0 : Bool), v = (Value.bool r0) ∧ Fo = [] ∧ K r0 H') noQE
def C_gnomon_gnomonref2_Name (x0 : ByteArray) (H : Hp) (K : Bool → Hp → Prop) : Prop :=
 Ct Tryd.prog 93 [(Value.string x0)] H [] (fun v H' Fo => ∃ (r0 : Bool), v = (Value.bool r0) ∧ Fo = [] ∧ K r0 H') noQE
def C_gnomon_gnomonref3_form_name (x0 : Tgnomonref3_form) (x1 : ByteArray) (x2 : Bool) (H : Hp) (K : Tgnomonref3_form → Hp → Prop) : Prop :=
 ∀ (g0 : Nat), Ct Tryd.prog 64 [(Value.pointer (some ⟨g0, 0, none⟩)), (Value.string x1), (Value.bool x2)] H [bx g0 102 (cs_gnomonref3_form x0)] (fun v H' Fo => ∃ (y0 : Tgnomonref3_form), v = (Value.tuple #[]) ∧ Fo = [bx g0 102 (cs_gnomonref3_form y0)] ∧ K y0 H') noQE
def C_gnomon_gnomonref3_form_expr (x0 : Tgnomonref3_form) (x1 : Tapi_Expr) (H : Hp) (K : Tgnomonref3_form → Hp → Prop) : Prop :=
 ∀ (g0 : Nat), Ct Tryd.prog 59 [(Value.pointer (some ⟨g0, 0, none⟩)), (Value.agg (cs_api_Expr x1).toArray)] H [bx g0 102 (cs_gnomonref3_form x0)] (fun v H' Fo => ∃ (y0 : Tgnomonref3_form), v = (Value.tuple #[]) ∧ Fo = [bx g0 102 (cs_gnomonref3_form y0)] ∧ K y0 H') noQE
def C_gnomon_gnomonref3_form_told (x0 : Tgnomonref3_form) (H : Hp) (K : Int → Hp → Prop) : Prop :=
 Ct Tryd.prog 60 [(Value.agg (cs_gnomonref3_form x0).toArray)] H [] (fun v H' Fo => ∃ (r0 : Int), v = (vi r0) ∧ Fo = [] ∧ K r0 H') noQE
def C_gnomon_gnomonref3_Expr (x0 : Tapi_Expr) (H : Hp) (K : Int → Hp → Prop) : Prop :=
 Ct Tryd.prog 18 [(Value.agg (cs_api_Expr x0).toArray)] H [] (fun v H' Fo => ∃ (r0 : Int), v = (vi r0) ∧ Fo = [] ∧ K r0 H') noQE
def C_gnomon_tree_Cond (x0 : Tapi_Cond) (H : Hp) (K : Int → Hp → Prop) : Prop :=
 Ct Tryd.prog 19 [(Value.agg (cs_api_Cond x0).toArray)] H [] (fun v H' Fo => ∃ (r0 : Int), v = (vi r0) ∧ Fo = [] ∧ K r0 H') noQE
def C_gnomon_gnomonref3_form_cond (x0 : Tgnomonref3_form) (x1 : Tapi_Cond) (H : Hp) (K : Tgnomonref3_form → Hp → Prop) : Prop :=
 ∀ (g0 : Nat), Ct Tryd.prog 62 [(Value.pointer (some ⟨g0, 0, none⟩)), (Value.agg (cs_api_Cond x1).toArray)] H [bx g0 102 (cs_gnomonref3_form x0)] (fun v H' Fo => ∃ (y0 : Tgnomonref3_form), v = (Value.tuple #[]) ∧ Fo = [bx g0 102 (cs_gnomonref3_form y0)] ∧ K y0 H') noQE
def C_gnomon_gnomonref3_Cond (x0 : Tapi_Cond) (H : Hp) (K : Int → Hp → Prop) : Prop :=
 Ct Tryd.prog 20 [(Value.agg (cs_api_Cond x0).toArray)] H [] (fun v H' Fo => ∃ (r0 : Int), v = (vi r0) ∧ Fo = [] ∧ K r0 H') noQE
def C_gnomon_gnomonlaw3_TreeParts (x0 : Tapi_Expr) (x1 : Tapi_Cond) (H : Hp) (K : Bool → Hp → Prop) : Prop :=
 Ct Tryd.prog 4 [(Value.agg (cs_api_Expr x0).toArray), (Value.agg (cs_api_Cond x1).toArray)] H [] (fun v H' Fo => ∃ (r0 : Bool), v = (Value.bool r0) ∧ Fo = [] ∧ K r0 H') noQE
def C_gnomon_gnomonlaw20_known (H : Hp) (K : Bool → Hp → Prop) : Prop :=
 Ct Tryd.prog 21 [] H [] (fun v H' Fo => ∃ (r0 : Bool), v = (Value.bool r0) ∧ Fo = [] ∧ K r0 H') noQE
def C_gnomon_digest_Of (x0 : Sl) (H : Hp) (K : Int → Hp → Prop) : Prop :=
 Ct Tryd.prog 22 [(vs x0)] H [] (fun v H' Fo => ∃ (r0 : Int), v = (Value.int .u64 r0) ∧ Fo = [] ∧ K r0 H') noQE
def C_gnomon_gnomonlaw20_DigestSteps (x0 : Sl) (x1 : Int) (H : Hp) (K : Bool → Hp → Prop) : Prop :=
 Ct Tryd.prog 5 [(vs x0), (Value.int .u8 x1)] H [] (fun v H' Fo => ∃ (r0 : Bool), v = (Value.bool r0) ∧ Fo = [] ∧ K r0 H') noQE
def C_gnomon_gnomonref3_form_stmt (x0 : Tgnomonref3_form) (x1 : Tapi_Stmt) (H : Hp) (K : Tgnomonref3_form → Hp → Prop) : Prop :=
 ∀ (g0 : Nat), Ct Tryd.prog 65 [(Value.pointer (some ⟨g0, 0, none⟩)), (Value.agg (cs_api_Stmt x1).toArray)] H [bx g0 102 (cs_gnomonref3_form x0)] (fun v H' Fo => ∃ (y0 : Tgnomonref3_form), v = (Value.tuple #[]) ∧ Fo = [bx g0 102 (cs_gnomonref3_form y0)] ∧ K y0 H') noQE
def C_gnomon_gnomonref3_Check (x0 : Tapi_Prog) (H : Hp) (K : Int → Hp → Prop) : Prop :=
 Ct Tryd.prog 23 [(Value.agg (cs_api_Prog x0).toArray)] H [] (fun v H' Fo => ∃ (r0 : Int), v = (vi r0) ∧ Fo = [] ∧ K r0 H') noQE
def C_gnomon_tree_Names (x0 : Tapi_Prog) (H : Hp) (K : Sl → Int → Hp → Prop) : Prop :=
 Ct Tryd.prog 26 [(Value.agg (cs_api_Prog x0).toArray)] H [] (fun v H' Fo => ∃ (r0 : Sl) (r1 : Int), v = (Value.tuple #[(vs r0), (vi r1)]) ∧ Fo = [] ∧ K r0 r1 H') noQE
def C_gnomon_gnomonref3_Size (x0 : Tapi_Prog) (H : Hp) (K : Int → Int → Hp → Prop) : Prop :=
 Ct Tryd.prog 28 [(Value.agg (cs_api_Prog x0).toArray)] H [] (fun v H' Fo => ∃ (r0 : Int) (r1 : Int), v = (Value.tuple #[(vi r0), (vi r1)]) ∧ Fo = [] ∧ K r0 r1 H') noQE
def C_gnomon_gnomonref3_put (x0 : (List ByteArray)) (x1 : ByteArray) (H : Hp) (K : (List ByteArray) → Hp → Prop) : Prop :=
 ∀ (sx0 : Sl) (Fx0 : Frag), RowL 9 1 cs_string sx0 x0 Fx0 → Ct Tryd.prog 67 [(vs sx0), (Value.string x1)] H [Fx0] (fun v H' Fo => ∃ (r0 : (List ByteArray)) (sr0 : Sl) (Fr0 : Frag), v = (vs sr0) ∧ Fo = [Fr0] ∧ RowL 9 1 cs_string sr0 r0 Fr0 ∧ K r0 H') noQE
def C_gnomon_gnomonref3_exprUses (x0 : (List Tgnomonref3_Use)) (x1 : Tapi_Expr) (H : Hp) (K : (List Tgnomonref3_Use) → Hp → Prop) : Prop :=
 ∀ (sx0 : Sl) (Fx0 : Frag), RowL 71 2 cs_gnomonref3_Use sx0 x0 Fx0 → Ct Tryd.prog 102 [(vs sx0), (Value.agg (cs_api_Expr x1).toArray)] H [Fx0] (fun v H' Fo => ∃ (r0 : (List Tgnomonref3_Use)) (sr0 : Sl) (Fr0 : Frag), v = (vs sr0) ∧ Fo = [Fr0] ∧ RowL 71 2 cs_gnomonref3_Use sr0 r0 Fr0 ∧ K r0 H') noQE
def C_gnomon_gnomonref3_condUses (x0 : (List Tgnomonref3_Use)) (x1 : Tapi_Cond) (H : Hp) (K : (List Tgnomonref3_Use) → Hp → Prop) : Prop :=
 ∀ (sx0 : Sl) (Fx0 : Frag), RowL 71 2 cs_gnomonref3_Use sx0 x0 Fx0 → Ct Tryd.prog 101 [(vs sx0), (Value.agg (cs_api_Cond x1).toArray)] H [Fx0] (fun v H' Fo => ∃ (r0 : (List Tgnomonref3_Use)) (sr0 : Sl) (Fr0 : Frag), v = (vs sr0) ∧ Fo = [Fr0] ∧ RowL 71 2 cs_gnomonref3_Use sr0 r0 Fr0 ∧ K r0 H') noQE
def C_gnomon_gnomonref3_stmtUses (x0 : (List Tgnomonref3_Use)) (x1 : Sl) (H : Hp) (K : (List Tgnomonref3_Use) → Hp → Prop) : Prop :=
 ∀ (sx0 : Sl) (Fx0 : Frag), RowL 71 2 cs_gnomonref3_Use sx0 x0 Fx0 → Ct Tryd.prog 74 [(vs sx0), (vs x1)] H [Fx0] (fun v H' Fo => ∃ (r0 : (List Tgnomonref3_Use)) (sr0 : Sl) (Fr0 : Frag), v = (vs sr0) ∧ Fo = [Fr0] ∧ RowL 71 2 cs_gnomonref3_Use sr0 r0 Fr0 ∧ K r0 H') noQE
def C_gnomon_gnomonref3_Uses (x0 : Tapi_Prog) (H : Hp) (K : Sl → Hp → Prop) : Prop :=
 Ct Tryd.prog 37 [(Value.agg (cs_api_Prog x0).toArray)] H [] (fun v H' Fo => ∃ (r0 : Sl), v = (vs r0) ∧ Fo = [] ∧ K r0 H') noQE
def C_gnomon_gnomonref3_Names (x0 : Tapi_Prog) (H : Hp) (K : Sl → Hp → Prop) : Prop :=
 Ct Tryd.prog 30 [(Value.agg (cs_api_Prog x0).toArray)] H [] (fun v H' Fo => ∃ (r0 : Sl), v = (vs r0) ∧ Fo = [] ∧ K r0 H') noQE
def C_gnomon_gnomonhelp_Texts (x0 : Sl) (x1 : Sl) (H : Hp) (K : Bool → Hp → Prop) : Prop :=
 Ct Tryd.prog 29 [(vs x0), (vs x1)] H [] (fun v H' Fo => ∃ (r0 : Bool), v = (Value.bool r0) ∧ Fo = [] ∧ K r0 H') noQE
def C_gnomon_gnomonlaw3_TreeChecks (x0 : Tapi_Prog) (H : Hp) (K : Bool → Hp → Prop) : Prop :=
 Ct Tryd.prog 6 [(Value.agg (cs_api_Prog x0).toArray)] H [] (fun v H' Fo => ∃ (r0 : Bool), v = (Value.bool r0) ∧ Fo = [] ∧ K r0 H') noQE
def C_gnomon_digest_Bytes (x0 : Tapi_Prog) (H : Hp) (K : Sl → Int → Hp → Prop) : Prop :=
 Ct Tryd.prog 31 [(Value.agg (cs_api_Prog x0).toArray)] H [] (fun v H' Fo => ∃ (r0 : Sl) (r1 : Int), v = (Value.tuple #[(vs r0), (vi r1)]) ∧ Fo = [] ∧ K r0 r1 H') noQE
def C_gnomon_gnomonref20_node (x0 : (List Int)) (x1 : Int) (x2 : Int) (x3 : Int) (x4 : ByteArray) (x5 : Tarr114) (H : Hp) (K : (List Int) → Hp → Prop) : Prop :=
 ∀ (sx0 : Sl) (Fx0 : Frag), RowL 5 1 cs_uint8 sx0 x0 Fx0 → Ct Tryd.prog 72 [(vs sx0), (Value.int .u8 x1), (vi x2), (Value.int .u64 x3), (Value.string x4), (Value.agg #[(vi x5.f0), (vi x5.f1), (vi x5.f2), (vi x5.f3)])] H [Fx0] (fun v H' Fo => ∃ (r0 : (List Int)) (sr0 : Sl) (Fr0 : Frag), v = (vs sr0) ∧ Fo = [Fr0] ∧ RowL 5 1 cs_uint8 sr0 r0 Fr0 ∧ K r0 H') noQE
def C_gnomon_gnomonref20_expr (x0 : (List Int)) (x1 : Tapi_Expr) (H : Hp) (K : (List Int) → Hp → Prop) : Prop :=
 ∀ (sx0 : Sl) (Fx0 : Frag), RowL 5 1 cs_uint8 sx0 x0 Fx0 → Ct Tryd.prog 100 [(vs sx0), (Value.agg (cs_api_Expr x1).toArray)] H [Fx0] (fun v H' Fo => ∃ (r0 : (List Int)) (sr0 : Sl) (Fr0 : Frag), v = (vs sr0) ∧ Fo = [Fr0] ∧ RowL 5 1 cs_uint8 sr0 r0 Fr0 ∧ K r0 H') noQE
def C_gnomon_gnomonref20_cond (x0 : (List Int)) (x1 : Tapi_Cond) (H : Hp) (K : (List Int) → Hp → Prop) : Prop :=
 ∀ (sx0 : Sl) (Fx0 : Frag), RowL 5 1 cs_uint8 sx0 x0 Fx0 → Ct Tryd.prog 99 [(vs sx0), (Value.agg (cs_api_Cond x1).toArray)] H [Fx0] (fun v H' Fo => ∃ (r0 : (List Int)) (sr0 : Sl) (Fr0 : Frag), v = (vs sr0) ∧ Fo = [Fr0] ∧ RowL 5 1 cs_uint8 sr0 r0 Fr0 ∧ K r0 H') noQE
def C_gnomon_gnomonref20_stmts (x0 : (List Int)) (x1 : Sl) (H : Hp) (K : (List Int) → Hp → Prop) : Prop :=
 ∀ (sx0 : Sl) (Fx0 : Frag), RowL 5 1 cs_uint8 sx0 x0 Fx0 → Ct Tryd.prog 73 [(vs sx0), (vs x1)] H [Fx0] (fun v H' Fo => ∃ (r0 : (List Int)) (sr0 : Sl) (Fr0 : Frag), v = (vs sr0) ∧ Fo = [Fr0] ∧ RowL 5 1 cs_uint8 sr0 r0 Fr0 ∧ K r0 H') noQE
def C_gnomon_gnomonref20_Bytes (x0 : Tapi_Prog) (H : Hp) (K : Sl → Int → Hp → Prop) : Prop :=
 Ct Tryd.prog 32 [(Value.agg (cs_api_Prog x0).toArray)] H [] (fun v H' Fo => ∃ (r0 : Sl) (r1 : Int), v = (Value.tuple #[(vs r0), (vi r1)]) ∧ Fo = [] ∧ K r0 r1 H') noQE
def C_gnomon_digest_Sum (x0 : Tapi_Prog) (H : Hp) (K : Int → Int → Hp → Prop) : Prop :=
 Ct Tryd.prog 33 [(Value.agg (cs_api_Prog x0).toArray)] H [] (fun v H' Fo => ∃ (r0 : Int) (r1 : Int), v = (Value.tuple #[(Value.int .u64 r0), (vi r1)]) ∧ Fo = [] ∧ K r0 r1 H') noQE
def C_gnomon_gnomonref20_Of (x0 : Sl) (H : Hp) (K : Int → Hp → Prop) : Prop :=
 Ct Tryd.prog 36 [(vs x0)] H [] (fun v H' Fo => ∃ (r0 : Int), v = (Value.int .u64 r0) ∧ Fo = [] ∧ K r0 H') noQE
def C_gnomon_gnomonref20_Sum (x0 : Tapi_Prog) (H : Hp) (K : Int → Int → Hp → Prop) : Prop :=
 Ct Tryd.prog 34 [(Value.agg (cs_api_Prog x0).toArray)] H [] (fun v H' Fo => ∃ (r0 : Int) (r1 : Int), v = (Value.tuple #[(Value.int .u64 r0), (vi r1)]) ∧ Fo = [] ∧ K r0 r1 H') noQE
def C_gnomon_gnomonhelp_Bytes (x0 : Sl) (x1 : Sl) (H : Hp) (K : Bool → Hp → Prop) : Prop :=
 Ct Tryd.prog 35 [(vs x0), (vs x1)] H [] (fun v H' Fo => ∃ (r0 : Bool), v = (Value.bool r0) ∧ Fo = [] ∧ K r0 H') noQE
def C_gnomon_gnomonlaw20_DigestExact (x0 : Tapi_Prog) (x1 : Sl) (H : Hp) (K : Bool → Hp → Prop) : Prop :=
 Ct Tryd.prog 7 [(Value.agg (cs_api_Prog x0).toArray), (vs x1)] H [] (fun v H' Fo => ∃ (r0 : Bool), v = (Value.bool r0) ∧ Fo = [] ∧ K r0 H') noQE
def C_gnomon_gnomonlaw20_DigestLengths (x0 : Tapi_Prog) (H : Hp) (K : Bool → Hp → Prop) : Prop :=
 Ct Tryd.prog 8 [(Value.agg (cs_api_Prog x0).toArray)] H [] (fun v H' Fo => ∃ (r0 : Bool), v = (Value.bool r0) ∧ Fo = [] ∧ K r0 H') noQE
def C_gnomon_well_Check (x0 : Tapi_Prog) (H : Hp) (K : ByteArray → Int → Hp → Prop) : Prop :=
 Ct Tryd.prog 39 [(Value.agg (cs_api_Prog x0).toArray)] H [] (fun v H' Fo => ∃ (r0 : ByteArray) (r1 : Int), v = (Value.tuple #[(Value.string r0), (vi r1)]) ∧ Fo = [] ∧ K r0 r1 H') noQE
def C_gnomon_gnomonlaw6_known (H : Hp) (K : Bool → Hp → Prop) : Prop :=
 Ct Tryd.prog 38 [] H [] (fun v H' Fo => ∃ (r0 : Bool), v = (Value.bool r0) ∧ Fo = [] ∧ K r0 H') noQE
def C_gnomon_gnomonlaw6_WellTurned (x0 : Tapi_Prog) (H : Hp) (K : Bool → Hp → Prop) : Prop :=
 Ct Tryd.prog 9 [(Value.agg (cs_api_Prog x0).toArray)] H [] (fun v H' Fo => ∃ (r0 : Bool), v = (Value.bool r0) ∧ Fo = [] ∧ K r0 H') noQE
def C_slices_Clone_gnomon_api_Decl_gnomon_api_Decl (x0 : Sl) (H : Hp) (K : Sl → Hp → Prop) : Prop :=
 Ct Tryd.prog 77 [(vs x0)] H [] (fun v H' Fo => ∃ (r0 : Sl), v = (vs r0) ∧ Fo = [] ∧ K r0 H') noQE
def C_gnomon_tree_copyExpr (x0 : Tapi_Expr) (H : Hp) (K : Tapi_Expr → Hp → Prop) : Prop :=
 Ct Tryd.prog 107 [(Value.agg (cs_api_Expr x0).toArray)] H [] (fun v H' Fo => ∃ (r0 : Tapi_Expr), v = (Value.agg (cs_api_Expr r0).toArray) ∧ Fo = [] ∧ K r0 H') noQE
def C_gnomon_tree_copies_gnomon_api_Expr_of_gnomon_tree_copyExpr (x0 : Sl) (H : Hp) (K : Sl → Hp → Prop) : Prop :=
 Ct Tryd.prog 106 [(vs x0), (Value.func (.func 107) #[] #[])] H [] (fun v H' Fo => ∃ (r0 : Sl), v = (vs r0) ∧ Fo = [] ∧ K r0 H') noQE
def C_gnomon_tree_copyCond (x0 : Tapi_Cond) (H : Hp) (K : Tapi_Cond → Hp → Prop) : Prop :=
 Ct Tryd.prog 109 [(Value.agg (cs_api_Cond x0).toArray)] H [] (fun v H' Fo => ∃ (r0 : Tapi_Cond), v = (Value.agg (cs_api_Cond r0).toArray) ∧ Fo = [] ∧ K r0 H') noQE
def C_gnomon_tree_copies_gnomon_api_Cond_of_gnomon_tree_copyCond (x0 : Sl) (H : Hp) (K : Sl → Hp → Prop) : Prop :=
 Ct Tryd.prog 108 [(vs x0), (Value.func (.func 109) #[] #[])] H [] (fun v H' Fo => ∃ (r0 : Sl), v = (vs r0) ∧ Fo = [] ∧ K r0 H') noQE
def C_gnomon_tree_copyStmt (x0 : Tapi_Stmt) (H : Hp) (K : Tapi_Stmt → Hp → Prop) : Prop :=
 Ct Tryd.prog 79 [(Value.agg (cs_api_Stmt x0).toArray)] H [] (fun v H' Fo => ∃ (r0 : Tapi_Stmt), v = (Value.agg (cs_api_Stmt r0).toArray) ∧ Fo = [] ∧ K r0 H') noQE
def C_gnomon_tree_copies_gnomon_api_Stmt_of_gnomon_tree_copyStmt (x0 : Sl) (H : Hp) (K : Sl → Hp → Prop) : Prop :=
 Ct Tryd.prog 78 [(vs x0), (Value.func (.func 79) #[] #[])] H [] (fun v H' Fo => ∃ (r0 : Sl), v = (vs r0) ∧ Fo = [] ∧ K r0 H') noQE
def C_gnomon_tree_Copy (x0 : Tapi_Prog) (H : Hp) (K : Tapi_Prog → Int → Hp → Prop) : Prop :=
 Ct Tryd.prog 40 [(Value.agg (cs_api_Prog x0).toArray)] H [] (fun v H' Fo => ∃ (r0 : Tapi_Prog) (r1 : Int), v = (Value.tuple #[(Value.agg (cs_api_Prog r0).toArray), (vi r1)]) ∧ Fo = [] ∧ K r0 r1 H') noQE
def C_gnomon_gnomonref3_copyStmts (x0 : Sl) (H : Hp) (K : Sl → Hp → Prop) : Prop :=
 Ct Tryd.prog 80 [(vs x0)] H [] (fun v H' Fo => ∃ (r0 : Sl), v = (vs r0) ∧ Fo = [] ∧ K r0 H') noQE
def C_gnomon_gnomonref3_Copy (x0 : Tapi_Prog) (H : Hp) (K : Tapi_Prog → Hp → Prop) : Prop :=
 Ct Tryd.prog 41 [(Value.agg (cs_api_Prog x0).toArray)] H [] (fun v H' Fo => ∃ (r0 : Tapi_Prog), v = (Value.agg (cs_api_Prog r0).toArray) ∧ Fo = [] ∧ K r0 H') noQE
def C_gnomon_gnomonlaw3_spoil (x0 : Tapi_Prog) (H : Hp) (K : Hp → Prop) : Prop :=
 Ct Tryd.prog 42 [(Value.agg (cs_api_Prog x0).toArray)] H [] (fun v H' Fo => v = (Value.tuple #[]) ∧ Fo = [] ∧ K H') noQE
def C_gnomon_gnomonlaw3_TreeCopies (x0 : Tapi_Prog) (H : Hp) (K : Bool → Hp → Prop) : Prop :=
 Ct Tryd.prog 10 [(Value.agg (cs_api_Prog x0).toArray)] H [] (fun v H' Fo => ∃ (r0 : Bool), v = (Value.bool r0) ∧ Fo = [] ∧ K r0 H') noQE
def C_gnomon_digest_Clash (x0 : Tapi_Prog) (x1 : Tapi_Prog) (H : Hp) (K : Bool → Hp → Prop) : Prop :=
 Ct Tryd.prog 43 [(Value.agg (cs_api_Prog x0).toArray), (Value.agg (cs_api_Prog x1).toArray)] H [] (fun v H' Fo => ∃ (r0 : Bool), v = (Value.bool r0) ∧ Fo = [] ∧ K r0 H') noQE
def C_gnomon_gnomonlaw20_DigestPairs (x0 : Tapi_Prog) (x1 : Tapi_Prog) (H : Hp) (K : Bool → Hp → Prop) : Prop :=
 Ct Tryd.prog 11 [(Value.agg (cs_api_Prog x0).toArray), (Value.agg (cs_api_Prog x1).toArray)] H [] (fun v H' Fo => ∃ (r0 : Bool), v = (Value.bool r0) ∧ Fo = [] ∧ K r0 H') noQE
def C_gnomon_gnomonref6_find (x0 : Sl) (x1 : ByteArray) (H : Hp) (K : Int → Hp → Prop) : Prop :=
 Ct Tryd.prog 81 [(vs x0), (Value.string x1)] H [] (fun v H' Fo => ∃ (r0 : Int), v = (vi r0) ∧ Fo = [] ∧ K r0 H') noQE
def C_gnomon_gnomonref6_Check (x0 : Tapi_Prog) (H : Hp) (K : ByteArray → Int → Hp → Prop) : Prop :=
 Ct Tryd.prog 44 [(Value.agg (cs_api_Prog x0).toArray)] H [] (fun v H' Fo => ∃ (r0 : ByteArray) (r1 : Int), v = (Value.tuple #[(Value.string r0), (vi r1)]) ∧ Fo = [] ∧ K r0 r1 H') noQE
def C_gnomon_well_of (x0 : Tapi_Prog) (x1 : Int) (H : Hp) (K : Sl → Int → Hp → Prop) : Prop :=
 Ct Tryd.prog 82 [(Value.agg (cs_api_Prog x0).toArray), (vi x1)] H [] (fun v H' Fo => ∃ (r0 : Sl) (r1 : Int), v = (Value.tuple #[(vs r0), (vi r1)]) ∧ Fo = [] ∧ K r0 r1 H') noQE
def C_gnomon_well_Vars (x0 : Tapi_Prog) (H : Hp) (K : Sl → Int → Hp → Prop) : Prop :=
 Ct Tryd.prog 45 [(Value.agg (cs_api_Prog x0).toArray)] H [] (fun v H' Fo => ∃ (r0 : Sl) (r1 : Int), v = (Value.tuple #[(vs r0), (vi r1)]) ∧ Fo = [] ∧ K r0 r1 H') noQE
def C_gnomon_well_Arrays (x0 : Tapi_Prog) (H : Hp) (K : Sl → Int → Hp → Prop) : Prop :=
 Ct Tryd.prog 46 [(Value.agg (cs_api_Prog x0).toArray)] H [] (fun v H' Fo => ∃ (r0 : Sl) (r1 : Int), v = (Value.tuple #[(vs r0), (vi r1)]) ∧ Fo = [] ∧ K r0 r1 H') noQE
def C_gnomon_gnomonref6_Vars (x0 : Tapi_Prog) (H : Hp) (K : Sl → Hp → Prop) : Prop :=
 Ct Tryd.prog 47 [(Value.agg (cs_api_Prog x0).toArray)] H [] (fun v H' Fo => ∃ (r0 : Sl), v = (vs r0) ∧ Fo = [] ∧ K r0 H') noQE
def C_gnomon_gnomonref6_Arrays (x0 : Tapi_Prog) (H : Hp) (K : Sl → Hp → Prop) : Prop :=
 Ct Tryd.prog 49 [(Value.agg (cs_api_Prog x0).toArray)] H [] (fun v H' Fo => ∃ (r0 : Sl), v = (vs r0) ∧ Fo = [] ∧ K r0 H') noQE
def C_gnomon_gnomonhelp_Decls (x0 : Sl) (x1 : Sl) (H : Hp) (K : Bool → Hp → Prop) : Prop :=
 Ct Tryd.prog 48 [(vs x0), (vs x1)] H [] (fun v H' Fo => ∃ (r0 : Bool), v = (Value.bool r0) ∧ Fo = [] ∧ K r0 H') noQE
def C_gnomon_gnomonlaw6_WellExact (x0 : Tapi_Prog) (H : Hp) (K : Bool → Hp → Prop) : Prop :=
 Ct Tryd.prog 12 [(Value.agg (cs_api_Prog x0).toArray)] H [] (fun v H' Fo => ∃ (r0 : Bool), v = (Value.bool r0) ∧ Fo = [] ∧ K r0 H') noQE
def C_gnomon_gnomonlaw6_WellParts (x0 : Tapi_Prog) (x1 : Int) (x2 : Int) (H : Hp) (K : Bool → Hp → Prop) : Prop :=
 Ct Tryd.prog 13 [(Value.agg (cs_api_Prog x0).toArray), (vi x1), (vi x2)] H [] (fun v H' Fo => ∃ (r0 : Bool), v = (Value.bool r0) ∧ Fo = [] ∧ K r0 H') noQE
def C_gnomon_well_declared (x0 : Sl) (H : Hp) (K : (Option Nat) → ByteArray → Int → Hp → Prop) : Prop :=
 Ct Tryd.prog 75 [(vs x0)] H [] (fun v H' Fo => ∃ (r0 : (Option Nat)) (r1 : ByteArray) (r2 : Int), v = (Value.tuple #[(Value.map r0), (Value.string r1), (vi r2)]) ∧ Fo = [] ∧ K r0 r1 r2 H') noQE
def C_gnomon_well_walker_stmts (x0 : Twell_walker) (x1 : Sl) (H : Hp) (K : Twell_walker → Hp → Prop) : Prop :=
 ∀ (g0 : Nat), Ct Tryd.prog 76 [(Value.pointer (some ⟨g0, 0, none⟩)), (vs x1)] H [bx g0 126 [(vs x0.fl)]] (fun v H' Fo => ∃ (y0 : Twell_walker), v = (Value.tuple #[]) ∧ Fo = [bx g0 126 [(vs y0.fl)]] ∧ K y0 H') noQE
def C_gnomon_well_kind (x0 : Tapi_Decl) (H : Hp) (K : Int → Hp → Prop) : Prop :=
 Ct Tryd.prog 103 [(Value.agg (cs_api_Decl x0).toArray)] H [] (fun v H' Fo => ∃ (r0 : Int), v = (vi r0) ∧ Fo = [] ∧ K r0 H') noQE
def C_gnomon_well_walker_expr (x0 : Twell_walker) (x1 : Tapi_Expr) (H : Hp) (K : Twell_walker → Hp → Prop) : Prop :=
 ∀ (g0 : Nat), Ct Tryd.prog 105 [(Value.pointer (some ⟨g0, 0, none⟩)), (Value.agg (cs_api_Expr x1).toArray)] H [bx g0 126 [(vs x0.fl)]] (fun v H' Fo => ∃ (y0 : Twell_walker), v = (Value.tuple #[]) ∧ Fo = [bx g0 126 [(vs y0.fl)]] ∧ K y0 H') noQE
def C_gnomon_well_walker_cond (x0 : Twell_walker) (x1 : Tapi_Cond) (H : Hp) (K : Twell_walker → Hp → Prop) : Prop :=
 ∀ (g0 : Nat), Ct Tryd.prog 104 [(Value.pointer (some ⟨g0, 0, none⟩)), (Value.agg (cs_api_Cond x1).toArray)] H [bx g0 126 [(vs x0.fl)]] (fun v H' Fo => ∃ (y0 : Twell_walker), v = (Value.tuple #[]) ∧ Fo = [bx g0 126 [(vs y0.fl)]] ∧ K y0 H') noQE
def C_gnomon_gnomonref3_CopyExpr (x0 : Tapi_Expr) (H : Hp) (K : Tapi_Expr → Hp → Prop) : Prop :=
 Ct Tryd.prog 111 [(Value.agg (cs_api_Expr x0).toArray)] H [] (fun v H' Fo => ∃ (r0 : Tapi_Expr), v = (Value.agg (cs_api_Expr r0).toArray) ∧ Fo = [] ∧ K r0 H') noQE
def C_gnomon_gnomonref3_CopyCond (x0 : Tapi_Cond) (H : Hp) (K : Tapi_Cond → Hp → Prop) : Prop :=
 Ct Tryd.prog 110 [(Value.agg (cs_api_Cond x0).toArray)] H [] (fun v H' Fo => ∃ (r0 : Tapi_Cond), v = (Value.agg (cs_api_Cond r0).toArray) ∧ Fo = [] ∧ K r0 H') noQE
def C_unicode_utf8_word_string (x0 : ByteArray) (H : Hp) (K : Int → Hp → Prop) : Prop :=
 Ct Tryd.prog 129 [(Value.string x0)] H [] (fun v H' Fo => ∃ (r0 : Int), v = (Value.int .u64 r0) ∧ Fo = [] ∧ K r0 H') noQE
def C_gnomon_tree_expr_form (x0 : Ttree_expr) (H : Hp) (K : Bool → Hp → Prop) : Prop :=
 Ct Tryd.prog 148 [(Value.agg (cs_api_Expr x0.fExpr).toArray)] H [] (fun v H' Fo => ∃ (r0 : Bool), v = (Value.bool r0) ∧ Fo = [] ∧ K r0 H') noQE
def C_gnomon_tree_exprOf (x0 : Tapi_Expr) (H : Hp) (K : Itree_node → Hp → Prop) : Prop :=
 Ct Tryd.prog 151 [(Value.agg (cs_api_Expr x0).toArray)] H [] (fun v H' Fo => ∃ (r0 : Itree_node), v = (vItree_node r0) ∧ Fo = [] ∧ K r0 H') noQE
def C_gnomon_tree_each_gnomon_api_Expr_of_gnomon_tree_exprOf (x0 : Sl) (H : Hp) (K : Sl → Hp → Prop) : Prop :=
 Ct Tryd.prog 150 [(vs x0), (Value.func (.func 151) #[] #[])] H [] (fun v H' Fo => ∃ (r0 : Sl), v = (vs r0) ∧ Fo = [] ∧ K r0 H') noQE
def C_gnomon_tree_expr_parts (x0 : Ttree_expr) (H : Hp) (K : Sl → Hp → Prop) : Prop :=
 Ct Tryd.prog 149 [(Value.agg (cs_api_Expr x0.fExpr).toArray)] H [] (fun v H' Fo => ∃ (r0 : Sl), v = (vs r0) ∧ Fo = [] ∧ K r0 H') noQE
def C_gnomon_tree_cond_form (x0 : Ttree_cond) (H : Hp) (K : Bool → Hp → Prop) : Prop :=
 Ct Tryd.prog 152 [(Value.agg (cs_api_Cond x0.fCond).toArray)] H [] (fun v H' Fo => ∃ (r0 : Bool), v = (Value.bool r0) ∧ Fo = [] ∧ K r0 H') noQE
def C_gnomon_tree_condOf (x0 : Tapi_Cond) (H : Hp) (K : Itree_node → Hp → Prop) : Prop :=
 Ct Tryd.prog 155 [(Value.agg (cs_api_Cond x0).toArray)] H [] (fun v H' Fo => ∃ (r0 : Itree_node), v = (vItree_node r0) ∧ Fo = [] ∧ K r0 H') noQE
def C_gnomon_tree_each_gnomon_api_Cond_of_gnomon_tree_condOf (x0 : Sl) (H : Hp) (K : Sl → Hp → Prop) : Prop :=
 Ct Tryd.prog 154 [(vs x0), (Value.func (.func 155) #[] #[])] H [] (fun v H' Fo => ∃ (r0 : Sl), v = (vs r0) ∧ Fo = [] ∧ K r0 H') noQE
def C_gnomon_tree_cond_parts (x0 : Ttree_cond) (H : Hp) (K : Sl → Hp → Prop) : Prop :=
 Ct Tryd.prog 153 [(Value.agg (cs_api_Cond x0.fCond).toArray)] H [] (fun v H' Fo => ∃ (r0 : Sl), v = (vs r0) ∧ Fo = [] ∧ K r0 H') noQE
def C_gnomon_tree_decl_form (x0 : Ttree_decl) (H : Hp) (K : Bool → Hp → Prop) : Prop :=
 Ct Tryd.prog 156 [(Value.agg (cs_api_Decl x0.fDecl).toArray)] H [] (fun v H' Fo => ∃ (r0 : Bool), v = (Value.bool r0) ∧ Fo = [] ∧ K r0 H') noQE
def C_gnomon_tree_decl_parts (x0 : Ttree_decl) (H : Hp) (K : Sl → Hp → Prop) : Prop :=
 Ct Tryd.prog 157 [(Value.agg (cs_api_Decl x0.fDecl).toArray)] H [] (fun v H' Fo => ∃ (r0 : Sl), v = (vs r0) ∧ Fo = [] ∧ K r0 H') noQE
def C_gnomon_tree_stmt_form (x0 : Ttree_stmt) (H : Hp) (K : Bool → Hp → Prop) : Prop :=
 Ct Tryd.prog 158 [(Value.agg (cs_api_Stmt x0.fStmt).toArray)] H [] (fun v H' Fo => ∃ (r0 : Bool), v = (Value.bool r0) ∧ Fo = [] ∧ K r0 H') noQE
def C_gnomon_tree_stmt_parts (x0 : Ttree_stmt) (H : Hp) (K : Sl → Hp → Prop) : Prop :=
 Ct Tryd.prog 159 [(Value.agg (cs_api_Stmt x0.fStmt).toArray)] H [] (fun v H' Fo => ∃ (r0 : Sl), v = (vs r0) ∧ Fo = [] ∧ K r0 H') noQE
def C_inv_tree_node_form (x : Itree_node) (H : Hp) (K : Bool → Hp → Prop) : Prop := match x with
 | .nil => False
 | .c_tree_expr y => C_gnomon_tree_expr_form y H K
 | .c_tree_cond y => C_gnomon_tree_cond_form y H K
 | .c_tree_decl y => C_gnomon_tree_decl_form y H K
 | .c_tree_stmt y => C_gnomon_tree_stmt_form y H K
def C_inv_tree_node_parts (x : Itree_node) (H : Hp) (K : Sl → Hp → Prop) : Prop := match x with
 | .nil => False
 | .c_tree_expr y => C_gnomon_tree_expr_parts y H K
 | .c_tree_cond y => C_gnomon_tree_cond_parts y H K
 | .c_tree_decl y => C_gnomon_tree_decl_parts y H K
 | .c_tree_stmt y => C_gnomon_tree_stmt_parts y H K
theorem ct_inv_tree_node_form {E : Pan} {w0 w : World} {ps : Nat → Prop} {H0 H : Hp} {Fr : List Frag} {K : Value → World → Prop} {Kc : Bool → Hp → Prop} {x : Itree_node} (I : Inv w0 ps H0 H Fr w) (h : C_inv_tree_node_form x H Kc) (hq : ∀ (r0 : Bool) (H' : Hp) (w' : World), Inv w0 ps H0 H' Fr w' → Hle H H' → (∀ i, i < w.heap.size → ¬ inF [] i → w'.heap[i]? = w.heap[i]?) → Kc r0 H' → K (Value.bool r0) w') : opK Tryd.prog E (xInvoke (vItree_node x) "gnomon/tree.form" []) w K := by
 cases x with
 | nil => exact h.elim
 | c_tree_expr y => exact opK_call (f := 148) (args := [(Value.agg (cs_api_Expr y.fExpr).toArray)].toArray) (by kernel_rfl) (Cv_ct (Fi := []) I h (fun v H' Fo w' I' l hk hq' => by obtain ⟨r0, rfl, rfl, hK⟩ := hq'; exact hq r0 H' w' I' l hk hK) (fun _ _ _ _ _ q => q.elim))
 | c_tree_cond y => exact opK_call (f := 152) (args := [(Value.agg (cs_api_Cond y.fCond).toArray)].toArray) (by kernel_rfl) (Cv_ct (Fi := []) I h (fun v H' Fo w' I' l hk hq' => by obtain ⟨r0, rfl, rfl, hK⟩ := hq'; exact hq r0 H' w' I' l hk hK) (fun _ _ _ _ _ q => q.elim))
 | c_tree_decl y => exact opK_call (f := 156) (args := [(Value.agg (cs_api_Decl y.fDecl).toArray)].toArray) (by kernel_rfl) (Cv_ct (Fi := []) I h (fun v H' Fo w' I' l hk hq' => by obtain ⟨r0, rfl, rfl, hK⟩ := hq'; exact hq r0 H' w' I' l hk hK) (fun _ _ _ _ _ q => q.elim))
 | c_tree_stmt y => exact opK_call (f := 158) (args := [(Value.agg (cs_api_Stmt y.fStmt).toArray)].toArray) (by kernel_rfl) (Cv_ct (Fi := []) I h (fun v H' Fo w' I' l hk hq' => by obtain ⟨r0, rfl, rfl, hK⟩ := hq'; exact hq r0 H' w' I' l hk hK) (fun _ _ _ _ _ q => q.elim))
theorem ct_inv_tree_node_parts {E : Pan} {w0 w : World} {ps : Nat → Prop} {H0 H : Hp} {Fr : List Frag} {K : Value → World → Prop} {Kc : Sl → Hp → Prop} {x : Itree_node} (I : Inv w0 ps H0 H Fr w) (h : C_inv_tree_node_parts x H Kc) (hq : ∀ (r0 : Sl) (H' : Hp) (w' : World), Inv w0 ps H0 H' Fr w' → Hle H H' → (∀ i, i < w.heap.size → ¬ inF [] i → w'.heap[i]? = w.heap[i]?) → Kc r0 H' → K (vs r0) w') : opK Tryd.prog E (xInvoke (vItree_node x) "gnomon/tree.parts" []) w K := by
 cases x with
 | nil => exact h.elim
 | c_tree_expr y => exact opK_call (f := 149) (args := [(Value.agg (cs_api_Expr y.fExpr).toArray)].toArray) (by kernel_rfl) (Cv_ct (Fi := []) I h (fun v H' Fo w' I' l hk hq' => by obtain ⟨r0, rfl, rfl, hK⟩ := hq'; exact hq r0 H' w' I' l hk hK) (fun _ _ _ _ _ q => q.elim))
 | c_tree_cond y => exact opK_call (f := 153) (args := [(Value.agg (cs_api_Cond y.fCond).toArray)].toArray) (by kernel_rfl) (Cv_ct (Fi := []) I h (fun v H' Fo w' I' l hk hq' => by obtain ⟨r0, rfl, rfl, hK⟩ := hq'; exact hq r0 H' w' I' l hk hK) (fun _ _ _ _ _ q => q.elim))
 | c_tree_decl y => exact opK_call (f := 157) (args := [(Value.agg (cs_api_Decl y.fDecl).toArray)].toArray) (by kernel_rfl) (Cv_ct (Fi := []) I h (fun v H' Fo w' I' l hk hq' => by obtain ⟨r0, rfl, rfl, hK⟩ := hq'; exact hq r0 H' w' I' l hk hK) (fun _ _ _ _ _ q => q.elim))
 | c_tree_stmt y => exact opK_call (f := 159) (args := [(Value.agg (cs_api_Stmt y.fStmt).toArray)].toArray) (by kernel_rfl) (Cv_ct (Fi := []) I h (fun v H' Fo w' I' l hk hq' => by obtain ⟨r0, rfl, rfl, hK⟩ := hq'; exact hq r0 H' w' I' l hk hK) (fun _ _ _ _ _ q => q.elim))

end Go.Proofs.YthldnpmfelniiaaDoor
