/-
  Nodes: a list's nodes, lists put together; a node's own form, its name, its parts. Contracts off the printed formulas.
-/
import Derived.Test.YthldnpmfelniiaaDoorQ3
namespace Go.Proofs.YthldnpmfelniiaaDoor
open Go.RowKit
set_option maxRecDepth 100000
set_option maxHeartbeats 2000000

/-- a node that stands for a tree -/
def NH (H : Hp) : Itree_node → PT → Prop
  | .c_tree_decl y, t => t = dT y.fDecl
  | .c_tree_stmt y, t => SH H y.fStmt t
  | .c_tree_cond y, t => CH H y.fCond t
  | .c_tree_expr y, t => EH H y.fExpr t
  | .nil, _ => False
theorem NH.le {H H' : Hp} (l : Hle H H') {x : Itree_node} {t : PT} (h : NH H x t) : NH H' x t := by
  cases x with
  | nil => exact h
  | c_tree_decl y => exact h
  | c_tree_stmt y => exact SH.le l h
  | c_tree_cond y => exact CH.le l h
  | c_tree_expr y => exact EH.le l h
theorem flat_take {α : Type} (l : List (List α)) (i : Nat) : (l.take i).flatten.length ≤ l.flatten.length := by
  have : l.flatten = (l.take i).flatten ++ (l.drop i).flatten := by rw [← List.flatten_append, List.take_append_drop]
  rw [this, List.length_append]; omega
theorem flat_succ {α : Type} {l : List (List α)} {i : Nat} {x : List α} (h : l[i]? = some x) : (l.take (i + 1)).flatten = (l.take i).flatten ++ x := by
  rw [take_succ' h, List.flatten_append]; simp
section
variable {H : Hp}
theorem eachDecl_ok {s : Sl} {xs : List Tapi_Decl} (hs : SlH H 2 cs_api_Decl s xs) (hb : xs.length ≤ big) {K : Sl → Hp → Prop} (h : ∀ (r : Sl) (H' : Hp), Hle H H' → SlH H' 1 cs_tree_node r (xs.map fun x => Itree_node.c_tree_decl ⟨x⟩) → K r H') : C_gnomon_tree_each_gnomon_api_Decl_of_gnomon_tree_declOf s H K := by
  refine L_gnomon_tree_each_gnomon_api_Decl_of_gnomon_tree_declOf _ ?_
  unfold T_gnomon_tree_each_gnomon_api_Decl_of_gnomon_tree_declOf
  have n1 := hs.1
  refine TL_of (fun (z : List Itree_node × Int) H' => 0 ≤ z.2 ∧ z.2 ≤ xs.length ∧ H' = H ∧ z.1 = (xs.take z.2.toNat).map fun x => Itree_node.c_tree_decl ⟨x⟩) (fun z => (xs.length - z.2).toNat) ⟨Int.le_refl _, by simp, rfl, by simp⟩ ?_
  rintro ⟨l, i⟩ H1 next ⟨i0, i1, rfl, hl⟩ hn
  dsimp only at i0 i1 hl ⊢
  unfold T_gnomon_tree_each_gnomon_api_Decl_of_gnomon_tree_declOf_l2
  refine ⟨fun hc => ?_, fun hc => ?_⟩
  · obtain ⟨x, hx, hE⟩ := hs.get i0 hc
    have hlt := lt_of hx
    refine ⟨i0, hc, x, hE, L_gnomon_tree_declOf _ ?_⟩
    unfold T_gnomon_tree_declOf
    refine ⟨?_, ?_⟩
    · rw [hl, List.length_map, List.length_take]; simp only [big] at hb; simp only [List.length_cons, List.length_nil]; omega
    · rw [wrap_1 i0 (by simp only [big] at hb; omega)]
      refine hn _ _ ⟨by dsimp only; omega, by dsimp only; omega, rfl, ?_⟩ (by dsimp only; omega)
      dsimp only
      rw [show (i + 1).toNat = i.toNat + 1 by omega, take_succ' hx, List.map_append, ← hl]; rfl
  · unfold T_gnomon_tree_each_gnomon_api_Decl_of_gnomon_tree_declOf_j1
    intro ss H2 l2 hss hc2
    refine h ss H2 l2 ?_
    rw [hl, List.take_of_length_le (by omega)] at hss; exact hss
theorem eachStmt_ok {s : Sl} {xs : List Tapi_Stmt} (hs : SlH H 6 cs_api_Stmt s xs) (hb : xs.length ≤ big) {K : Sl → Hp → Prop} (h : ∀ (r : Sl) (H' : Hp), Hle H H' → SlH H' 1 cs_tree_node r (xs.map fun x => Itree_node.c_tree_stmt ⟨x⟩) → K r H') : C_gnomon_tree_each_gnomon_api_Stmt_of_gnomon_tree_stmtOf s H K := by
  refine L_gnomon_tree_each_gnomon_api_Stmt_of_gnomon_tree_stmtOf _ ?_
  unfold T_gnomon_tree_each_gnomon_api_Stmt_of_gnomon_tree_stmtOf
  have n1 := hs.1
  refine TL_of (fun (z : List Itree_node × Int) H' => 0 ≤ z.2 ∧ z.2 ≤ xs.length ∧ H' = H ∧ z.1 = (xs.take z.2.toNat).map fun x => Itree_node.c_tree_stmt ⟨x⟩) (fun z => (xs.length - z.2).toNat) ⟨Int.le_refl _, by simp, rfl, by simp⟩ ?_
  rintro ⟨l, i⟩ H1 next ⟨i0, i1, rfl, hl⟩ hn
  dsimp only at i0 i1 hl ⊢
  unfold T_gnomon_tree_each_gnomon_api_Stmt_of_gnomon_tree_stmtOf_l2
  refine ⟨fun hc => ?_, fun hc => ?_⟩
  · obtain ⟨x, hx, hE⟩ := hs.get i0 hc
    have hlt := lt_of hx
    refine ⟨i0, hc, x, hE, L_gnomon_tree_stmtOf _ ?_⟩
    unfold T_gnomon_tree_stmtOf
    refine ⟨?_, ?_⟩
    · rw [hl, List.length_map, List.length_take]; simp only [big] at hb; simp only [List.length_cons, List.length_nil]; omega
    · rw [wrap_1 i0 (by simp only [big] at hb; omega)]
      refine hn _ _ ⟨by dsimp only; omega, by dsimp only; omega, rfl, ?_⟩ (by dsimp only; omega)
      dsimp only
      rw [show (i + 1).toNat = i.toNat + 1 by omega, take_succ' hx, List.map_append, ← hl]; rfl
  · unfold T_gnomon_tree_each_gnomon_api_Stmt_of_gnomon_tree_stmtOf_j1
    intro ss H2 l2 hss hc2
    refine h ss H2 l2 ?_
    rw [hl, List.take_of_length_le (by omega)] at hss; exact hss
theorem eachCond_ok {s : Sl} {xs : List Tapi_Cond} (hs : SlH H 4 cs_api_Cond s xs) (hb : xs.length ≤ big) {K : Sl → Hp → Prop} (h : ∀ (r : Sl) (H' : Hp), Hle H H' → SlH H' 1 cs_tree_node r (xs.map fun x => Itree_node.c_tree_cond ⟨x⟩) → K r H') : C_gnomon_tree_each_gnomon_api_Cond_of_gnomon_tree_condOf s H K := by
  refine L_gnomon_tree_each_gnomon_api_Cond_of_gnomon_tree_condOf _ ?_
  unfold T_gnomon_tree_each_gnomon_api_Cond_of_gnomon_tree_condOf
  have n1 := hs.1
  refine TL_of (fun (z : List Itree_node × Int) H' => 0 ≤ z.2 ∧ z.2 ≤ xs.length ∧ H' = H ∧ z.1 = (xs.take z.2.toNat).map fun x => Itree_node.c_tree_cond ⟨x⟩) (fun z => (xs.length - z.2).toNat) ⟨Int.le_refl _, by simp, rfl, by simp⟩ ?_
  rintro ⟨l, i⟩ H1 next ⟨i0, i1, rfl, hl⟩ hn
  dsimp only at i0 i1 hl ⊢
  unfold T_gnomon_tree_each_gnomon_api_Cond_of_gnomon_tree_condOf_l2
  refine ⟨fun hc => ?_, fun hc => ?_⟩
  · obtain ⟨x, hx, hE⟩ := hs.get i0 hc
    have hlt := lt_of hx
    refine ⟨i0, hc, x, hE, L_gnomon_tree_condOf _ ?_⟩
    unfold T_gnomon_tree_condOf
    refine ⟨?_, ?_⟩
    · rw [hl, List.length_map, List.length_take]; simp only [big] at hb; simp only [List.length_cons, List.length_nil]; omega
    · rw [wrap_1 i0 (by simp only [big] at hb; omega)]
      refine hn _ _ ⟨by dsimp only; omega, by dsimp only; omega, rfl, ?_⟩ (by dsimp only; omega)
      dsimp only
      rw [show (i + 1).toNat = i.toNat + 1 by omega, take_succ' hx, List.map_append, ← hl]; rfl
  · unfold T_gnomon_tree_each_gnomon_api_Cond_of_gnomon_tree_condOf_j1
    intro ss H2 l2 hss hc2
    refine h ss H2 l2 ?_
    rw [hl, List.take_of_length_le (by omega)] at hss; exact hss
theorem eachExpr_ok {s : Sl} {xs : List Tapi_Expr} (hs : SlH H 4 cs_api_Expr s xs) (hb : xs.length ≤ big) {K : Sl → Hp → Prop} (h : ∀ (r : Sl) (H' : Hp), Hle H H' → SlH H' 1 cs_tree_node r (xs.map fun x => Itree_node.c_tree_expr ⟨x⟩) → K r H') : C_gnomon_tree_each_gnomon_api_Expr_of_gnomon_tree_exprOf s H K := by
  refine L_gnomon_tree_each_gnomon_api_Expr_of_gnomon_tree_exprOf _ ?_
  unfold T_gnomon_tree_each_gnomon_api_Expr_of_gnomon_tree_exprOf
  have n1 := hs.1
  refine TL_of (fun (z : List Itree_node × Int) H' => 0 ≤ z.2 ∧ z.2 ≤ xs.length ∧ H' = H ∧ z.1 = (xs.take z.2.toNat).map fun x => Itree_node.c_tree_expr ⟨x⟩) (fun z => (xs.length - z.2).toNat) ⟨Int.le_refl _, by simp, rfl, by simp⟩ ?_
  rintro ⟨l, i⟩ H1 next ⟨i0, i1, rfl, hl⟩ hn
  dsimp only at i0 i1 hl ⊢
  unfold T_gnomon_tree_each_gnomon_api_Expr_of_gnomon_tree_exprOf_l2
  refine ⟨fun hc => ?_, fun hc => ?_⟩
  · obtain ⟨x, hx, hE⟩ := hs.get i0 hc
    have hlt := lt_of hx
    refine ⟨i0, hc, x, hE, L_gnomon_tree_exprOf _ ?_⟩
    unfold T_gnomon_tree_exprOf
    refine ⟨?_, ?_⟩
    · rw [hl, List.length_map, List.length_take]; simp only [big] at hb; simp only [List.length_cons, List.length_nil]; omega
    · rw [wrap_1 i0 (by simp only [big] at hb; omega)]
      refine hn _ _ ⟨by dsimp only; omega, by dsimp only; omega, rfl, ?_⟩ (by dsimp only; omega)
      dsimp only
      rw [show (i + 1).toNat = i.toNat + 1 by omega, take_succ' hx, List.map_append, ← hl]; rfl
  · unfold T_gnomon_tree_each_gnomon_api_Expr_of_gnomon_tree_exprOf_j1
    intro ss H2 l2 hss hc2
    refine h ss H2 l2 ?_
    rw [hl, List.take_of_length_le (by omega)] at hss; exact hss
theorem pu_cap_97 (a : Option Addr) (n c : Nat) : Pu Tryd.prog (xBuiltin .cap #[97] 3 [false] [.slice a n c]) (.int .i64 (c : Int)) := by
  have e' : Program.elem Tryd.prog 97 = 141 := by simp [Program.elem, Tryd.underlying97]
  have : xBuiltin .cap #[97] 3 [false] [.slice a n c] = xV (Builtin.cap_ #[97] 3 #[.slice a n c]) := rfl
  rw [this]
  exact Pu.ok fun w => run_cap_slice (P := Tryd.prog) (w := w) 97 3 a n c (by rw [e']; exact Tryd.underlying97)
theorem grow_ok {n : Int} (h0 : 0 ≤ n) (hb : n * 17 ≤ 140737488355328) {K : List Itree_node → Hp → Prop} (h : K [] H) : C_slices_Grow_gnomon_tree_node_gnomon_tree_node_of_nil n H K := by
  intro w I
  refine F120_ok ?_
  unfold F120
  refine xcut_i fun j1 hx1 => ?_
  refine opK_pu (pu_lss _ _ _ _ _ _) ?_
  refine xcond_b (fun c => ?_) (fun c => ?_)
  · have := of_decide_eq_true c; omega
  refine hx1 _ _ ?_
  unfold F120_j1
  intro _
  refine xcut_i fun j2 hx2 => ?_
  refine opK_pu (pu_cap_97 _ _ _) ?_
  refine opK_pu (pu_len_97 _ _ _) ?_
  refine opK_pu (pu_sub _ _ _ _ _ _) ?_
  refine opK_pu (pu_sub _ _ _ _ _ _) ?_
  rw [show IntKind.wrap .i64 (n - IntKind.wrap .i64 (((0 : Nat) : Int) - ((0 : Nat) : Int))) = n by
    rw [show IntKind.wrap .i64 (((0 : Nat) : Int) - ((0 : Nat) : Int)) = 0 by decide, Int.sub_zero]; exact fit_wrap ⟨by omega, by omega⟩]
  refine opK_pu (pu_gtr _ _ _ _ _ _) ?_
  refine xcond_b (fun c => ?_) (fun c => ?_)
  · have hp := of_decide_eq_true c
    refine opK_pu (pu_cap_97 _ _ _) ?_
    refine opK_pu (pu_cut_h (e := 141) (sz := 1) Tryd.underlying97 Tryd.sizeOf141 (s := ⟨none, 0, 0⟩) (h := ((0 : Nat) : Int)) (by decide) (by decide)) ?_
    refine s_room (z := Value.nilIface) (bytes := 16) (kn := .i64) Tryd.underlying97 Tryd.underlying3 inf_141 (by kernel_rfl) (by kernel_rfl) (by kernel_rfl) (by kernel_rfl) (by decide) cs_tree_node_l cs_tree_node_o I hp hb fun g m F' w' hr I' => ?_
    refine opK_pu (pu_len_97 _ _ _) ?_
    refine opK_pu (pu_cut_h (e := 141) (sz := 1) Tryd.underlying97 Tryd.sizeOf141 (s := ⟨some ⟨g, 0, none⟩, n.toNat, m⟩) (h := ((0 : Nat) : Int)) (by decide) (by simp)) ?_
    refine hx2 _ _ ?_
    unfold F120_j2
    intro _
    refine ⟨H, _, I', [], ⟨some ⟨g, 0, none⟩, 0, m⟩, F', ?_, rfl, hr, h⟩
    simp [Sl.cut, Addr.add, nth]
  · refine hx2 _ _ ?_
    unfold F120_j2
    intro _
    exact ⟨H, _, I.nil, [], ⟨none, 0, 0⟩, [], rfl, rfl, RowL.nil cs_tree_node_l cs_tree_node_o, h⟩
theorem concat_ok {s : Sl} {ss : List Sl} {nss : List (List Itree_node)} (hs : SlH H 1 csl s ss) (hr : Rel2 (SlH H 1 cs_tree_node) ss nss) (hb : nss.flatten.length * 17 ≤ 140737488355328) (hss : ss.length ≤ big) {K : Sl → Hp → Prop}
    (h : ∀ (r : Sl) (H' : Hp), Hle H H' → SlH H' 1 cs_tree_node r nss.flatten → K r H') : C_slices_Concat_gnomon_tree_node_gnomon_tree_node s H K := by
  refine L_slices_Concat_gnomon_tree_node_gnomon_tree_node _ ?_
  unfold T_slices_Concat_gnomon_tree_node_gnomon_tree_node
  have n1 := hs.1; have r1 := hr.1
  refine TL_of (fun (z : Int × Int) H' => 0 ≤ z.2 ∧ z.2 ≤ ss.length ∧ H' = H ∧ z.1 = ((nss.take z.2.toNat).flatten.length : Int)) (fun z => (ss.length - z.2).toNat) ⟨Int.le_refl _, by simp, rfl, by simp⟩ ?_
  rintro ⟨q, i⟩ H1 next ⟨i0, i1, rfl, hq⟩ hn
  dsimp only at i0 i1 hq ⊢
  subst hq
  unfold T_slices_Concat_gnomon_tree_node_gnomon_tree_node_l4
  refine ⟨fun hc => ?_, fun hc => ?_⟩
  · obtain ⟨x, hx, hE⟩ := hs.get i0 hc
    obtain ⟨ns, hns, hS⟩ := hr.get hx
    have hlt := lt_of hx
    have e1 := flat_succ hns
    have e2 := flat_take nss (i.toNat + 1)
    have e3 : (nss.take (i.toNat + 1)).flatten.length = (nss.take i.toNat).flatten.length + ns.length := by rw [e1, List.length_append]
    have e4 : IntKind.wrap .i64 (((nss.take i.toNat).flatten.length : Int) + (x.n : Int)) = ((nss.take (i.toNat + 1)).flatten.length : Int) := by
      rw [fit_wrap ⟨by omega, by have := hS.1; omega⟩]
      have := hS.1; omega
    refine ⟨i0, hc, x, hE, ?_⟩
    rw [e4]
    refine ⟨fun hneg => by omega, fun _ => ?_⟩
    unfold T_slices_Concat_gnomon_tree_node_gnomon_tree_node_j5
    rw [wrap_1 i0 (by simp only [big] at hss; omega)]
    refine hn _ _ ⟨by dsimp only; omega, by dsimp only; omega, rfl, ?_⟩ (by dsimp only; omega)
    dsimp only
    rw [show (i + 1).toNat = i.toNat + 1 by omega]
  · rw [List.take_of_length_le (by omega)]
    clear hn next
    unfold T_slices_Concat_gnomon_tree_node_gnomon_tree_node_j1
    refine grow_ok (by omega) (by omega) ?_
    refine TL_of (fun (z : List Itree_node × Int) H' => 0 ≤ z.2 ∧ z.2 ≤ ss.length ∧ H' = H1 ∧ z.1 = (nss.take z.2.toNat).flatten) (fun z => (ss.length - z.2).toNat) ⟨Int.le_refl _, by simp, rfl, by simp⟩ ?_
    rintro ⟨q, j⟩ H2 next ⟨j0, j1, rfl, hq⟩ hn
    dsimp only at j0 j1 hq ⊢
    subst hq
    unfold T_slices_Concat_gnomon_tree_node_gnomon_tree_node_l3
    refine ⟨fun hc => ?_, fun hc => ?_⟩
    · obtain ⟨x, hx, hE⟩ := hs.get j0 hc
      obtain ⟨ns, hns, hS⟩ := hr.get hx
      have hlt := lt_of hx
      have e1 := flat_succ hns
      have e2 := flat_take nss (j.toNat + 1)
      have e3 : (nss.take (j.toNat + 1)).flatten.length = (nss.take j.toNat).flatten.length + ns.length := by rw [e1, List.length_append]
      refine ⟨j0, hc, x, hE, ns, hS, by omega, ?_⟩
      rw [wrap_1 j0 (by simp only [big] at hss; omega), ← e1]
      refine hn _ _ ⟨by dsimp only; omega, by dsimp only; omega, rfl, ?_⟩ (by dsimp only; omega)
      dsimp only
      rw [show (j + 1).toNat = j.toNat + 1 by omega]
    · unfold T_slices_Concat_gnomon_tree_node_gnomon_tree_node_j2
      intro r H3 l3 hS _
      rw [List.take_of_length_le (by omega)] at hS
      exact h r H3 l3 hS
/-! ## names -/
def nameL : Lab → ByteArray × Bool
  | .decl _ s => (s, true)
  | .stmt k s _ _ _ _ => (s, decide (k = 1) || decide (k = 2))
  | .cond .. => (⟨#[]⟩, false)
  | .expr k _ s _ => (s, decide (k = 2) || decide (k = 4))
theorem name_ok {x : Itree_node} {t : PT} (hx : NH H x t) {K : ByteArray → Bool → Hp → Prop} (h : K (nameL t.lab).1 (nameL t.lab).2 H) : C_gnomon_tree_name x H K := by
  refine L_gnomon_tree_name _ ?_
  unfold T_gnomon_tree_name
  cases x with
  | nil => exact hx.elim
  | c_tree_decl y =>
    cases (show t = dT y.fDecl from hx)
    exact ⟨fun _ => h, fun q => (by cases q)⟩
  | c_tree_stmt y =>
    cases (show SH H y.fStmt t from hx)
    exact ⟨fun q => (by cases q), fun _ => ⟨fun _ => h, fun q => (by cases q)⟩⟩
  | c_tree_expr y =>
    cases (show EH H y.fExpr t from hx)
    exact ⟨fun q => (by cases q), fun _ => ⟨fun q => (by cases q), fun _ => ⟨fun _ => h, fun q => (by cases q)⟩⟩⟩
  | c_tree_cond y =>
    cases (show CH H y.fCond t from hx)
    exact ⟨fun q => (by cases q), fun _ => ⟨fun q => (by cases q), fun _ => ⟨fun q => (by cases q), fun _ => h⟩⟩⟩
/-! ## forms -/
def formE (k n : Int) (s : ByteArray) (a : Int) : Bool :=
  if (((!decide (k = 1)) && (!decide (n = 0))) || ((!(decide (k = 2) || decide (k = 4))) && (!decide (s = ⟨#[]⟩)))) = true then false
  else if k = 1 then decide (0 ≤ n) && decide (a = 0)
  else if k = 2 ∨ k = 3 then decide (a = 0)
  else if k = 4 ∨ k = 5 then decide (a = 1)
  else if k = 6 ∨ k = 7 ∨ k = 8 ∨ k = 9 ∨ k = 10 then decide (a = 2) else false
def formC (k op e p : Int) : Bool :=
  if k = 3 then (decide (1 ≤ op) && decide (op ≤ 6)) && decide (e = 2 ∧ p = 0)
  else if op = 0 then
    (if k = 1 ∨ k = 2 then decide (e = 0 ∧ p = 0) else if k = 4 then decide (e = 0 ∧ p = 1) else if k = 5 ∨ k = 6 then decide (e = 0 ∧ p = 2) else false)
  else false
def formS (k : Int) (s : ByteArray) (e c t f : Int) : Bool :=
  if k = 1 then !decide (0 < t + f) && decide (e = 1 ∧ c = 0)
  else if k = 2 then !decide (0 < t + f) && decide (e = 2 ∧ c = 0)
  else if k = 3 then decide (s = ⟨#[]⟩) && decide (e = 0 ∧ c = 1)
  else if k = 4 then decide (s = ⟨#[]⟩) && decide (f = 0) && decide (e = 0 ∧ c = 1)
  else if k = 5 ∨ k = 6 then (decide (s = ⟨#[]⟩) && !decide (0 < t + f)) && decide (e = 0 ∧ c = 1)
  else if k = 7 then (decide (s = ⟨#[]⟩) && !decide (0 < t + f)) && decide (e = 0 ∧ c = 0)
  else false
def formL : Lab → Bool
  | .decl z _ => decide (0 ≤ z) && decide (z ≤ 2147483647)
  | .stmt k s e c t f => formS k s e c t f
  | .cond k op e p => formC k op e p
  | .expr k n s a => formE k n s a
theorem ite_b {α : Type} {b : Bool} {q : Prop} [Decidable q] (hb : b = true ↔ q) (x y : α) : (if b = true then x else y) = if q then x else y := by
  by_cases hq : q
  · rw [if_pos (hb.2 hq), if_pos hq]
  · rw [if_neg (fun e => hq (hb.1 e)), if_neg hq]
theorem ej3 {a : Int} {b : Bool} {x : Ttree_expr} {K : Bool → Hp → Prop} (h : K (if b = true then decide (a = 2) else false) H) : T_gnomon_tree_expr_form_j3 a b x H K := by
  unfold T_gnomon_tree_expr_form_j3
  cases b
  · exact ⟨fun q => (by cases q), fun _ => h⟩
  · exact ⟨fun _ => h, fun q => (by cases q)⟩
theorem ej2 {a k : Int} {b : Bool} {x : Ttree_expr} {K : Bool → Hp → Prop} (h : K (if b = true then decide (a = 1) else if k = 6 ∨ k = 7 ∨ k = 8 ∨ k = 9 ∨ k = 10 then decide (a = 2) else false) H) : T_gnomon_tree_expr_form_j2 a k b x H K := by
  unfold T_gnomon_tree_expr_form_j2
  cases b
  · refine ⟨fun q => (by cases q), fun _ => ?_⟩
    rw [if_neg (by decide)] at h
    refine ⟨fun e => ej3 ?_, fun e1 => ⟨fun e => ej3 ?_, fun e2 => ⟨fun e => ej3 ?_, fun e3 => ⟨fun e => ej3 ?_, fun e4 => ej3 ?_⟩⟩⟩⟩ <;>
      (rw [ite_b (q := k = 6 ∨ k = 7 ∨ k = 8 ∨ k = 9 ∨ k = 10) (by rw [decide_eq_true_eq]; omega)]; exact h)
  · exact ⟨fun _ => h, fun q => (by cases q)⟩
theorem ej1 {a k : Int} {b : Bool} {x : Ttree_expr} {K : Bool → Hp → Prop} (h : K (if b = true then decide (a = 0) else if k = 4 ∨ k = 5 then decide (a = 1) else if k = 6 ∨ k = 7 ∨ k = 8 ∨ k = 9 ∨ k = 10 then decide (a = 2) else false) H) : T_gnomon_tree_expr_form_j1 a k b x H K := by
  unfold T_gnomon_tree_expr_form_j1
  cases b
  · refine ⟨fun q => (by cases q), fun _ => ?_⟩
    rw [if_neg (by decide)] at h
    refine ⟨fun e => ej2 ?_, fun e1 => ej2 ?_⟩ <;>
      (rw [ite_b (q := k = 4 ∨ k = 5) (by rw [decide_eq_true_eq]; omega)]; exact h)
  · exact ⟨fun _ => h, fun q => (by cases q)⟩
theorem eform_ok {e : Tapi_Expr} {t : PT} (he : EH H e t) {K : Bool → Hp → Prop} (h : K (formL t.lab) H) : C_gnomon_tree_expr_form ⟨e⟩ H K := by
  refine L_gnomon_tree_expr_form _ ?_
  unfold T_gnomon_tree_expr_form
  refine name_ok (x := .c_tree_expr ⟨e⟩) (t := t) he ?_
  cases he with
  | @mk e xs ts hs hb hl hr =>
    have hn : e.fArgs.n = ts.length := by have := hs.1; omega
    change K (formE e.fKind e.fNum e.fName (ts.length : Int)) H at h
    unfold formE at h
    dsimp only [PT.lab, nameL]
    rw [hn]
    generalize (ts.length : Int) = a at h ⊢
    refine ⟨fun hg => by rw [if_pos hg] at h; exact h, fun hg => ?_⟩
    rw [if_neg (by rw [hg]; decide)] at h
    refine ⟨fun e1 => by rw [if_pos e1] at h; exact h, fun e1 => ?_⟩
    rw [if_neg e1] at h
    refine ⟨fun e2 => ej1 ?_, fun e2 => ej1 ?_⟩ <;>
      (rw [ite_b (q := e.fKind = 2 ∨ e.fKind = 3) (by rw [decide_eq_true_eq]; omega)]; exact h)
theorem cj2 {b : Bool} {y : Ttree_has} {x : Ttree_cond} {K : Bool → Hp → Prop} (h : K (if b = true then decide (y.fexprs = 0 ∧ y.fparts = 2) else false) H) : T_gnomon_tree_cond_form_j2 b y x H K := by
  unfold T_gnomon_tree_cond_form_j2
  cases b
  · exact ⟨fun q => (by cases q), fun _ => h⟩
  · exact ⟨fun _ => h, fun q => (by cases q)⟩
theorem cj1 {k : Int} {b : Bool} {y : Ttree_has} {x : Ttree_cond} {K : Bool → Hp → Prop} (h : K (if b = true then decide (y.fexprs = 0 ∧ y.fparts = 0) else if k = 4 then decide (y.fexprs = 0 ∧ y.fparts = 1) else if k = 5 ∨ k = 6 then decide (y.fexprs = 0 ∧ y.fparts = 2) else false) H) : T_gnomon_tree_cond_form_j1 k b y x H K := by
  unfold T_gnomon_tree_cond_form_j1
  cases b
  · refine ⟨fun q => (by cases q), fun _ => ?_⟩
    rw [if_neg (by decide)] at h
    refine ⟨fun e => by rw [if_pos e] at h; exact h, fun e => ?_⟩
    rw [if_neg e] at h
    refine ⟨fun e2 => cj2 ?_, fun e2 => cj2 ?_⟩ <;>
      (rw [ite_b (q := k = 5 ∨ k = 6) (by rw [decide_eq_true_eq]; omega)]; exact h)
  · exact ⟨fun _ => h, fun q => (by cases q)⟩
theorem cform_ok {e : Tapi_Cond} {t : PT} (he : CH H e t) {K : Bool → Hp → Prop} (h : K (formL t.lab) H) : C_gnomon_tree_cond_form ⟨e⟩ H K := by
  refine L_gnomon_tree_cond_form _ ?_
  unfold T_gnomon_tree_cond_form
  cases he with
  | @mk e xs ts ys us hs hb hr hc hcb hcl hcr =>
    have hn : e.fExprs.n = ts.length := by have := hs.1; have := hr.1; omega
    have hm : e.fParts.n = us.length := by have := hc.1; omega
    change K (formC e.fKind e.fOp (ts.length : Int) (us.length : Int)) H at h
    unfold formC at h
    dsimp only
    rw [hn, hm]
    generalize (ts.length : Int) = a at h ⊢
    generalize (us.length : Int) = b at h ⊢
    refine ⟨fun e1 => by rw [if_pos e1] at h; exact h, fun e1 => ?_⟩
    rw [if_neg e1] at h
    refine ⟨fun e2 => by rw [if_neg e2] at h; exact h, fun e2 => ?_⟩
    rw [if_pos e2] at h
    refine ⟨fun e3 => cj1 ?_, fun e3 => cj1 ?_⟩ <;>
      (rw [ite_b (q := e.fKind = 1 ∨ e.fKind = 2) (by rw [decide_eq_true_eq]; omega)]; exact h)
theorem sj1 {v : Bool} {k : Int} {b : Bool} {y : Ttree_has_213} {x : Ttree_stmt} {K : Bool → Hp → Prop} (h : K (if b = true then v && decide (y.fexprs = 0 ∧ y.fconds = 1) else if k = 7 then v && decide (y.fexprs = 0 ∧ y.fconds = 0) else false) H) : T_gnomon_tree_stmt_form_j1 v k b y x H K := by
  unfold T_gnomon_tree_stmt_form_j1
  cases b
  · refine ⟨fun q => (by cases q), fun _ => ?_⟩
    rw [if_neg (by decide)] at h
    exact ⟨fun e => by rw [if_pos e] at h; exact h, fun e => by rw [if_neg e] at h; exact h⟩
  · exact ⟨fun _ => h, fun q => (by cases q)⟩
theorem sform_ok {e : Tapi_Stmt} {t : PT} (he : SH H e t) {K : Bool → Hp → Prop} (h : K (formL t.lab) H) : C_gnomon_tree_stmt_form ⟨e⟩ H K := by
  refine L_gnomon_tree_stmt_form _ ?_
  unfold T_gnomon_tree_stmt_form
  cases he with
  | @mk e xs ts ys us zs bs vs ws hs hb hr hc hcb hcr ha hab hal har hbs hbb hbl hbr =>
    have n1 : e.fExprs.n = ts.length := by have := hs.1; have := hr.1; omega
    have n2 : e.fConds.n = us.length := by have := hc.1; have := hcr.1; omega
    have n3 : e.fThen.n = vs.length := by have := ha.1; omega
    have n4 : e.fElse.n = ws.length := by have := hbs.1; omega
    change K (formS e.fKind e.fName (ts.length : Int) (us.length : Int) (vs.length : Int) (ws.length : Int)) H at h
    unfold formS at h
    dsimp only
    rw [n1, n2, n3, n4, fit_wrap (a := (vs.length : Int) + (ws.length : Int)) ⟨by omega, by simp only [big] at hab hbb; omega⟩]
    generalize (ts.length : Int) = a at h ⊢
    generalize (us.length : Int) = b at h ⊢
    generalize (vs.length : Int) = c at h ⊢
    generalize (ws.length : Int) = d at h ⊢
    refine ⟨fun e1 => by rw [if_pos e1] at h; exact h, fun e1 => ?_⟩
    rw [if_neg e1] at h
    refine ⟨fun e1 => by rw [if_pos e1] at h; exact h, fun e2 => ?_⟩
    rw [if_neg e2] at h
    refine ⟨fun e1 => by rw [if_pos e1] at h; exact h, fun e3 => ?_⟩
    rw [if_neg e3] at h
    refine ⟨fun e1 => by rw [if_pos e1] at h; exact h, fun e4 => ?_⟩
    rw [if_neg e4] at h
    refine ⟨fun e5 => sj1 ?_, fun e5 => sj1 ?_⟩ <;>
      (rw [ite_b (q := e.fKind = 5 ∨ e.fKind = 6) (by rw [decide_eq_true_eq]; omega)]; exact h)
theorem form_ok {x : Itree_node} {t : PT} (hx : NH H x t) {K : Bool → Hp → Prop} (h : K (formL t.lab) H) : C_inv_tree_node_form x H K := by
  cases x with
  | nil => exact hx.elim
  | c_tree_expr y => exact eform_ok hx h
  | c_tree_cond y => exact cform_ok hx h
  | c_tree_stmt y => exact sform_ok hx h
  | c_tree_decl y =>
    cases (show t = dT y.fDecl from hx)
    refine L_gnomon_tree_decl_form _ ?_
    unfold T_gnomon_tree_decl_form
    exact h
/-! ## parts -/
theorem parts_ok {x : Itree_node} {t : PT} (hx : NH H x t) {K : Sl → Hp → Prop} (h : ∀ (r : Sl) (H' : Hp) (ns : List Itree_node), Hle H H' → SlH H' 1 cs_tree_node r ns → Rel2 (NH H') ns t.kids → t.kids.length ≤ 4 * big → K r H') : C_inv_tree_node_parts x H K := by
  cases x with
  | nil => exact hx.elim
  | c_tree_decl y =>
    cases (show t = dT y.fDecl from hx)
    refine L_gnomon_tree_decl_parts _ ?_
    unfold T_gnomon_tree_decl_parts
    exact h _ _ [] (Hle.refl _) (SlH.nil _ _ _) Rel2.nil (Nat.zero_le _)
  | c_tree_expr y =>
    have hx : EH H y.fExpr t := hx
    refine L_gnomon_tree_expr_parts _ ?_
    unfold T_gnomon_tree_expr_parts
    obtain ⟨e⟩ := y
    cases hx with
    | @mk e xs ts hs hb hl hr =>
      refine eachExpr_ok hs hb fun r H' l hS => h r H' _ l hS ?_ ?_
      · exact Rel2.map ⟨hl, fun i a b ha hb => EH.le l (hr i a b ha hb)⟩
      · show ts.length ≤ _; omega
  | c_tree_cond y =>
    have hx : CH H y.fCond t := hx
    refine L_gnomon_tree_cond_parts _ ?_
    unfold T_gnomon_tree_cond_parts
    obtain ⟨e⟩ := y
    cases hx with
    | @mk e xs ts ys us hs hb hr hc hcb hcl hcr =>
      refine eachExpr_ok hs hb fun r1 H1 l1 hS1 => ?_
      refine eachCond_ok (hc.le l1) hcb fun r2 H2 l2 hS2 => ?_
      intro s H3 l3 hS hcap
      have r0 := hr.1
      refine concat_ok hS (nss := [_, _]) ((Rel2.one (hS1.le (l2.trans l3))).app (Rel2.one (hS2.le l3))) ?_ (by simp [big]) fun r H4 l4 hS4 => ?_
      · simp only [List.flatten_cons, List.flatten_nil, List.append_nil, List.length_append, List.length_map]; simp only [big] at hb hcb; omega
      simp only [List.flatten_cons, List.flatten_nil, List.append_nil] at hS4
      have l14 := l1.trans (l2.trans (l3.trans l4))
      refine h r H4 _ l14 hS4 ?_ ?_
      · exact (Rel2.map (R := NH H4) (f := fun x => .c_tree_expr ⟨x⟩) (hr.mono fun _ _ => EH.le l14)).app (Rel2.map (R := NH H4) (f := fun x => .c_tree_cond ⟨x⟩) ⟨hcl, fun i a b ha hb => CH.le l14 (hcr i a b ha hb)⟩)
      · show (ts ++ us).length ≤ _; rw [List.length_append]; omega
  | c_tree_stmt y =>
    have hx : SH H y.fStmt t := hx
    refine L_gnomon_tree_stmt_parts _ ?_
    unfold T_gnomon_tree_stmt_parts
    obtain ⟨e⟩ := y
    cases hx with
    | @mk e xs ts ys us zs bs vs ws hs hb hr hc hcb hcr ha hab hal har hbs hbb hbl hbr =>
      refine eachCond_ok hc hcb fun r1 H1 l1 hS1 => ?_
      refine eachExpr_ok (hs.le l1) hb fun r2 H2 l2 hS2 => ?_
      refine eachStmt_ok (ha.le (l1.trans l2)) hab fun r3 H3 l3 hS3 => ?_
      refine eachStmt_ok (hbs.le (l1.trans (l2.trans l3))) hbb fun r4 H4 l4 hS4 => ?_
      intro s H5 l5 hS hcap
      have r0 := hr.1
      have r0' := hcr.1
      refine concat_ok hS (nss := [_, _, _, _]) ((Rel2.one (hS1.le (l2.trans (l3.trans (l4.trans l5))))).app ((Rel2.one (hS2.le (l3.trans (l4.trans l5)))).app ((Rel2.one (hS3.le (l4.trans l5))).app (Rel2.one (hS4.le l5))))) ?_ (by simp [big]) fun r H6 l6 hS6 => ?_
      · simp only [List.flatten_cons, List.flatten_nil, List.append_nil, List.length_append, List.length_map]; simp only [big] at hb hcb hab hbb; omega
      simp only [List.flatten_cons, List.flatten_nil, List.append_nil] at hS6
      have l16 := l1.trans (l2.trans (l3.trans (l4.trans (l5.trans l6))))
      refine h r H6 _ l16 hS6 ?_ ?_
      · exact (Rel2.map (R := NH H6) (f := fun x => .c_tree_cond ⟨x⟩) (hcr.mono fun _ _ => CH.le l16)).app ((Rel2.map (R := NH H6) (f := fun x => .c_tree_expr ⟨x⟩) (hr.mono fun _ _ => EH.le l16)).app ((Rel2.map (R := NH H6) (f := fun x => .c_tree_stmt ⟨x⟩) ⟨hal, fun i a b ha hb => SH.le l16 (har i a b ha hb)⟩).app (Rel2.map (R := NH H6) (f := fun x => .c_tree_stmt ⟨x⟩) ⟨hbl, fun i a b ha hb => SH.le l16 (hbr i a b ha hb)⟩)))
      · show (us ++ (ts ++ (vs ++ ws))).length ≤ _; simp only [List.length_append]; omega
end
end Go.Proofs.YthldnpmfelniiaaDoor
