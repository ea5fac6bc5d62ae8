/-
  Trees: plain ones, how they lie in the frozen heap; whether two are the same, by the program and by the document. Contracts off the printed formulas.
-/
import Derived.Test.YthldnpmfelniiaaDoorB
import Derived.Test.YthldnpmfelniiaaDoorV1a
import Derived.Test.YthldnpmfelniiaaDoorV1b
import Derived.Test.YthldnpmfelniiaaDoorV1c
import Derived.Test.YthldnpmfelniiaaDoorV1d
namespace Go.Proofs.YthldnpmfelniiaaDoor
open Go.RowKit
set_option maxRecDepth 100000
set_option maxHeartbeats 2000000

/-- a node's own -/
inductive Lab where
  | decl (size : Int) (name : ByteArray)
  | stmt (kind : Int) (name : ByteArray) (e c t f : Nat)
  | cond (kind op : Int) (e p : Nat)
  | expr (kind num : Int) (name : ByteArray) (n : Nat)
inductive PT where
  | mk (l : Lab) (cs : List PT)
def PT.lab : PT → Lab | .mk l _ => l
def PT.kids : PT → List PT | .mk _ cs => cs
theorem PT.eta (t : PT) : PT.mk t.lab t.kids = t := by cases t; rfl
abbrev big : Nat := 1099511627776
inductive EH (H : Hp) : Tapi_Expr → PT → Prop
  | mk {e : Tapi_Expr} {xs : List Tapi_Expr} {ts : List PT} : SlH H 4 cs_api_Expr e.fArgs xs → xs.length ≤ big → xs.length = ts.length → (∀ (i : Nat) (x : Tapi_Expr) (t : PT), xs[i]? = some x → ts[i]? = some t → EH H x t) → EH H e (.mk (.expr e.fKind e.fNum e.fName ts.length) ts)
inductive CH (H : Hp) : Tapi_Cond → PT → Prop
  | mk {c : Tapi_Cond} {xs : List Tapi_Expr} {ts : List PT} {ys : List Tapi_Cond} {us : List PT} : SlH H 4 cs_api_Expr c.fExprs xs → xs.length ≤ big → Rel2 (EH H) xs ts → SlH H 4 cs_api_Cond c.fParts ys → ys.length ≤ big → ys.length = us.length → (∀ (i : Nat) (x : Tapi_Cond) (t : PT), ys[i]? = some x → us[i]? = some t → CH H x t) → CH H c (.mk (.cond c.fKind c.fOp ts.length us.length) (ts ++ us))
inductive SH (H : Hp) : Tapi_Stmt → PT → Prop
  | mk {s : Tapi_Stmt} {xs : List Tapi_Expr} {ts : List PT} {ys : List Tapi_Cond} {us : List PT} {zs bs : List Tapi_Stmt} {vs ws : List PT} : SlH H 4 cs_api_Expr s.fExprs xs → xs.length ≤ big → Rel2 (EH H) xs ts → SlH H 4 cs_api_Cond s.fConds ys → ys.length ≤ big → Rel2 (CH H) ys us →
      SlH H 6 cs_api_Stmt s.fThen zs → zs.length ≤ big → zs.length = vs.length → (∀ (i : Nat) (x : Tapi_Stmt) (t : PT), zs[i]? = some x → vs[i]? = some t → SH H x t) →
      SlH H 6 cs_api_Stmt s.fElse bs → bs.length ≤ big → bs.length = ws.length → (∀ (i : Nat) (x : Tapi_Stmt) (t : PT), bs[i]? = some x → ws[i]? = some t → SH H x t) →
      SH H s (.mk (.stmt s.fKind s.fName ts.length us.length vs.length ws.length) (us ++ (ts ++ (vs ++ ws))))
theorem EH.le {H H' : Hp} (l : Hle H H') {e : Tapi_Expr} {t : PT} (h : EH H e t) : EH H' e t := by
  induction h with
  | mk hs hb hl _ ih => exact .mk (hs.le l) hb hl ih
theorem CH.le {H H' : Hp} (l : Hle H H') {e : Tapi_Cond} {t : PT} (h : CH H e t) : CH H' e t := by
  induction h with
  | mk hs hb hr hy hc hl _ ih => exact .mk (hs.le l) hb (hr.mono fun _ _ => EH.le l) (hy.le l) hc hl ih
theorem SH.le {H H' : Hp} (l : Hle H H') {e : Tapi_Stmt} {t : PT} (h : SH H e t) : SH H' e t := by
  induction h with
  | mk hs hb hr hy hc hrc ha hab hal _ hbs hbb hbl _ ih1 ih2 => exact .mk (hs.le l) hb (hr.mono fun _ _ => EH.le l) (hy.le l) hc (hrc.mono fun _ _ => CH.le l) (ha.le l) hab hal ih1 (hbs.le l) hbb hbl ih2
/-- a program's plain form -/
structure PP where
  decls : List Tapi_Decl
  body : List PT
structure PH (H : Hp) (p : Tapi_Prog) (q : PP) : Prop where
  d : SlH H 2 cs_api_Decl p.fDecls q.decls
  bd : q.decls.length ≤ big
  b : ∃ xs, SlH H 6 cs_api_Stmt p.fBody xs ∧ xs.length ≤ big ∧ Rel2 (SH H) xs q.body
theorem PH.le {H H' : Hp} {p : Tapi_Prog} {q : PP} (h : PH H p q) (l : Hle H H') : PH H' p q := by
  obtain ⟨a, b, xs, c, d, e⟩ := h
  exact ⟨a.le l, b, xs, c.le l, d, e.mono fun _ _ => SH.le l⟩
open Classical in
noncomputable def eqT (a b : PT) : Bool := decide (a = b)
open Classical in
noncomputable def eqTs (a b : List PT) : Bool := decide (a = b)
theorem eqT_iff {a b : PT} : eqT a b = true ↔ a = b := by unfold eqT; simp
theorem eqTs_iff {a b : List PT} : eqTs a b = true ↔ a = b := by unfold eqTs; simp
theorem eqT_no {a b : PT} : eqT a b = false ↔ a ≠ b := by unfold eqT; simp
theorem eqTs_no {a b : List PT} : eqTs a b = false ↔ a ≠ b := by unfold eqTs; simp
theorem eqTs_len {a b : List PT} (h : a.length ≠ b.length) : eqTs a b = false := eqTs_no.2 fun e => h (by rw [e])
theorem eqTs_at {a b : List PT} {i : Nat} {x y : PT} (ha : a[i]? = some x) (hb : b[i]? = some y) (h : eqT x y = false) : eqTs a b = false := eqTs_no.2 fun e => by
  rw [e, hb] at ha; cases ha; exact eqT_no.1 h rfl
theorem eqTs_all {a b : List PT} (hl : a.length = b.length) (h : ∀ (i : Nat) (x y : PT), a[i]? = some x → b[i]? = some y → eqT x y = true) : eqTs a b = true := eqTs_iff.2 (list_eq hl fun i x y ha hb => eqT_iff.1 (h i x y ha hb))
theorem eqT_expr {k n : Int} {s : ByteArray} {ts : List PT} {k' n' : Int} {s' : ByteArray} {ts' : List PT} : eqT (.mk (.expr k n s ts.length) ts) (.mk (.expr k' n' s' ts'.length) ts') = (decide (k = k') && decide (n = n') && decide (s = s') && eqTs ts ts') := by
  rw [Bool.eq_iff_iff, eqT_iff]
  simp only [Bool.and_eq_true, decide_eq_true_eq, eqTs_iff, PT.mk.injEq, Lab.expr.injEq]
  constructor
  · rintro ⟨⟨rfl, rfl, rfl, _⟩, rfl⟩; exact ⟨⟨⟨rfl, rfl⟩, rfl⟩, rfl⟩
  · rintro ⟨⟨⟨rfl, rfl⟩, rfl⟩, rfl⟩; exact ⟨⟨rfl, rfl, rfl, rfl⟩, rfl⟩
theorem eqT_cond {k n : Int} {ts us : List PT} {k' n' : Int} {ts' us' : List PT} : eqT (.mk (.cond k n ts.length us.length) (ts ++ us)) (.mk (.cond k' n' ts'.length us'.length) (ts' ++ us')) = (decide (k = k') && decide (n = n') && eqTs ts ts' && eqTs us us') := by
  rw [Bool.eq_iff_iff, eqT_iff]
  simp only [Bool.and_eq_true, decide_eq_true_eq, eqTs_iff, PT.mk.injEq, Lab.cond.injEq]
  constructor
  · rintro ⟨⟨rfl, rfl, h1, h2⟩, h⟩
    obtain ⟨rfl, rfl⟩ := List.append_inj h h1
    exact ⟨⟨⟨rfl, rfl⟩, rfl⟩, rfl⟩
  · rintro ⟨⟨⟨rfl, rfl⟩, rfl⟩, rfl⟩; exact ⟨⟨rfl, rfl, rfl, rfl⟩, rfl⟩
theorem eqT_stmt {k : Int} {s : ByteArray} {ts us vs ws : List PT} {k' : Int} {s' : ByteArray} {ts' us' vs' ws' : List PT} : eqT (.mk (.stmt k s ts.length us.length vs.length ws.length) (us ++ (ts ++ (vs ++ ws)))) (.mk (.stmt k' s' ts'.length us'.length vs'.length ws'.length) (us' ++ (ts' ++ (vs' ++ ws')))) = (decide (k = k') && decide (s = s') && eqTs ts ts' && eqTs us us' && eqTs vs vs' && eqTs ws ws') := by
  rw [Bool.eq_iff_iff, eqT_iff]
  simp only [Bool.and_eq_true, decide_eq_true_eq, eqTs_iff, PT.mk.injEq, Lab.stmt.injEq]
  constructor
  · rintro ⟨⟨rfl, rfl, h1, h2, h3, h4⟩, h⟩
    obtain ⟨e1, h5⟩ := List.append_inj h h2
    obtain ⟨e2, h6⟩ := List.append_inj h5 h1
    obtain ⟨e3, e4⟩ := List.append_inj h6 h3
    subst e1; subst e2; subst e3; subst e4
    exact ⟨⟨⟨⟨⟨rfl, rfl⟩, rfl⟩, rfl⟩, rfl⟩, rfl⟩
  · rintro ⟨⟨⟨⟨⟨rfl, rfl⟩, rfl⟩, rfl⟩, rfl⟩, rfl⟩; exact ⟨⟨rfl, rfl, rfl, rfl, rfl, rfl⟩, rfl⟩
section
variable {H : Hp}

theorem eqfExpr_ok {sx sy : Sl} {xs ys : List Tapi_Expr} {ts us : List PT} (hx : SlH H 4 cs_api_Expr sx xs) (hy : SlH H 4 cs_api_Expr sy ys) (hb : xs.length ≤ big) (hl : xs.length = ts.length) (hl' : ys.length = us.length)
    (ih : ∀ (i : Nat) (x y : Tapi_Expr) (t u : PT), xs[i]? = some x → ys[i]? = some y → ts[i]? = some t → us[i]? = some u → ∀ K : Bool → Hp → Prop, K (eqT t u) H → C_gnomon_tree_sameExpr x y H K) {K : Bool → Hp → Prop} (h : K (eqTs ts us) H) : C_slices_EqualFunc_gnomon_api_Expr_gnomon_api_Expr_gnomon_api_Expr_gnomon_api_Expr_of_gnomon_tree_sameExpr sx sy H K := by
  refine L_slices_EqualFunc_gnomon_api_Expr_gnomon_api_Expr_gnomon_api_Expr_gnomon_api_Expr_of_gnomon_tree_sameExpr _ _ ?_
  unfold T_slices_EqualFunc_gnomon_api_Expr_gnomon_api_Expr_gnomon_api_Expr_gnomon_api_Expr_of_gnomon_tree_sameExpr
  have n1 := hx.1; have n2 := hy.1
  refine ⟨fun hne => ?_, fun he => ?_⟩
  · rw [eqTs_len (by omega)] at h; exact h
  refine TL_of (fun (i : Int) H' => 0 ≤ i ∧ i ≤ xs.length ∧ H' = H ∧ ∀ (j : Nat) (t u : PT), (j : Int) < i → ts[j]? = some t → us[j]? = some u → eqT t u = true) (fun i => (xs.length - i).toNat) ⟨by omega, by omega, rfl, fun j t u hj => by omega⟩ ?_
  rintro i H1 next ⟨i0, i1, rfl, hi⟩ hn
  unfold T_slices_EqualFunc_gnomon_api_Expr_gnomon_api_Expr_gnomon_api_Expr_gnomon_api_Expr_of_gnomon_tree_sameExpr_l2
  refine ⟨fun hc => ?_, fun hc => ?_⟩
  · obtain ⟨x, hxi, hE⟩ := hx.get i0 hc
    obtain ⟨y, hyi, hF⟩ := hy.get i0 (show i < (sy.n : Int) by omega)
    obtain ⟨t, ht⟩ := some_of (l := ts) (i := i.toNat) (by have := lt_of hxi; omega)
    obtain ⟨u, hu⟩ := some_of (l := us) (i := i.toNat) (by have := lt_of hyi; omega)
    refine ⟨i0, hc, x, hE, i0, by omega, y, hF, ih _ x y t u hxi hyi ht hu _ ⟨fun hq => ?_, fun hq => ?_⟩⟩
    · have : eqT t u = false := by simpa using hq
      rw [eqTs_at ht hu this] at h; exact h
    · have he' : eqT t u = true := by simpa using hq
      rw [wrap_1 i0 (by simp only [big] at hb; omega)]
      refine hn _ _ ⟨by omega, by omega, rfl, fun j t' u' hj ht' hu' => ?_⟩ (by omega)
      by_cases ej : j = i.toNat
      · subst ej
        rw [ht] at ht'; cases ht'
        rw [hu] at hu'; cases hu'
        exact he'
      · exact hi j t' u' (by omega) ht' hu'
  · have : eqTs ts us = true := eqTs_all (by omega) fun j t u ht hu => hi j t u (by have := lt_of ht; omega) ht hu
    rw [this] at h; exact h
theorem eqfCond_ok {sx sy : Sl} {xs ys : List Tapi_Cond} {ts us : List PT} (hx : SlH H 4 cs_api_Cond sx xs) (hy : SlH H 4 cs_api_Cond sy ys) (hb : xs.length ≤ big) (hl : xs.length = ts.length) (hl' : ys.length = us.length)
    (ih : ∀ (i : Nat) (x y : Tapi_Cond) (t u : PT), xs[i]? = some x → ys[i]? = some y → ts[i]? = some t → us[i]? = some u → ∀ K : Bool → Hp → Prop, K (eqT t u) H → C_gnomon_tree_sameCond x y H K) {K : Bool → Hp → Prop} (h : K (eqTs ts us) H) : C_slices_EqualFunc_gnomon_api_Cond_gnomon_api_Cond_gnomon_api_Cond_gnomon_api_Cond_of_gnomon_tree_sameCond sx sy H K := by
  refine L_slices_EqualFunc_gnomon_api_Cond_gnomon_api_Cond_gnomon_api_Cond_gnomon_api_Cond_of_gnomon_tree_sameCond _ _ ?_
  unfold T_slices_EqualFunc_gnomon_api_Cond_gnomon_api_Cond_gnomon_api_Cond_gnomon_api_Cond_of_gnomon_tree_sameCond
  have n1 := hx.1; have n2 := hy.1
  refine ⟨fun hne => ?_, fun he => ?_⟩
  · rw [eqTs_len (by omega)] at h; exact h
  refine TL_of (fun (i : Int) H' => 0 ≤ i ∧ i ≤ xs.length ∧ H' = H ∧ ∀ (j : Nat) (t u : PT), (j : Int) < i → ts[j]? = some t → us[j]? = some u → eqT t u = true) (fun i => (xs.length - i).toNat) ⟨by omega, by omega, rfl, fun j t u hj => by omega⟩ ?_
  rintro i H1 next ⟨i0, i1, rfl, hi⟩ hn
  unfold T_slices_EqualFunc_gnomon_api_Cond_gnomon_api_Cond_gnomon_api_Cond_gnomon_api_Cond_of_gnomon_tree_sameCond_l2
  refine ⟨fun hc => ?_, fun hc => ?_⟩
  · obtain ⟨x, hxi, hE⟩ := hx.get i0 hc
    obtain ⟨y, hyi, hF⟩ := hy.get i0 (show i < (sy.n : Int) by omega)
    obtain ⟨t, ht⟩ := some_of (l := ts) (i := i.toNat) (by have := lt_of hxi; omega)
    obtain ⟨u, hu⟩ := some_of (l := us) (i := i.toNat) (by have := lt_of hyi; omega)
    refine ⟨i0, hc, x, hE, i0, by omega, y, hF, ih _ x y t u hxi hyi ht hu _ ⟨fun hq => ?_, fun hq => ?_⟩⟩
    · have : eqT t u = false := by simpa using hq
      rw [eqTs_at ht hu this] at h; exact h
    · have he' : eqT t u = true := by simpa using hq
      rw [wrap_1 i0 (by simp only [big] at hb; omega)]
      refine hn _ _ ⟨by omega, by omega, rfl, fun j t' u' hj ht' hu' => ?_⟩ (by omega)
      by_cases ej : j = i.toNat
      · subst ej
        rw [ht] at ht'; cases ht'
        rw [hu] at hu'; cases hu'
        exact he'
      · exact hi j t' u' (by omega) ht' hu'
  · have : eqTs ts us = true := eqTs_all (by omega) fun j t u ht hu => hi j t u (by have := lt_of ht; omega) ht hu
    rw [this] at h; exact h
theorem eqfStmt_ok {sx sy : Sl} {xs ys : List Tapi_Stmt} {ts us : List PT} (hx : SlH H 6 cs_api_Stmt sx xs) (hy : SlH H 6 cs_api_Stmt sy ys) (hb : xs.length ≤ big) (hl : xs.length = ts.length) (hl' : ys.length = us.length)
    (ih : ∀ (i : Nat) (x y : Tapi_Stmt) (t u : PT), xs[i]? = some x → ys[i]? = some y → ts[i]? = some t → us[i]? = some u → ∀ K : Bool → Hp → Prop, K (eqT t u) H → C_gnomon_tree_sameStmt x y H K) {K : Bool → Hp → Prop} (h : K (eqTs ts us) H) : C_slices_EqualFunc_gnomon_api_Stmt_gnomon_api_Stmt_gnomon_api_Stmt_gnomon_api_Stmt_of_gnomon_tree_sameStmt sx sy H K := by
  refine L_slices_EqualFunc_gnomon_api_Stmt_gnomon_api_Stmt_gnomon_api_Stmt_gnomon_api_Stmt_of_gnomon_tree_sameStmt _ _ ?_
  unfold T_slices_EqualFunc_gnomon_api_Stmt_gnomon_api_Stmt_gnomon_api_Stmt_gnomon_api_Stmt_of_gnomon_tree_sameStmt
  have n1 := hx.1; have n2 := hy.1
  refine ⟨fun hne => ?_, fun he => ?_⟩
  · rw [eqTs_len (by omega)] at h; exact h
  refine TL_of (fun (i : Int) H' => 0 ≤ i ∧ i ≤ xs.length ∧ H' = H ∧ ∀ (j : Nat) (t u : PT), (j : Int) < i → ts[j]? = some t → us[j]? = some u → eqT t u = true) (fun i => (xs.length - i).toNat) ⟨by omega, by omega, rfl, fun j t u hj => by omega⟩ ?_
  rintro i H1 next ⟨i0, i1, rfl, hi⟩ hn
  unfold T_slices_EqualFunc_gnomon_api_Stmt_gnomon_api_Stmt_gnomon_api_Stmt_gnomon_api_Stmt_of_gnomon_tree_sameStmt_l2
  refine ⟨fun hc => ?_, fun hc => ?_⟩
  · obtain ⟨x, hxi, hE⟩ := hx.get i0 hc
    obtain ⟨y, hyi, hF⟩ := hy.get i0 (show i < (sy.n : Int) by omega)
    obtain ⟨t, ht⟩ := some_of (l := ts) (i := i.toNat) (by have := lt_of hxi; omega)
    obtain ⟨u, hu⟩ := some_of (l := us) (i := i.toNat) (by have := lt_of hyi; omega)
    refine ⟨i0, hc, x, hE, i0, by omega, y, hF, ih _ x y t u hxi hyi ht hu _ ⟨fun hq => ?_, fun hq => ?_⟩⟩
    · have : eqT t u = false := by simpa using hq
      rw [eqTs_at ht hu this] at h; exact h
    · have he' : eqT t u = true := by simpa using hq
      rw [wrap_1 i0 (by simp only [big] at hb; omega)]
      refine hn _ _ ⟨by omega, by omega, rfl, fun j t' u' hj ht' hu' => ?_⟩ (by omega)
      by_cases ej : j = i.toNat
      · subst ej
        rw [ht] at ht'; cases ht'
        rw [hu] at hu'; cases hu'
        exact he'
      · exact hi j t' u' (by omega) ht' hu'
  · have : eqTs ts us = true := eqTs_all (by omega) fun j t u ht hu => hi j t u (by have := lt_of ht; omega) ht hu
    rw [this] at h; exact h
theorem sameExpr_ok {e e' : Tapi_Expr} {t t' : PT} (he : EH H e t) (he' : EH H e' t') {K : Bool → Hp → Prop} (h : K (eqT t t') H) : C_gnomon_tree_sameExpr e e' H K := by
  induction he generalizing e' t' K with
  | @mk e xs ts hs hb hl _ ih =>
    cases he' with
    | @mk _ xs' ts' hs' hb' hl' hr' =>
      refine L_gnomon_tree_sameExpr _ _ ?_
      unfold T_gnomon_tree_sameExpr
      refine TG_if (eqTs ts ts') (fun _ K' hk => eqfExpr_ok hs hs' hb hl hl' (fun i x y t u hx hy ht hu K hK => ih i x t hx ht (hr' i y u hy hu) hK) hk) ?_
      rw [eqT_expr] at h
      generalize (decide (e.fKind = e'.fKind) && decide (e.fNum = e'.fNum) && decide (e.fName = e'.fName)) = q at h ⊢
      generalize eqTs ts ts' = a at h ⊢
      cases q <;> cases a <;> exact h
theorem sameCond_ok {e e' : Tapi_Cond} {t t' : PT} (he : CH H e t) (he' : CH H e' t') {K : Bool → Hp → Prop} (h : K (eqT t t') H) : C_gnomon_tree_sameCond e e' H K := by
  induction he generalizing e' t' K with
  | @mk e xs ts ys us hs hb hr hc hcb hcl _ ih =>
    cases he' with
    | @mk _ xs' ts' ys' us' hs' hb' hr' hc' hcb' hcl' hcr' =>
      refine L_gnomon_tree_sameCond _ _ ?_
      unfold T_gnomon_tree_sameCond
      refine TG_if (eqTs ts ts') (fun _ K' hk => eqfExpr_ok hs hs' hb hr.1 hr'.1 (fun i x y t u hx hy ht hu K hK => sameExpr_ok (hr.2 i x t hx ht) (hr'.2 i y u hy hu) hK) hk) ?_
      refine TG_if (eqTs us us') (fun _ K' hk => eqfCond_ok hc hc' hcb hcl hcl' (fun i x y t u hx hy ht hu K hK => ih i x t hx ht (hcr' i y u hy hu) hK) hk) ?_
      rw [eqT_cond] at h
      generalize (decide (e.fKind = e'.fKind) && decide (e.fOp = e'.fOp)) = q at h ⊢
      generalize eqTs ts ts' = a at h ⊢
      generalize eqTs us us' = b at h ⊢
      cases q <;> cases a <;> cases b <;> exact h
theorem sameStmt_ok {e e' : Tapi_Stmt} {t t' : PT} (he : SH H e t) (he' : SH H e' t') {K : Bool → Hp → Prop} (h : K (eqT t t') H) : C_gnomon_tree_sameStmt e e' H K := by
  induction he generalizing e' t' K with
  | @mk e xs ts ys us zs bs vs ws hs hb hr hc hcb hcr ha hab hal _ hbs hbb hbl _ iha ihb =>
    cases he' with
    | @mk _ xs' ts' ys' us' zs' bs' vs' ws' hs' hb' hr' hc' hcb' hcr' ha' hab' hal' har' hbs' hbb' hbl' hbr' =>
      refine L_gnomon_tree_sameStmt _ _ ?_
      unfold T_gnomon_tree_sameStmt
      refine TG_if (eqTs ts ts') (fun _ K' hk => eqfExpr_ok hs hs' hb hr.1 hr'.1 (fun i x y t u hx hy ht hu K hK => sameExpr_ok (hr.2 i x t hx ht) (hr'.2 i y u hy hu) hK) hk) ?_
      refine TG_if (eqTs us us') (fun _ K' hk => eqfCond_ok hc hc' hcb hcr.1 hcr'.1 (fun i x y t u hx hy ht hu K hK => sameCond_ok (hcr.2 i x t hx ht) (hcr'.2 i y u hy hu) hK) hk) ?_
      refine TG_if (eqTs vs vs') (fun _ K' hk => eqfStmt_ok ha ha' hab hal hal' (fun i x y t u hx hy ht hu K hK => iha i x t hx ht (har' i y u hy hu) hK) hk) ?_
      refine TG_if (eqTs ws ws') (fun _ K' hk => eqfStmt_ok hbs hbs' hbb hbl hbl' (fun i x y t u hx hy ht hu K hK => ihb i x t hx ht (hbr' i y u hy hu) hK) hk) ?_
      rw [eqT_stmt] at h
      generalize (decide (e.fKind = e'.fKind) && decide (e.fName = e'.fName)) = q at h ⊢
      generalize eqTs ts ts' = a at h ⊢
      generalize eqTs us us' = b at h ⊢
      generalize eqTs vs vs' = c at h ⊢
      generalize eqTs ws ws' = d at h ⊢
      cases q <;> cases a <;> cases b <;> cases c <;> cases d <;> exact h
theorem sameDecls_ok {sx sy : Sl} {xs ys : List Tapi_Decl} (hx : SlH H 2 cs_api_Decl sx xs) (hy : SlH H 2 cs_api_Decl sy ys) (hb : xs.length ≤ big) {K : Bool → Hp → Prop} (h : (xs = ys → K true H) ∧ (xs ≠ ys → K false H)) : C_slices_Equal_gnomon_api_Decl_gnomon_api_Decl sx sy H K := by
  refine L_slices_Equal_gnomon_api_Decl_gnomon_api_Decl _ _ ?_
  unfold T_slices_Equal_gnomon_api_Decl_gnomon_api_Decl
  have n1 := hx.1; have n2 := hy.1
  refine ⟨fun hne => h.2 fun e => by subst e; omega, fun he => ?_⟩
  refine TL_of (fun (i : Int) H' => 0 ≤ i ∧ i ≤ xs.length ∧ H' = H ∧ ∀ (j : Nat) (t u : Tapi_Decl), (j : Int) < i → xs[j]? = some t → ys[j]? = some u → t = u) (fun i => (xs.length - i).toNat) ⟨by omega, by omega, rfl, fun j t u hj => by omega⟩ ?_
  rintro i H1 next ⟨i0, i1, rfl, hi⟩ hn
  unfold T_slices_Equal_gnomon_api_Decl_gnomon_api_Decl_l2
  refine ⟨fun hc => ?_, fun hc => ?_⟩
  · obtain ⟨x, hxi, hE⟩ := hx.get i0 hc
    obtain ⟨y, hyi, hF⟩ := hy.get i0 (show i < (sy.n : Int) by omega)
    refine ⟨i0, hc, x, hE, i0, by omega, y, hF, fun hq => h.2 fun e => ?_, fun hq => ?_⟩
    · subst e; rw [hxi] at hyi; cases hyi; exact hq ⟨rfl, rfl⟩
    · rw [wrap_1 i0 (by simp only [big] at hb; omega)]
      refine hn _ _ ⟨by omega, by omega, rfl, fun j t' u' hj ht' hu' => ?_⟩ (by omega)
      by_cases ej : j = i.toNat
      · subst ej
        rw [hxi] at ht'; cases ht'
        rw [hyi] at hu'; cases hu'
        cases x; cases y; simp_all
      · exact hi j t' u' (by omega) ht' hu'
  · exact h.1 (list_eq (by omega) fun j t u ht hu => hi j t u (by have := lt_of ht; omega) ht hu)
end
end Go.Proofs.YthldnpmfelniiaaDoor
