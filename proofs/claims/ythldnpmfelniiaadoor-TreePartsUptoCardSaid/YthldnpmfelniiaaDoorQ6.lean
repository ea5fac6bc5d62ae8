/-
  Whether two programs are the same, by the program and by the document; what is known; the law. Contracts off the printed formulas.
-/
import Derived.Test.YthldnpmfelniiaaDoorQ5
namespace Go.Proofs.YthldnpmfelniiaaDoor
open Go.RowKit
set_option maxRecDepth 100000
set_option maxHeartbeats 2000000

theorem TG_up {α : Type} {q : Prop} [Decidable q] {call : (α → Hp → Prop) → Prop} {d : α} {H : Hp} {K : α → Hp → Prop} (v : α) (hc : q → ∀ K' : α → Hp → Prop, (∀ H', Hle H H' → K' v H') → call K') (h : ∀ H', Hle H H' → K (if q then v else d) H') : TG q call d H K :=
  ⟨fun hq => hc hq _ fun H' l => (by have := h H' l; rwa [if_pos hq] at this), fun hq => (by have := h H (Hle.refl _); rwa [if_neg hq] at this)⟩
open Classical in
noncomputable def eqD (a b : List Tapi_Decl) : Bool := decide (a = b)
theorem eqD_iff {a b : List Tapi_Decl} : eqD a b = true ↔ a = b := by unfold eqD; simp
theorem eqD_no {a b : List Tapi_Decl} : eqD a b = false ↔ a ≠ b := by unfold eqD; simp
noncomputable def eqS (q q' : PP) : Bool := ((fewP q && fewP q') && eqD q.decls q'.decls) && eqTs q.body q'.body
theorem eqS_symm (q q' : PP) : eqS q q' = eqS q' q := by
  have h1 : eqD q.decls q'.decls = eqD q'.decls q.decls := by rw [Bool.eq_iff_iff, eqD_iff, eqD_iff]; exact eq_comm
  have h2 : eqTs q.body q'.body = eqTs q'.body q.body := by rw [Bool.eq_iff_iff, eqTs_iff, eqTs_iff]; exact eq_comm
  unfold eqS
  rw [h1, h2, Bool.and_comm (fewP q)]
section
variable {H : Hp}
theorem eqf_ok {sx sy : Sl} {xs ys : List Tapi_Stmt} {ts us : List PT} (hx : SlH H 6 cs_api_Stmt sx xs) (hy : SlH H 6 cs_api_Stmt sy ys) (hb : xs.length ≤ big) (hr : Rel2 (SH H) xs ts) (hr' : Rel2 (SH H) ys us) {K : Bool → Hp → Prop} (h : K (eqTs ts us) H) : C_slices_EqualFunc_gnomon_api_Stmt_gnomon_api_Stmt_gnomon_api_Stmt_gnomon_api_Stmt_of_gnomon_tree_sameStmt sx sy H K :=
  eqfStmt_ok hx hy hb hr.1 hr'.1 (fun i x y t u hx hy ht hu K hK => sameStmt_ok (hr.2 i x t hx ht) (hr'.2 i y u hy hu) hK) h
theorem decls_ok {sx sy : Sl} {xs ys : List Tapi_Decl} (hx : SlH H 2 cs_api_Decl sx xs) (hy : SlH H 2 cs_api_Decl sy ys) (hb : xs.length ≤ big) {K : Bool → Hp → Prop} (h : K (eqD xs ys) H) : C_slices_Equal_gnomon_api_Decl_gnomon_api_Decl sx sy H K :=
  sameDecls_ok hx hy hb ⟨fun e => by rw [eqD_iff.2 e] at h; exact h, fun e => by rw [eqD_no.2 e] at h; exact h⟩
theorem Equal_ok (hT : TabsH H) {p p' : Tapi_Prog} {q q' : PP} (hp : PH H p q) (hsm : q.Sm) (hp' : PH H p' q') (hsm' : q'.Sm) {K : Bool → Hp → Prop} (h : ∀ H', Hle H H' → K (eqS q q') H') : C_gnomon_tree_Equal p p' H K := by
  refine L_gnomon_tree_Equal _ _ ?_
  unfold T_gnomon_tree_Equal
  refine bounded_ok hT hp hsm fun H1 l1 => TG_up (fewP q') (fun _ K' hk => bounded_ok (hT.le l1) (hp'.le l1) hsm' hk) fun H2 l2 => ?_
  obtain ⟨hd, hbd, xs, hsl, hb, hr⟩ := hp.le (l1.trans l2)
  obtain ⟨hd', hbd', xs', hsl', hb', hr'⟩ := hp'.le (l1.trans l2)
  refine TG_if (eqD q.decls q'.decls) (fun _ K' hk => decls_ok hd hd' hbd hk) ?_
  refine TG_if (eqTs q.body q'.body) (fun _ K' hk => eqf_ok hsl hsl' hb hr hr' hk) ?_
  have h' := h H2 (l1.trans l2)
  unfold eqS at h'
  generalize fewP q = a at h' ⊢
  generalize fewP q' = b at h' ⊢
  generalize eqD q.decls q'.decls = c at h' ⊢
  generalize eqTs q.body q'.body = d at h' ⊢
  cases a <;> cases b <;> cases c <;> cases d <;> exact h'
theorem rEqual_ok {p p' : Tapi_Prog} {q q' : PP} (hp : PH H p q) (hp' : PH H p' q') {K : Bool → Hp → Prop} (h : K (eqS q q') H) : C_gnomon_gnomonref3_Equal p p' H K := by
  refine L_gnomon_gnomonref3_Equal _ _ ?_
  unfold T_gnomon_gnomonref3_Equal
  have few1 : decide ((wTs q.nodes 1 w0S).fbad = 0) = fewP q := rfl
  have few2 : decide ((wTs q'.nodes 1 w0S).fbad = 0) = fewP q' := rfl
  refine Few_ok hp (TG_if (fewP q') (fun _ K' hk => Few_ok hp' hk) ?_)
  rw [few1]
  obtain ⟨hd, hbd, xs, hsl, hb, hr⟩ := hp
  obtain ⟨hd', hbd', xs', hsl', hb', hr'⟩ := hp'
  have n1 := hd.1; have n2 := hd'.1
  refine TG_if (eqTs q.body q'.body) (fun _ K' hk => rsameStmts_ok hsl hsl' hb hr hr' hk) ?_
  have ld : decide ((p.fDecls.n : Int) = (p'.fDecls.n : Int)) = decide (q.decls.length = q'.decls.length) := by rw [Bool.eq_iff_iff]; simp; omega
  rw [ld]
  have zl : decide (q.decls.length = q'.decls.length) = false → eqD q.decls q'.decls = false := fun e => eqD_no.2 fun e' => of_decide_eq_false e (by rw [e'])
  have fin : fewP q = true → fewP q' = true → q.decls.length = q'.decls.length → eqTs q.body q'.body = true → TL (0 : Int) H fun (s : Int) H n2 => T_gnomon_gnomonref3_Equal_l2 p' p s H n2 K := by
    intro e1 e2 e3 e4
    unfold eqS at h
    rw [e1, e2, e4, Bool.and_true, Bool.true_and, Bool.true_and] at h
    refine TL_of (fun (i : Int) H' => 0 ≤ i ∧ i ≤ q.decls.length ∧ H' = H ∧ ∀ (j : Nat) (t u : Tapi_Decl), (j : Int) < i → q.decls[j]? = some t → q'.decls[j]? = some u → t = u) (fun i => (q.decls.length - i).toNat) ⟨Int.le_refl _, by omega, rfl, fun j t u hj => by omega⟩ ?_
    rintro i H1 next ⟨i0, i1, rfl, hi⟩ hn
    unfold T_gnomon_gnomonref3_Equal_l2
    refine ⟨fun hc => ?_, fun hc => ?_⟩
    · obtain ⟨x, hx, hE⟩ := hd.get i0 hc
      obtain ⟨y, hy, hF⟩ := hd'.get i0 (show i < (p'.fDecls.n : Int) by omega)
      refine ⟨i0, hc, x, hE, i0, by omega, y, hF, fun hq => ?_, fun hq => ?_⟩
      · rw [eqD_no.2 fun e => hq (by rw [e, hy] at hx; cases hx; exact ⟨rfl, rfl⟩)] at h; exact h
      · rw [wrap_1 i0 (by simp only [big] at hbd; omega)]
        refine hn _ _ ⟨by omega, by omega, rfl, fun j t u hj ht hu => ?_⟩ (by omega)
        by_cases ej : j = i.toNat
        · subst ej
          rw [hx] at ht; cases ht
          rw [hy] at hu; cases hu
          cases x; cases y
          obtain ⟨h1, h2⟩ := hq
          dsimp only at h1 h2
          rw [h1, h2]
        · exact hi j t u (by omega) ht hu
    · unfold T_gnomon_gnomonref3_Equal_j1
      rw [eqD_iff.2 (list_eq e3 fun j t u ht hu => hi j t u (by have := lt_of ht; omega) ht hu)] at h
      exact h
  unfold eqS at h
  generalize eqD q.decls q'.decls = c at h zl
  generalize hl : decide (q.decls.length = q'.decls.length) = l at zl ⊢
  generalize fewP q = a at h fin ⊢
  generalize fewP q' = b at h fin ⊢
  generalize eqTs q.body q'.body = d at h fin ⊢
  cases l
  · rw [zl rfl] at h
    cases a <;> cases b <;> cases d <;> exact ⟨fun _ => h, fun hc => (by cases hc)⟩
  · cases a <;> cases b <;> cases d <;> first
      | exact ⟨fun hc => (by cases hc), fun _ => fin rfl rfl (of_decide_eq_true hl) rfl⟩
      | (have h' : K false H := by cases c <;> exact h
         exact ⟨fun _ => h', fun hc => (by cases hc)⟩)
/-! ## what is known -/
def xS : ByteArray := ⟨#[120]⟩
def oneVar : PT := .mk (.expr 2 0 xS 0) []
def oneNum : PT := .mk (.expr 1 1 ⟨#[]⟩ 0) []
def oneSum : PT := .mk (.expr 6 0 ⟨#[]⟩ 2) [oneVar, oneNum]
def oneP : PP := ⟨[⟨xS, 0⟩], [.mk (.stmt 1 xS 1 0 0 0) [oneSum]]⟩
theorem one_ok {K : Tapi_Prog → Hp → Prop} (h : ∀ (p : Tapi_Prog) (H' : Hp), Hle H H' → PH H' p oneP → K p H') : C_gnomon_gnomonlaw3_one H K := by
  refine L_gnomon_gnomonlaw3_one ?_
  unfold T_gnomon_gnomonlaw3_one
  intro s1 H1 l1 h1 _ s2 H2 l2 h2 _ s3 H3 l3 h3 _ s4 H4 l4 h4 _
  refine h _ H4 (l1.trans (l2.trans (l3.trans l4))) ⟨h3.le l4, by simp [oneP, big], _, h4, by simp [big], ?_⟩
  refine Rel2.one (R := SH H4) ?_
  have nilE : SlH H4 4 cs_api_Expr ⟨none, 0, 0⟩ [] := SlH.nil _ _ _
  have nilC : SlH H4 4 cs_api_Cond ⟨none, 0, 0⟩ [] := SlH.nil _ _ _
  have nilS : SlH H4 6 cs_api_Stmt ⟨none, 0, 0⟩ [] := SlH.nil _ _ _
  have eV : EH H4 ⟨2, 0, xS, ⟨none, 0, 0⟩⟩ oneVar := EH.mk (ts := []) nilE (Nat.zero_le _) rfl fun i x t hx => by simp at hx
  have eN : EH H4 ⟨1, 1, ⟨#[]⟩, ⟨none, 0, 0⟩⟩ oneNum := EH.mk (ts := []) nilE (Nat.zero_le _) rfl fun i x t hx => by simp at hx
  have eL := (Rel2.one (R := EH H4) eV).app (Rel2.one (R := EH H4) eN)
  have eS : EH H4 ⟨6, 0, ⟨#[]⟩, s1⟩ oneSum := EH.mk (ts := [oneVar, oneNum]) (h1.le (l2.trans (l3.trans l4))) (by simp [big]) rfl eL.2
  exact SH.mk (ts := [oneSum]) (us := []) (vs := []) (ws := []) (h2.le (l3.trans l4)) (by simp [big]) (Rel2.one eS) nilC (Nat.zero_le _) Rel2.nil nilS (Nat.zero_le _) rfl (fun i x t hx => by simp at hx) nilS (Nat.zero_le _) rfl (fun i x t hx => by simp at hx)
theorem one_Sm : oneP.Sm := by
  have hx : xS.size ≤ big := by decide
  have h0 : (⟨#[]⟩ : ByteArray).size ≤ big := by decide
  have a : Sm oneVar := .mk hx fun t ht => by cases ht
  have b : Sm oneNum := .mk h0 fun t ht => by cases ht
  have c : Sm oneSum := .mk h0 fun t ht => by
    rcases List.mem_cons.1 ht with e | ht
    · rw [e]; exact a
    · rcases List.mem_cons.1 ht with e | ht
      · rw [e]; exact b
      · cases ht
  intro t ht
  rcases List.mem_cons.1 ht with e | ht
  · rw [e]; exact .mk hx fun t ht => by cases ht
  · rcases List.mem_cons.1 ht with e | ht
    · rw [e]; exact .mk hx fun t ht => by
        rcases List.mem_cons.1 ht with e | ht
        · rw [e]; exact c
        · cases ht
    · cases ht
theorem name_x : nameS xS = true := by kernel_rfl
theorem one_V : allV oneP = (true, ⟨5, 3, 0, false, false, [xS]⟩) := by kernel_rfl
theorem bad_V : vEnd (vTs [.mk (.expr 1 (-1) ⟨#[]⟩ 0) []] 1 v0) = 30 := by kernel_rfl
theorem one_few : fewP oneP = true := by
  rw [← bnd_few, one_V]; rfl
theorem one_eq : eqS oneP oneP = true := by
  unfold eqS
  rw [one_few, eqD_iff.2 rfl, eqTs_iff.2 rfl]; rfl
theorem known_ok (hT : TabsH H) {K : Bool → Hp → Prop} (h : ∀ H', Hle H H' → K true H') : C_gnomon_gnomonlaw3_known H K := by
  refine L_gnomon_gnomonlaw3_known ?_
  unfold T_gnomon_gnomonlaw3_known
  refine one_ok fun p1 H1 l1 hp1 => Depth_ok (hT.le l1) hp1 one_Sm fun H2 l2 => ?_
  have l12 := l1.trans l2
  refine one_ok fun p2 H3 l3 hp2 => Nodes_ok (hT.le (l12.trans l3)) hp2 one_Sm fun H4 l4 => ?_
  have l14 := l12.trans (l3.trans l4)
  have e0 : vEnd (allV oneP) = 0 := by rw [one_V]; rfl
  rw [e0, if_pos rfl, one_V]
  refine TG_up 30 (fun _ K' hk => ?_) fun H5 l5 => ?_
  · refine Expr_ok (hT.le l14) (t := .mk (.expr 1 (-1) ⟨#[]⟩ 0) []) (EH.mk (ts := []) (SlH.nil _ _ _) (Nat.zero_le _) rfl fun i x t hx => by simp at hx) (.mk (by decide) fun t ht => by cases ht) fun H' l => ?_
    rw [bad_V]; exact hk H' l
  refine ⟨fun _ => one_ok fun p3 H6 l6 hp3 => ⟨fun _ => one_ok fun p4 H7 l7 hp4 => ⟨fun _ => Equal_ok (hT.le (l14.trans (l5.trans (l6.trans l7)))) (hp3.le l7) one_Sm hp4 one_Sm fun H8 l8 => ?_, fun q => (q rfl).elim⟩, fun q => (q rfl).elim⟩, fun q => (q rfl).elim⟩
  rw [one_eq]
  exact h H8 (l14.trans (l5.trans (l6.trans (l7.trans l8))))
/-! ## the law -/
theorem TreeEquals_ok (hT : TabsH H) {p p' : Tapi_Prog} {q q' : PP} (hp : PH H p q) (hsm : q.Sm) (hp' : PH H p' q') (hsm' : q'.Sm) {K : Bool → Hp → Prop} (h : ∀ H', Hle H H' → K true H') : C_gnomon_gnomonlaw3_TreeEquals p p' H K := by
  refine L_gnomon_gnomonlaw3_TreeEquals _ _ ?_
  unfold T_gnomon_gnomonlaw3_TreeEquals
  refine known_ok hT fun H1 l1 => ⟨fun _ => Equal_ok (hT.le l1) (hp.le l1) hsm (hp'.le l1) hsm' fun H2 l2 => ?_, fun q => (q rfl).elim⟩
  have l12 := l1.trans l2
  refine ⟨fun _ => rEqual_ok (hp.le l12) (hp'.le l12) ?_, fun q => (q rfl).elim⟩
  rw [beq_self_eq_true]
  refine ⟨fun _ => Equal_ok (hT.le l12) (hp'.le l12) hsm' (hp.le l12) hsm fun H3 l3 => ?_, fun q => (q rfl).elim⟩
  have l13 := l12.trans l3
  refine ⟨fun _ => Equal_ok (hT.le l13) (hp.le l13) hsm (hp'.le l13) hsm' fun H4 l4 => ?_, fun q => (q rfl).elim⟩
  rw [eqS_symm q' q, beq_self_eq_true]
  exact h H4 (l13.trans l4)
end
end Go.Proofs.YthldnpmfelniiaaDoor
