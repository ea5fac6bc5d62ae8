/-
  Edges' forms, forks. Contracts off the printed formulas.
-/
import Derived.Test.YtgapepdglhcglaaR1
namespace Go.Proofs.Ytgapepdglhcglaa
open Go.RowKit
set_option maxRecDepth 100000
set_option maxHeartbeats 2000000

section
variable {H : Hp}
theorem has_ok {a b c : Bool} {K : Bool → Hp → Prop} (h : K (bif a then b else c) H) : C_gnomon_cfg_has a b c H K := by
  refine L_gnomon_cfg_has _ _ _ ?_
  unfold T_gnomon_cfg_has
  cases a
  · exact ⟨fun hc => by (cases hc), fun _ => h⟩
  · exact ⟨fun _ => h, fun hc => by (cases hc)⟩
theorem nothing_ok {K : Tapi_Operand → Hp → Prop} (h : K ⟨-1, 0⟩ H) : C_gnomon_cfg_nothing H K := L_gnomon_cfg_nothing (by unfold T_gnomon_cfg_nothing; exact h)
theorem None_ok {K : Tapi_Operand → Hp → Prop} (h : K ⟨-1, 0⟩ H) : C_gnomon_gnomonref9_None H K := L_gnomon_gnomonref9_None (by unfold T_gnomon_gnomonref9_None; exact h)
def allS (c : Tapi_Cfg) : Int := IntKind.wrap .i64 ((c.fVars.n : Int) + c.fTemps)
theorem All_ok {c : Tapi_Cfg} {K : Int → Hp → Prop} (h : K (allS c) H) : C_gnomon_gnomonref9_All c H K := L_gnomon_gnomonref9_All _ (by unfold T_gnomon_gnomonref9_All; exact h)
def within (i n : Int) : Bool := decide (0 ≤ i) && decide (i < n)
theorem point_ok {g : Tcfg_graph} {p : Int} {K : Bool → Hp → Prop} (h : K (within p g.fCfg.fPoints) H) : C_gnomon_cfg_graph_point g p H K := L_gnomon_cfg_graph_point _ _ (by unfold T_gnomon_cfg_graph_point; exact h)
theorem variable_ok {g : Tcfg_graph} {p : Int} {K : Bool → Hp → Prop} (h : K (within p (allS g.fCfg)) H) : C_gnomon_cfg_graph_variable g p H K := L_gnomon_cfg_graph_variable _ _ (by unfold T_gnomon_cfg_graph_variable; exact h)
theorem array_ok {g : Tcfg_graph} {p : Int} {K : Bool → Hp → Prop} (h : K (within p (g.fCfg.fArrays.n : Int)) H) : C_gnomon_cfg_graph_array g p H K := L_gnomon_cfg_graph_array _ _ (by unfold T_gnomon_cfg_graph_array; exact h)
def opndS (o : Tapi_Operand) (n : Int) : Bool := decide (o.fVar = -1) || (within o.fVar n && decide (o.fNum = 0))
def bareS (o : Tapi_Operand) : Bool := decide (o.fVar = -1 ∧ o.fNum = 0)
theorem operand_ok {g : Tcfg_graph} {o : Tapi_Operand} {K : Bool → Hp → Prop} (h : K (opndS o (allS g.fCfg)) H) : C_gnomon_cfg_graph_operand g o H K := by
  refine L_gnomon_cfg_graph_operand _ _ ?_
  unfold T_gnomon_cfg_graph_operand
  refine TG_if (within o.fVar (allS g.fCfg)) (fun _ K' hk => variable_ok hk) ?_
  unfold opndS at h
  by_cases hv : o.fVar = -1 <;> simpa [hv] using h
theorem refOperand_ok {w : Bool} {o : Tapi_Operand} {n : Int} {K : Bool → Hp → Prop} (h : K (bif w then opndS o n else bareS o) H) : C_gnomon_gnomonref9_operand o w n H K := by
  refine L_gnomon_gnomonref9_operand _ _ _ ?_
  unfold T_gnomon_gnomonref9_operand
  cases w
  · exact ⟨fun _ => None_ok h, fun hc => by (cases hc)⟩
  · exact ⟨fun hc => by (cases hc), fun _ => h⟩
def wantsS (k : Int) : Tcfg_wants :=
  if k = 2 ∨ k = 3 then ⟨true, false, false, true, false⟩ else if 4 ≤ k ∧ k ≤ 8 then ⟨true, false, false, true, true⟩ else if k = 9 then ⟨true, false, false, false, false⟩
  else if k = 10 then ⟨true, true, false, true, false⟩ else if k = 11 then ⟨false, true, false, true, true⟩ else if k = 12 then ⟨false, false, true, true, true⟩ else ⟨false, false, false, false, false⟩
theorem wantsOf_ok {k : Int} {K : Tcfg_wants → Hp → Prop} (h : K (wantsS k) H) : C_gnomon_cfg_wantsOf k H K := by
  refine L_gnomon_cfg_wantsOf _ ?_
  unfold wantsS at h
  have j3 : ∀ {b : Bool} {c d : Tcfg_wants}, c = ⟨false, false, false, true, false⟩ → (b = true ↔ 4 ≤ k ∧ k ≤ 8) → ¬ (k = 2 ∨ k = 3) → T_gnomon_cfg_wantsOf_j3 k b c d H K := by
    intro b c d hc hb h23
    subst hc
    unfold T_gnomon_cfg_wantsOf_j3 T_gnomon_cfg_wantsOf_j1
    rw [if_neg h23] at h
    refine ⟨fun e => ?_, fun e => ?_⟩
    · rw [if_pos (hb.1 e)] at h; exact h
    · rw [if_neg (fun hn => by rw [hb.2 hn] at e; cases e)] at h
      refine ⟨fun h1 => ?_, fun h1 => ⟨fun h2 => ?_, fun h2 => ⟨fun h3 => ?_, fun h3 => ⟨fun h4 => ?_, fun h4 => ?_⟩⟩⟩⟩ <;> simpa [*] using h
  have j2 : ∀ {b : Bool} {c d : Tcfg_wants}, c = ⟨false, false, false, true, false⟩ → (b = true ↔ (k = 2 ∨ k = 3)) → T_gnomon_cfg_wantsOf_j2 k b c d H K := by
    intro b c d hc hb
    unfold T_gnomon_cfg_wantsOf_j2
    refine ⟨fun e => ?_, fun e => ?_⟩
    · unfold T_gnomon_cfg_wantsOf_j1
      rw [if_pos (hb.1 e)] at h
      rw [hc]; exact h
    · have h23 : ¬ (k = 2 ∨ k = 3) := fun hn => by rw [hb.2 hn] at e; cases e
      refine ⟨fun h1 => j3 hc ?_ h23, fun h1 => ⟨fun h2 => j3 hc ?_ h23, fun h2 => ⟨fun h3 => j3 hc ?_ h23, fun h3 => ⟨fun h4 => j3 hc ?_ h23, fun h4 => j3 hc ?_ h23⟩⟩⟩⟩ <;> (rw [decide_eq_true_eq]; omega)
  unfold T_gnomon_cfg_wantsOf
  refine ⟨fun h1 => j2 rfl ?_, fun h1 => j2 rfl ?_⟩ <;> (rw [decide_eq_true_eq]; omega)
/-- is an edge right as to all but From and To? -/
def rightS (n na : Int) (e : Tapi_Edge) : Bool :=
  (bif (wantsS e.fKind).fdst then within e.fDst n else decide (e.fDst = -1)) && (bif (wantsS e.fKind).farr then within e.fArr na else decide (e.fArr = -1)) &&
  (bif (wantsS e.fKind).fop then decide (1 ≤ e.fOp) && decide (e.fOp ≤ 6) else decide (e.fOp = 0)) && (bif (wantsS e.fKind).fa then opndS e.fA n else bareS e.fA) && (bif (wantsS e.fKind).fb then opndS e.fB n else bareS e.fB)
def kindS (k : Int) : Bool := decide (1 ≤ k) && decide (k ≤ 14)
/-- is an edge right? -/
def edgeS (c : Tapi_Cfg) (e : Tapi_Edge) : Bool := within e.fFrom c.fPoints && within e.fTo c.fPoints && !decide (e.fFrom = c.fExit) && kindS e.fKind && rightS (allS c) (c.fArrays.n : Int) e
theorem ite_and (b c : Bool) : (if b = true then c else false) = (b && c) := by cases b <;> rfl
theorem right_ok {g : Tcfg_graph} {e : Tapi_Edge} {K : Bool → Hp → Prop} (h : K (edgeS g.fCfg e) H) : C_gnomon_cfg_graph_right g e H K := by
  refine L_gnomon_cfg_graph_right _ _ ?_
  unfold T_gnomon_cfg_graph_right
  refine point_ok ?_
  refine TG_if (within e.fTo g.fCfg.fPoints) (fun _ K' hk => point_ok hk) ?_
  have he : edgeS g.fCfg e = (!((((((!within e.fFrom g.fCfg.fPoints) || (!(if (!within e.fFrom g.fCfg.fPoints) = false then within e.fTo g.fCfg.fPoints else false))) || (decide (e.fFrom = g.fCfg.fExit))) || (decide (e.fKind < 1))) || (decide (14 < e.fKind)))) && rightS (allS g.fCfg) (g.fCfg.fArrays.n : Int) e) := by
    unfold edgeS kindS
    have k1 : decide (e.fKind < 1) = !decide (1 ≤ e.fKind) := by by_cases hk : 1 ≤ e.fKind <;> simp [hk] <;> omega
    have k2 : decide (14 < e.fKind) = !decide (e.fKind ≤ 14) := by by_cases hk : e.fKind ≤ 14 <;> simp [hk] <;> omega
    rw [k1, k2]
    cases within e.fFrom g.fCfg.fPoints <;> cases within e.fTo g.fCfg.fPoints <;> cases decide (e.fFrom = g.fCfg.fExit) <;> cases decide (1 ≤ e.fKind) <;> cases decide (e.fKind ≤ 14) <;> rfl
  rw [he] at h
  refine ⟨fun hc => ?_, fun hc => ?_⟩
  · rw [hc] at h; exact h
  · rw [hc] at h
    refine wantsOf_ok (variable_ok (has_ok ?_))
    unfold rightS at h
    refine TG_if (within e.fArr (g.fCfg.fArrays.n : Int)) (fun _ K' hk => array_ok hk) ?_
    refine TG_if (bif (wantsS e.fKind).farr then within e.fArr (g.fCfg.fArrays.n : Int) else decide (e.fArr = -1)) (fun hq K' hk => has_ok (by rw [if_pos hq]; exact hk)) ?_
    refine TG_if (bif (wantsS e.fKind).fop then decide (1 ≤ e.fOp) && decide (e.fOp ≤ 6) else decide (e.fOp = 0)) (fun hq K' hk => has_ok hk) ?_
    refine TG_if (opndS e.fA (allS g.fCfg)) (fun _ K' hk => operand_ok hk) ?_
    refine TG_if (Tapi_Operand.mk (-1) 0) (fun _ K' hk => nothing_ok hk) ?_
    refine TG_if (bif (wantsS e.fKind).fa then opndS e.fA (allS g.fCfg) else bareS e.fA) (fun hq K' hk => has_ok (by rw [if_pos hq, if_pos hq]; exact hk)) ?_
    refine TG_if (opndS e.fB (allS g.fCfg)) (fun _ K' hk => operand_ok hk) ?_
    refine TG_if (Tapi_Operand.mk (-1) 0) (fun _ K' hk => nothing_ok hk) ?_
    refine TG_if (bif (wantsS e.fKind).fb then opndS e.fB (allS g.fCfg) else bareS e.fB) (fun hq K' hk => has_ok (by rw [if_pos hq, if_pos hq]; exact hk)) ?_
    simp only [ite_and]
    generalize (bif (wantsS e.fKind).fdst then within e.fDst (allS g.fCfg) else decide (e.fDst = -1)) = b1 at *
    generalize (bif (wantsS e.fKind).farr then within e.fArr (g.fCfg.fArrays.n : Int) else decide (e.fArr = -1)) = b2 at *
    generalize (bif (wantsS e.fKind).fop then decide (1 ≤ e.fOp) && decide (e.fOp ≤ 6) else decide (e.fOp = 0)) = b3 at *
    generalize (bif (wantsS e.fKind).fa then opndS e.fA (allS g.fCfg) else bareS e.fA) = b4 at *
    generalize (bif (wantsS e.fKind).fb then opndS e.fB (allS g.fCfg) else bareS e.fB) = b5 at *
    cases b1 <;> cases b2 <;> cases b3 <;> cases b4 <;> cases b5 <;> exact h
theorem refRight_ok {e : Tapi_Edge} {n na : Int} {K : Bool → Hp → Prop} (h : K (kindS e.fKind && rightS n na e) H) : C_gnomon_gnomonref9_Right e n na H K := by
  refine L_gnomon_gnomonref9_Right _ _ _ ?_
  have j1 : ∀ {d a b : Bool}, (kindS e.fKind = true) → (wantsS e.fKind).fdst = d → (wantsS e.fKind).fa = a → (wantsS e.fKind).fb = b → T_gnomon_gnomonref9_Right_j1 n na d a b e H K := by
    intro d a b hk hd ha hb
    have warr : (wantsS e.fKind).farr = (decide (e.fKind = 10) || decide (e.fKind = 11)) := by
      unfold wantsS; repeat' split
      all_goals first | (symm; simp; done) | (symm; simp; omega)
    have wop : (wantsS e.fKind).fop = decide (e.fKind = 12) := by
      unfold wantsS; repeat' split
      all_goals first | (symm; simp; done) | (symm; simp; omega)
    unfold T_gnomon_gnomonref9_Right_j1
    unfold rightS at h
    rw [hk, hd, ha, hb, warr, wop, Bool.true_and] at h
    have e1 : ((d && ((decide (e.fDst < 0)) || (decide (n ≤ e.fDst)))) || ((!d) && (!decide (e.fDst = (-1))))) = !(bif d then within e.fDst n else decide (e.fDst = -1)) := by
      unfold within
      cases d
      · simp
      · by_cases h1 : 0 ≤ e.fDst <;> by_cases h2 : e.fDst < n <;> simp [h1, h2] <;> omega
    have e2 : ((((decide (e.fKind = 10)) || (decide (e.fKind = 11))) && ((decide (e.fArr < 0)) || (decide (na ≤ e.fArr)))) || ((!((decide (e.fKind = 10)) || (decide (e.fKind = 11)))) && (!decide (e.fArr = (-1))))) = !(bif (decide (e.fKind = 10) || decide (e.fKind = 11)) then within e.fArr na else decide (e.fArr = -1)) := by
      unfold within
      cases (decide (e.fKind = 10) || decide (e.fKind = 11))
      · simp
      · by_cases h1 : 0 ≤ e.fArr <;> by_cases h2 : e.fArr < na <;> simp [h1, h2] <;> omega
    have e3 : (((decide (e.fKind = 12)) && ((decide (e.fOp < 1)) || (decide (6 < e.fOp)))) || ((!decide (e.fKind = 12)) && (!decide (e.fOp = 0)))) = !(bif decide (e.fKind = 12) then decide (1 ≤ e.fOp) && decide (e.fOp ≤ 6) else decide (e.fOp = 0)) := by
      cases decide (e.fKind = 12)
      · simp
      · by_cases h1 : 1 ≤ e.fOp <;> by_cases h2 : e.fOp ≤ 6 <;> simp [h1, h2] <;> omega
    rw [e1, e2, e3]
    generalize (bif d then within e.fDst n else decide (e.fDst = -1)) = b1 at *
    generalize (bif (decide (e.fKind = 10) || decide (e.fKind = 11)) then within e.fArr na else decide (e.fArr = -1)) = b2 at *
    generalize (bif decide (e.fKind = 12) then decide (1 ≤ e.fOp) && decide (e.fOp ≤ 6) else decide (e.fOp = 0)) = b3 at *
    refine ⟨fun h1 => ?_, fun h1 => ⟨fun h2 => ?_, fun h2 => ⟨fun h3 => ?_, fun h3 => ?_⟩⟩⟩
    · simp at h1; subst h1; exact h
    · simp at h1 h2; subst h1; subst h2; exact h
    · simp at h1 h2 h3; subst h1; subst h2; subst h3; exact h
    · simp at h1 h2 h3; subst h1; subst h2; subst h3
      refine refOperand_ok ?_
      refine TG_if (bif b then opndS e.fB n else bareS e.fB) (fun _ K' hk => refOperand_ok hk) ?_
      rw [ite_and]
      generalize (bif a then opndS e.fA n else bareS e.fA) = b4 at *
      generalize (bif b then opndS e.fB n else bareS e.fB) = b5 at *
      cases b4 <;> cases b5 <;> exact h
  have wd : ∀ d a b : Bool, (∀ w, wantsS e.fKind = w → w.fdst = d ∧ w.fa = a ∧ w.fb = b) → (kindS e.fKind = true) → T_gnomon_gnomonref9_Right_j1 n na d a b e H K := fun d a b hw hk => j1 hk (hw _ rfl).1 (hw _ rfl).2.1 (hw _ rfl).2.2
  have kin : 1 ≤ e.fKind → e.fKind ≤ 14 → kindS e.fKind = true := fun h1 h2 => by unfold kindS; simp [h1, h2]
  have j5 : ∀ {b : Bool} {d : Bool}, d = false → (b = true ↔ (e.fKind = 11 ∨ e.fKind = 12)) → ¬ (e.fKind = 1 ∨ e.fKind = 13 ∨ e.fKind = 14 ∨ (2 ≤ e.fKind ∧ e.fKind ≤ 10)) → T_gnomon_gnomonref9_Right_j5 n na d b e H K := by
    intro b d hd hb hn
    subst hd
    unfold T_gnomon_gnomonref9_Right_j5
    refine ⟨fun e1 => wd _ _ _ ?_ (kin (by have := hb.1 e1; omega) (by have := hb.1 e1; omega)), fun e1 => ?_⟩
    · rintro w rfl
      have := hb.1 e1
      unfold wantsS
      rw [if_neg (by omega), if_neg (by omega), if_neg (by omega), if_neg (by omega)]
      by_cases h11 : e.fKind = 11
      · rw [if_pos h11]; exact ⟨rfl, rfl, rfl⟩
      · rw [if_neg h11, if_pos (by omega)]; exact ⟨rfl, rfl, rfl⟩
    · have hk : kindS e.fKind = false := by
        have h1 : ¬ (e.fKind = 11 ∨ e.fKind = 12) := fun hx => by rw [hb.2 hx] at e1; cases e1
        unfold kindS
        by_cases h2 : 1 ≤ e.fKind <;> by_cases h3 : e.fKind ≤ 14 <;> simp [h2, h3] <;> omega
      rw [hk] at h; exact h
  have j4 : ∀ {b : Bool} {d a c : Bool} {k : Int}, k = e.fKind → d = false → a = false → c = false → (b = true ↔ (4 ≤ e.fKind ∧ e.fKind ≤ 8)) → ¬ (e.fKind = 1 ∨ e.fKind = 13 ∨ e.fKind = 14 ∨ e.fKind = 2 ∨ e.fKind = 3) → T_gnomon_gnomonref9_Right_j4 n na d a c k b e H K := by
    intro b d a c k hk hd ha hc hb hn
    subst hk hd ha hc
    unfold T_gnomon_gnomonref9_Right_j4
    refine ⟨fun e1 => wd _ _ _ ?_ (kin (by have := hb.1 e1; omega) (by have := hb.1 e1; omega)), fun e1 => ?_⟩
    · rintro w rfl
      have := hb.1 e1
      unfold wantsS
      rw [if_neg (by omega), if_pos (by omega)]; exact ⟨rfl, rfl, rfl⟩
    · have h48 : ¬ (4 ≤ e.fKind ∧ e.fKind ≤ 8) := fun hx => by rw [hb.2 hx] at e1; cases e1
      refine ⟨fun h1 => wd _ _ _ ?_ (kin (by omega) (by omega)), fun h1 => ⟨fun h2 => wd _ _ _ ?_ (kin (by omega) (by omega)), fun h2 => ⟨fun h3 => j5 rfl ?_ (by omega), fun h3 => j5 rfl ?_ (by omega)⟩⟩⟩
      · rintro w rfl
        unfold wantsS
        rw [if_neg (by omega), if_neg (by omega), if_pos h1]; exact ⟨rfl, rfl, rfl⟩
      · rintro w rfl
        unfold wantsS
        rw [if_neg (by omega), if_neg (by omega), if_neg (by omega), if_pos h2]; exact ⟨rfl, rfl, rfl⟩
      · rw [decide_eq_true_eq]; omega
      · rw [decide_eq_true_eq]; omega
  have j3 : ∀ {b : Bool} {d a c : Bool} {k : Int}, k = e.fKind → d = false → a = false → c = false → (b = true ↔ (e.fKind = 2 ∨ e.fKind = 3)) → ¬ (e.fKind = 1 ∨ e.fKind = 13 ∨ e.fKind = 14) → T_gnomon_gnomonref9_Right_j3 n na d a c k b e H K := by
    intro b d a c k hk hd ha hc hb hn
    subst hk hd ha hc
    unfold T_gnomon_gnomonref9_Right_j3
    refine ⟨fun e1 => wd _ _ _ ?_ (kin (by have := hb.1 e1; omega) (by have := hb.1 e1; omega)), fun e1 => ?_⟩
    · rintro w rfl
      unfold wantsS
      rw [if_pos (hb.1 e1)]; exact ⟨rfl, rfl, rfl⟩
    · have h23 : ¬ (e.fKind = 2 ∨ e.fKind = 3) := fun hx => by rw [hb.2 hx] at e1; cases e1
      refine ⟨fun h1 => j4 rfl rfl rfl rfl ?_ (by omega), fun h1 => ⟨fun h2 => j4 rfl rfl rfl rfl ?_ (by omega), fun h2 => ⟨fun h3 => j4 rfl rfl rfl rfl ?_ (by omega), fun h3 => ⟨fun h4 => j4 rfl rfl rfl rfl ?_ (by omega), fun h4 => j4 rfl rfl rfl rfl ?_ (by omega)⟩⟩⟩⟩ <;> (rw [decide_eq_true_eq]; omega)
  have j2 : ∀ {b : Bool} {d a c : Bool} {k : Int}, k = e.fKind → d = false → a = false → c = false → (b = true ↔ (e.fKind = 1 ∨ e.fKind = 13 ∨ e.fKind = 14)) → T_gnomon_gnomonref9_Right_j2 n na d a c k b e H K := by
    intro b d a c k hk hd ha hc hb
    subst hk hd ha hc
    unfold T_gnomon_gnomonref9_Right_j2
    refine ⟨fun e1 => wd _ _ _ ?_ (kin (by have := hb.1 e1; omega) (by have := hb.1 e1; omega)), fun e1 => ?_⟩
    · rintro w rfl
      have := hb.1 e1
      unfold wantsS
      rw [if_neg (by omega), if_neg (by omega), if_neg (by omega), if_neg (by omega), if_neg (by omega), if_neg (by omega)]; exact ⟨rfl, rfl, rfl⟩
    · have h3 : ¬ (e.fKind = 1 ∨ e.fKind = 13 ∨ e.fKind = 14) := fun hx => by rw [hb.2 hx] at e1; cases e1
      refine ⟨fun h1 => j3 rfl rfl rfl rfl ?_ (by omega), fun h1 => j3 rfl rfl rfl rfl ?_ (by omega)⟩ <;> (rw [decide_eq_true_eq]; omega)
  unfold T_gnomon_gnomonref9_Right
  refine ⟨fun h1 => j2 rfl rfl rfl rfl ?_, fun h1 => ⟨fun h2 => j2 rfl rfl rfl rfl ?_, fun h2 => j2 rfl rfl rfl rfl ?_⟩⟩ <;> (rw [decide_eq_true_eq]; omega)
end
end Go.Proofs.Ytgapepdglhcglaa
