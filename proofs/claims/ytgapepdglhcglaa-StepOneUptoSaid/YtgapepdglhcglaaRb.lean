/-
  One step of a graph, and its law. Contracts off the printed formulas.
-/
import Derived.Test.YtgapepdglhcglaaR9
import Derived.Test.YtgapepdglhcglaaV1z
namespace Go.Proofs.Ytgapepdglhcglaa
open Go.RowKit
set_option maxRecDepth 100000
set_option maxHeartbeats 2000000

/-- values that fit a graph -/
def FitP (c : Tapi_Cfg) (ds : List Tapi_Decl) (vars : List Int) (arrs : List (List Int)) : Prop :=
  (vars.length : Int) = allS c ∧ arrs.length = ds.length ∧ ∀ (i : Nat) (xs : List Int) (d : Tapi_Decl), arrs[i]? = some xs → ds[i]? = some d → (xs.length : Int) = d.fSize
/-- what one step answers -/
inductive OneR (c : Tapi_Cfg) (vs : List ByteArray) (ds : List Tapi_Decl) (es : List Tapi_Edge) (vars : List Int) (arrs : List (List Int)) (input point : Int) : Int → Int → Int → Prop
  | bad : checkS c vs ds es ≠ 0 → OneR c vs ds es vars arrs input point 0 0 (checkS c vs ds es)
  | form : checkS c vs ds es = 0 → ¬ (0 ≤ point ∧ point < c.fPoints ∧ FitP c ds vars arrs) → OneR c vs ds es vars arrs input point 0 0 92
  | none : checkS c vs ds es = 0 → 0 ≤ point ∧ point < c.fPoints ∧ FitP c ds vars arrs → takeS es vars (idxS point 0 es) < 0 → OneR c vs ds es vars arrs input point (-1) 0 0
  | some {e : Tapi_Edge} : checkS c vs ds es = 0 → 0 ≤ point ∧ point < c.fPoints ∧ FitP c ds vars arrs → ¬ takeS es vars (idxS point 0 es) < 0 → edgeAt es (takeS es vars (idxS point 0 es)) = some e → OneR c vs ds es vars arrs input point (takeS es vars (idxS point 0 es)) (doesS e input vars arrs).1 0
section
variable {H : Hp} {c : Tapi_Cfg} {vs : List ByteArray} {ds : List Tapi_Decl} {es : List Tapi_Edge} {vars : List Int} {arrs : List (List Int)} {input point : Int}
theorem one_same {i i' w w' e e' : Int} (h1 : OneR c vs ds es vars arrs input point i w e) (h2 : OneR c vs ds es vars arrs input point i' w' e') : i = i' ∧ w = w' ∧ e = e' := by
  cases h1 with
  | bad h =>
    cases h2 with
    | bad _ => exact ⟨rfl, rfl, rfl⟩
    | form h' => exact (h h').elim
    | none h' => exact (h h').elim
    | some h' => exact (h h').elim
  | form h m =>
    cases h2 with
    | bad h' => exact (h' h).elim
    | form _ _ => exact ⟨rfl, rfl, rfl⟩
    | none _ m' => exact (m m').elim
    | some _ m' => exact (m m').elim
  | none h m t =>
    cases h2 with
    | bad h' => exact (h' h).elim
    | form _ m' => exact (m' m).elim
    | none _ _ _ => exact ⟨rfl, rfl, rfl⟩
    | some _ _ t' => exact (t' t).elim
  | some h m t a =>
    cases h2 with
    | bad h' => exact (h' h).elim
    | form _ m' => exact (m' m).elim
    | none _ _ t' => exact (t t').elim
    | some _ _ _ a' => rw [a] at a'; cases a'; exact ⟨rfl, rfl, rfl⟩
theorem fits_ok (G : GH H c vs ds es) {s1 s2 : Sl} (V : VH H s1 vars) (A : AH H s2 arrs) {K : Bool → Hp → Prop} (h1 : FitP c ds vars arrs → ∀ H', Hle H H' → K true H') (h0 : ¬ FitP c ds vars arrs → ∀ H', Hle H H' → K false H') : C_gnomon_step_fits c s1 s2 H K := by
  refine L_gnomon_step_fits _ _ _ ?_
  unfold T_gnomon_step_fits
  have n1 := V.h.1; have n2 := A.h.1; have na := G.a.1; have ba := G.ba
  have hall : IntKind.wrap .i64 ((c.fVars.n : Int) + c.fTemps) = allS c := rfl
  rw [hall]
  refine ⟨fun hc => h0 (fun f => ?_) H (Hle.refl _), fun hc => ?_⟩
  · obtain ⟨f1, f2, _⟩ := f
    have e1 : decide ((s1.n : Int) = allS c) = true := decide_eq_true (by omega)
    have e2 : decide ((s2.n : Int) = (c.fArrays.n : Int)) = true := decide_eq_true (by omega)
    rw [e1, e2] at hc; cases hc
  · simp at hc
    refine TL_of (fun (i : Int) H' => 0 ≤ i ∧ i ≤ arrs.length ∧ Hle H H' ∧ ∀ (j : Nat) (xs : List Int) (d : Tapi_Decl), (j : Int) < i → arrs[j]? = some xs → ds[j]? = some d → (xs.length : Int) = d.fSize) (fun i => (arrs.length - i).toNat) ⟨by omega, by omega, Hle.refl _, fun j xs d hj => by omega⟩ ?_
    rintro i H1 next ⟨i0, i1, l1, hi⟩ hn
    unfold T_gnomon_step_fits_l2
    refine ⟨fun hlt => ?_, fun hlt => ?_⟩
    · obtain ⟨si, xs, hx, hE, hS, _⟩ := (A.h.le l1).get i0 hlt
      obtain ⟨d, hd, hF⟩ := (G.a.le l1).get i0 (show i < (c.fArrays.n : Int) by omega)
      have hsn := hS.1
      refine ⟨i0, hlt, si, hE, i0, by omega, d, hF, fun hne => h0 (fun f => hne ?_) H1 l1, fun heq => ?_⟩
      · have := f.2.2 _ _ _ hx hd; omega
      · rw [wrap_1 i0 (by omega)]
        refine hn _ _ ⟨by omega, by omega, l1, fun j ys d' hj hy hd' => ?_⟩ (by omega)
        by_cases ej : j = i.toNat
        · subst ej
          rw [hx] at hy; cases hy
          rw [hd] at hd'; cases hd'
          omega
        · exact hi j ys d' (by omega) hy hd'
    · unfold T_gnomon_step_fits_j1
      refine h1 ⟨by omega, by omega, fun j xs d hx hd => hi j xs d ?_ hx hd⟩ H1 l1
      have := (List.getElem?_eq_some_iff.1 hx).1
      omega
theorem point_b : ((decide (point < 0)) || (decide (c.fPoints ≤ point))) = !decide (0 ≤ point ∧ point < c.fPoints) := by
  rw [Bool.eq_iff_iff]; simp; try omega
theorem step_One_ok (G : GH H c vs ds es) (hn : Nums es) {s1 s2 : Sl} (V : VH H s1 vars) (A : AH H s2 arrs) (hi : in64 input) {K : Int → Int → Int → Hp → Prop} (h : ∀ i w e H', Hle H H' → OneR c vs ds es vars arrs input point i w e → K i w e H') : C_gnomon_step_One c s1 s2 input point H K := by
  refine L_gnomon_step_One _ _ _ _ _ ?_
  unfold T_gnomon_step_One
  refine cfg_Check_ok G fun H1 l1 => ⟨fun hc => h _ _ _ H1 l1 (.bad hc), fun hc => ?_⟩
  have F := Fine.of hc
  rw [point_b]
  by_cases hp : 0 ≤ point ∧ point < c.fPoints
  rotate_left
  · rw [decide_eq_false hp]
    refine ⟨fun hc => (by cases hc), fun _ => ⟨fun _ => h _ _ _ H1 l1 (.form hc fun ⟨a, b, _⟩ => hp ⟨a, b⟩), fun hq => (by cases hq)⟩⟩
  rw [decide_eq_true hp]
  refine ⟨fun _ => ?_, fun hq => (hq (by trivial)).elim⟩
  refine fits_ok (G.le l1) (V.le l1) (A.le l1) (fun hf H2 l2 => ⟨fun hq => (by cases hq), fun _ => ?_⟩) fun hf H2 l2 => ⟨fun _ => h _ _ _ H2 (l1.trans l2) (.form hc fun ⟨_, _, f⟩ => hf f), fun hq => (by cases hq)⟩
  have hfit : 0 ≤ point ∧ point < c.fPoints ∧ FitP c ds vars arrs := ⟨hp.1, hp.2, hf⟩
  have l12 := l1.trans l2
  have hpp := F.p
  refine outs_ok (G.le l12) ⟨by omega, by omega⟩ F.be F.all fun fr H3 l3 hfr => ?_
  have l13 := l12.trans l3
  have bv := V.b; have ba := A.b
  refine ⟨vars, V.h.le l13, by simp only [List.length_nil]; omega, ?_⟩
  unfold T_gnomon_step_One_j1
  have n2 := A.h.1
  refine TL_of (fun (s : Int × Tapi_Cfg × Sl × Int × List (List Int)) H' => 0 ≤ s.1 ∧ s.1 ≤ arrs.length ∧ Hle H3 H' ∧ s.2.1 = c ∧ s.2.2.1 = fr ∧ s.2.2.2.1 = point ∧ s.2.2.2.2 = arrs.take s.1.toNat) (fun s => (arrs.length - s.1).toNat) ⟨Int.le_refl _, by simp, Hle.refl _, rfl, rfl, rfl, rfl⟩ ?_
  rintro ⟨i, c', fr', pt, ars⟩ H4 next ⟨i0, i1, l4, q1, q2, q3, q4⟩ hnx
  dsimp only at i0 i1 q1 q2 q3 q4 ⊢
  subst q1; subst q2; subst q3; subst q4
  have l14 := l13.trans l4
  unfold T_gnomon_step_One_l3
  refine ⟨fun hlt => ?_, fun hlt => ?_⟩
  · obtain ⟨si, xs, hx, hE, hS, _⟩ := (A.h.le l14).get i0 hlt
    have hb := A.br _ (List.mem_of_getElem? hx)
    refine ⟨i0, hlt, si, hE, xs, hS, by simp only [List.length_nil]; omega, by simp only [List.length_cons, List.length_nil, List.length_take]; omega, ?_⟩
    rw [wrap_1 i0 (by omega)]
    refine hnx _ _ ⟨by show 0 ≤ i + 1; omega, by show i + 1 ≤ _; omega, l4, rfl, rfl, rfl, ?_⟩ ?_
    · show arrs.take i.toNat ++ [xs] = arrs.take (i + 1).toNat
      rw [show (i + 1).toNat = i.toNat + 1 by omega]; exact (take_succ' hx).symm
    · show (arrs.length - (i + 1)).toNat < (arrs.length - i).toNat
      omega
  clear hnx
  rw [List.take_of_length_le (show arrs.length ≤ i.toNat by omega)]
  unfold T_gnomon_step_One_j2
  intro sc H5 l5 hsc hcap
  have l15 := l14.trans l5
  have G5 := G.le l15
  have hall := F.all
  have S : StOk c' ds [] 1 ⟨pt, vars, arrs, 0, [], 0⟩ := ⟨hp.1, hp.2, hf.1, hf.2.1, ⟨V.i, A.i⟩, Int.le_refl _, by show (0 : Int) ≤ 1; decide, by show ((0 : Nat) : Int) ≤ 0; decide, Nat.le_refl _⟩
  refine next_ok (x := ⟨c', fr', pt, ⟨none, 0, 0⟩, ⟨none, 0, 0⟩, sc, ⟨none, 0, 0⟩⟩) G5 (hfr.le (l4.trans l5)) hp.1 hp.2 hall (F.forks _ hp.1 hp.2) (S.ops G hn hall) F.op ?_
  dsimp only
  by_cases ht : takeS es vars (idxS pt 0 es) < 0
  · rw [decide_eq_false (show ¬ 0 ≤ takeS es vars (idxS pt 0 es) by omega)]
    exact ⟨fun _ => h _ _ _ H5 l15 (.none hc hfit ht), fun hq => (by cases hq)⟩
  rw [decide_eq_true (show 0 ≤ takeS es vars (idxS pt 0 es) by omega)]
  refine ⟨fun hq => (by cases hq), fun _ => ?_⟩
  obtain ⟨e, hg, hat⟩ := take_edge ht
  obtain ⟨e', he', hE⟩ := G5.e.get (i := takeS es vars (idxS pt 0 es)) (by omega) (by have := (List.getElem?_eq_some_iff.1 hg).1; have := G.e.1; omega)
  rw [hg] at he'; cases he'
  have hlt' := (List.getElem?_eq_some_iff.1 hg).1
  have hem := List.mem_of_getElem? hg
  have t0 : 0 ≤ takeS es vars (idxS pt 0 es) := by omega
  have t1 : takeS es vars (idxS pt 0 es) < (c'.fEdges.n : Int) := by have := G.e.1; omega
  have E := S.edge G hn hem hall
  have hkd := F.kind hem
  have k14 : 1 ≤ e.fKind ∧ e.fKind ≤ 14 := by unfold kindS at hkd; simpa using hkd
  refine ⟨t0, t1, e, hE, ?_⟩
  refine L_gnomon_step_table ?_
  unfold T_gnomon_step_table
  refine ⟨by omega, by omega, fun r0 y0 y3 y4 y6 H6 => r0 = (doesS e input vars arrs).1 ∧ H6 = H5, ?_, ?_⟩
  · rintro r0 y0 y3 y4 y6 H6 ⟨rfl, rfl⟩
    exact h _ _ _ H6 l15 (.some hc hfit ht hat)
  · exact table_all (x := ⟨c', fr', pt, ⟨none, 0, 0⟩, ⟨none, 0, 0⟩, sc, ⟨none, 0, 0⟩⟩) (i := input) (l := [input]) E hkd (by simp) hsc hcap (fun _ => ⟨[], rfl⟩) fun sc' _ _ => ⟨rfl, rfl⟩
theorem Out_ok (G : GH H c vs ds es) (hb : (es.length : Int) ≤ 8192) {p : Int} {K : Sl → Hp → Prop} (h : ∀ s H', Hle H H' → SlH H' 1 cs_int s (idxS p 0 es) → K s H') : C_gnomon_gnomonref9_Out c p H K := by
  refine L_gnomon_gnomonref9_Out _ _ ?_
  unfold T_gnomon_gnomonref9_Out
  have ne := G.e.1
  refine TL_of (fun (s : List Int × Int) H' => 0 ≤ s.2 ∧ s.2 ≤ es.length ∧ Hle H H' ∧ s.1 = idxS p 0 (es.take s.2.toNat)) (fun s => (es.length - s.2).toNat) ⟨Int.le_refl _, by simp, Hle.refl _, rfl⟩ ?_
  rintro ⟨l, i⟩ H1 next ⟨i0, i1, l1, q⟩ hn
  dsimp only at i0 i1 q ⊢
  subst q
  unfold T_gnomon_gnomonref9_Out_l2
  refine ⟨fun hlt => ?_, fun hlt => ?_⟩
  · obtain ⟨e, he, hE⟩ := (G.e.le l1).get i0 hlt
    have tk : es.take (i + 1).toNat = es.take i.toNat ++ [e] := by
      rw [show (i + 1).toNat = i.toNat + 1 by omega]; exact take_succ' he
    have hl : ((es.take i.toNat).length : Int) = i := by rw [List.length_take]; omega
    have happ : idxS p 0 (es.take (i + 1).toNat) = idxS p 0 (es.take i.toNat) ++ (if e.fFrom = p then [i] else []) := by
      rw [tk, idxS_app, hl, Int.zero_add]
    have hxl : (idxS p 0 (es.take i.toNat)).length ≤ 8192 := by
      rw [idxS_len]
      have := from_len (es.take i.toNat) p
      rw [List.length_take] at this
      omega
    have fin : ∀ l', l' = idxS p 0 (es.take (i + 1).toNat) → T_gnomon_gnomonref9_Out_j3 p l' i c H1 next K := by
      intro l' hl'
      unfold T_gnomon_gnomonref9_Out_j3
      rw [wrap_1 i0 (by omega)]
      exact hn _ _ ⟨by show 0 ≤ i + 1; omega, by show i + 1 ≤ _; omega, l1, hl'⟩ (by show (es.length - (i + 1)).toNat < (es.length - i).toNat; omega)
    refine ⟨i0, hlt, e, hE, fun hq => ⟨by simp only [List.length_cons, List.length_nil]; omega, fin _ ?_⟩, fun hq => fin _ ?_⟩
    · rw [happ, if_pos hq]
    · rw [happ, if_neg hq, List.append_nil]
  · rw [List.take_of_length_le (show es.length ≤ i.toNat by omega)]
    unfold T_gnomon_gnomonref9_Out_j1
    intro s H2 l2 hs _
    exact h s H2 (l1.trans l2) hs
theorem ref_One_ok (G : GH H c vs ds es) (hn : Nums es) {s1 s2 : Sl} (V : VH H s1 vars) (A : AH H s2 arrs) (hi : in64 input) {K : Int → Int → Sl → Int → Hp → Prop} (h : ∀ i w s e H', Hle H H' → OneR c vs ds es vars arrs input point i w e → K i w s e H') : C_gnomon_gnomonref10_One c s1 s2 input point H K := by
  refine L_gnomon_gnomonref10_One _ _ _ _ _ ?_
  unfold T_gnomon_gnomonref10_One
  refine ref_Check_ok G fun H1 l1 => ⟨fun hc => h _ _ _ _ H1 l1 (.bad hc), fun hc => ?_⟩
  have F := Fine.of hc
  rw [point_b]
  by_cases hp : 0 ≤ point ∧ point < c.fPoints
  rotate_left
  · rw [decide_eq_false hp]
    refine ⟨fun hc => (by cases hc), fun _ => ⟨fun _ => h _ _ _ _ H1 l1 (.form hc fun ⟨a, b, _⟩ => hp ⟨a, b⟩), fun hq => (by cases hq)⟩⟩
  rw [decide_eq_true hp]
  have n1 := V.h.1; have n2 := A.h.1; have na := G.a.1; have bv := V.b; have ba := A.b
  refine ⟨fun _ => All_ok ⟨fun hq => h _ _ _ _ H1 l1 (.form hc fun ⟨_, _, f⟩ => ?_), fun hq => ?_⟩, fun hq => (hq (by trivial)).elim⟩
  · have e1 : decide ((s1.n : Int) = allS c) = true := decide_eq_true (by have := f.1; omega)
    have e2 : decide ((s2.n : Int) = (c.fArrays.n : Int)) = true := decide_eq_true (by have := f.2.1; omega)
    rw [e1, e2] at hq; cases hq
  simp at hq
  refine ⟨vars, V.h.le l1, by simp only [List.length_nil]; omega, ?_⟩
  refine TL_of (fun (s : Int × List (List Int)) H' => 0 ≤ s.1 ∧ s.1 ≤ arrs.length ∧ Hle H1 H' ∧ s.2 = arrs.take s.1.toNat ∧ ∀ (j : Nat) (xs : List Int) (d : Tapi_Decl), (j : Int) < s.1 → arrs[j]? = some xs → ds[j]? = some d → (xs.length : Int) = d.fSize) (fun s => (arrs.length - s.1).toNat) ⟨Int.le_refl _, by simp, Hle.refl _, rfl, fun j xs d (hj : (j : Int) < 0) => by omega⟩ ?_
  rintro ⟨i, ars⟩ H2 next ⟨i0, i1, l2, q4, hj⟩ hnx
  dsimp only at i0 i1 q4 hj ⊢
  subst q4
  have l12 := l1.trans l2
  unfold T_gnomon_gnomonref10_One_l2
  refine ⟨fun hlt => ?_, fun hlt => ?_⟩
  · obtain ⟨si, xs, hx, hE, hS, _⟩ := (A.h.le l12).get i0 hlt
    obtain ⟨d, hd, hF⟩ := (G.a.le l12).get i0 (show i < (c.fArrays.n : Int) by omega)
    have hb := A.br _ (List.mem_of_getElem? hx)
    have hsn := hS.1
    refine ⟨i0, hlt, si, hE, i0, by omega, d, hF, fun hne => h _ _ _ _ H2 l12 (.form hc fun ⟨_, _, f⟩ => hne ?_), fun heq => ⟨xs, hS, by simp only [List.length_nil]; omega, by simp only [List.length_cons, List.length_nil, List.length_take]; omega, ?_⟩⟩
    · have := f.2.2 _ _ _ hx hd; omega
    rw [wrap_1 i0 (by omega)]
    refine hnx _ _ ⟨by show 0 ≤ i + 1; omega, by show i + 1 ≤ _; omega, l2, ?_, fun j ys d' hj' hy hd' => ?_⟩ ?_
    · show arrs.take i.toNat ++ [xs] = arrs.take (i + 1).toNat
      rw [show (i + 1).toNat = i.toNat + 1 by omega]; exact (take_succ' hx).symm
    · by_cases ej : j = i.toNat
      · subst ej
        rw [hx] at hy; cases hy
        rw [hd] at hd'; cases hd'
        omega
      · exact hj j ys d' (by dsimp only at hj'; omega) hy hd'
    · show (arrs.length - (i + 1)).toNat < (arrs.length - i).toNat
      omega
  clear hnx
  have hf : FitP c ds vars arrs := ⟨by omega, by omega, fun j xs d hx hd => hj j xs d (by have := (List.getElem?_eq_some_iff.1 hx).1; omega) hx hd⟩
  have hfit : 0 ≤ point ∧ point < c.fPoints ∧ FitP c ds vars arrs := ⟨hp.1, hp.2, hf⟩
  rw [List.take_of_length_le (show arrs.length ≤ i.toNat by omega)]
  unfold T_gnomon_gnomonref10_One_j1
  refine Out_ok (G.le l12) F.be fun so H3 l3 hso => ?_
  have l13 := l12.trans l3
  have hall := F.all
  have S : StOk c ds [] 1 ⟨point, vars, arrs, 0, [], 0⟩ := ⟨hp.1, hp.2, hf.1, hf.2.1, ⟨V.i, A.i⟩, Int.le_refl _, by show (0 : Int) ≤ 1; decide, by show ((0 : Nat) : Int) ≤ 0; decide, Nat.le_refl _⟩
  refine taken_ok (G.le l13) hso (S.ops G hn hall) fun H4 l4 => ?_
  have l14 := l13.trans l4
  have G4 := G.le l14
  by_cases ht : takeS es vars (idxS point 0 es) < 0
  · exact ⟨fun _ s H5 l5 _ _ => h _ _ _ _ H5 (l14.trans l5) (.none hc hfit ht), fun hq => (hq ht).elim⟩
  refine ⟨fun hq => (ht hq).elim, fun _ => ?_⟩
  obtain ⟨e, hg, hat⟩ := take_edge ht
  obtain ⟨e', he', hE⟩ := G4.e.get (i := takeS es vars (idxS point 0 es)) (by omega) (by have := (List.getElem?_eq_some_iff.1 hg).1; have := G.e.1; omega)
  rw [hg] at he'; cases he'
  have hlt' := (List.getElem?_eq_some_iff.1 hg).1
  have hem := List.mem_of_getElem? hg
  have t0 : 0 ≤ takeS es vars (idxS point 0 es) := by omega
  have t1 : takeS es vars (idxS point 0 es) < (c.fEdges.n : Int) := by have := G.e.1; omega
  have E := S.edge G hn hem hall
  refine ⟨t0, t1, e, hE, rdoes_ok E (F.kind hem) ?_⟩
  intro s H5 l5 _ _
  exact h _ _ _ _ H5 (l14.trans l5) (.some hc hfit ht hat)
/-- THE LAW StepOne -/
theorem one_law (G : GH H c vs ds es) (hn : Nums es) {s1 s2 : Sl} (V : VH H s1 vars) (A : AH H s2 arrs) (hi : in64 input) {K : Bool → Hp → Prop} (h : ∀ H', Hle H H' → K true H') : C_gnomon_gnomonlaw10_StepOne c s1 s2 input point H K := by
  refine L_gnomon_gnomonlaw10_StepOne _ _ _ _ _ ?_
  unfold T_gnomon_gnomonlaw10_StepOne
  refine known_ok fun H1 l1 => ⟨fun hc => (by cases hc), fun _ => ?_⟩
  have bv := V.b; have ba := A.b; have n2 := A.h.1
  refine ⟨vars, V.h.le l1, by simp only [List.length_nil]; omega, ?_⟩
  refine TL_of (fun (s : List (List Int) × Int) H' => 0 ≤ s.2 ∧ s.2 ≤ arrs.length ∧ Hle H H' ∧ s.1 = arrs.take s.2.toNat) (fun s => (arrs.length - s.2).toNat) ⟨Int.le_refl _, by simp, l1, rfl⟩ ?_
  rintro ⟨ars, i⟩ H2 next ⟨i0, i1, l2, q4⟩ hnx
  dsimp only at i0 i1 q4 ⊢
  subst q4
  unfold T_gnomon_gnomonlaw10_StepOne_l4
  refine ⟨fun hlt => ?_, fun hlt => ?_⟩
  · obtain ⟨si, xs, hx, hE, hS, _⟩ := (A.h.le l2).get i0 hlt
    have hb := A.br _ (List.mem_of_getElem? hx)
    refine ⟨i0, hlt, si, hE, xs, hS, by simp only [List.length_nil]; omega, by simp only [List.length_cons, List.length_nil, List.length_take]; omega, ?_⟩
    rw [wrap_1 i0 (by omega)]
    refine hnx _ _ ⟨by show 0 ≤ i + 1; omega, by show i + 1 ≤ _; omega, l2, ?_⟩ ?_
    · show arrs.take i.toNat ++ [xs] = arrs.take (i + 1).toNat
      rw [show (i + 1).toNat = i.toNat + 1 by omega]; exact (take_succ' hx).symm
    · show (arrs.length - (i + 1)).toNat < (arrs.length - i).toNat
      omega
  clear hnx
  rw [List.take_of_length_le (show arrs.length ≤ i.toNat by omega)]
  unfold T_gnomon_gnomonlaw10_StepOne_j1
  intro sv H3 l3 hsv hcv sa H4 l4 hsa hca
  have l24 := l2.trans (l3.trans l4)
  refine step_One_ok (G.le l24) hn ⟨hsv.le l4, bv, V.i⟩ ⟨hsa, ba, A.br, A.i⟩ hi fun i' w' e' H5 l5 hr => ?_
  have l25 := l24.trans l5
  refine TL_of (fun (j : Int) H' => 0 ≤ j ∧ j ≤ arrs.length ∧ Hle H5 H') (fun j => (arrs.length - j).toNat) ⟨Int.le_refl _, by simp, Hle.refl _⟩ ?_
  rintro j H6 next ⟨j0, j1, l6⟩ hnx
  unfold T_gnomon_gnomonlaw10_StepOne_l3
  have l26 := l25.trans l6
  have nsa := hsa.1
  refine ⟨fun hlt2 => ?_, fun hlt2 => ?_⟩
  · obtain ⟨si, xs, hx, hE, hS, _⟩ := (hsa.le (l5.trans l6)).get j0 (show j < (sa.n : Int) by omega)
    obtain ⟨sj, ys, hy, hF, hT, _⟩ := (A.h.le l26).get j0 hlt2
    rw [hx] at hy; cases hy
    refine ⟨j0, by omega, si, hE, j0, hlt2, sj, hF, Longs_same hS hT (A.br _ (List.mem_of_getElem? hx)) fun H7 l7 => ⟨fun hq => (by cases hq), fun _ => ?_⟩⟩
    rw [wrap_1 j0 (by omega)]
    exact hnx _ _ ⟨by omega, by omega, l6.trans l7⟩ (by omega)
  · unfold T_gnomon_gnomonlaw10_StepOne_j2
    refine ref_One_ok (G.le l26) hn (V.le l26) (A.le l26) hi fun i2 w2 s2 e2 H7 l7 hr2 => ?_
    obtain ⟨rfl, rfl, rfl⟩ := one_same hr hr2
    simp only [decide_true, Bool.true_and, Bool.and_true]
    exact ⟨fun _ => Longs_same (hsv.le (l4.trans (l5.trans (l6.trans l7)))) (V.h.le (l26.trans l7)) bv fun H8 l8 => h H8 (l26.trans (l7.trans l8)), fun hq => (hq (by trivial)).elim⟩
end
end Go.Proofs.Ytgapepdglhcglaa
