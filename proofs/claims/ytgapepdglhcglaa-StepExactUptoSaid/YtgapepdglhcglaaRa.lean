/-
  The document's run of a graph; the law of runs. Contracts off the printed formulas.
-/
import Derived.Test.YtgapepdglhcglaaR9
import Derived.Test.YtgapepdglhcglaaV1y
namespace Go.Proofs.Ytgapepdglhcglaa
open Go.RowKit
set_option maxRecDepth 100000
set_option maxHeartbeats 2000000

section
variable {H : Hp} {c : Tapi_Cfg} {vs : List ByteArray} {ds : List Tapi_Decl} {es : List Tapi_Edge} {scr : List Int} {k : Int}
theorem ref_end (G : GH H c vs ds es) {K : Tapi_Outcome → Int → Int → Hp → Prop} {r : Int × Int × RS} {o' : Tapi_Outcome} {z1 z2 : Sl} {st wr sp pt : Int} {vars : List Int} {arrs : List (List Int)} {evs : List Tapi_Event}
    (hv : (vs.length : Int) ≤ vars.length) (hr : r = (st, wr, ⟨pt, vars, arrs, r.2.2.inp, evs, sp⟩))
    (h : ∀ s1 s2 s3 H', Hle H H' → SlH H' 3 cs_api_Event s1 r.2.2.evs → SlH H' 1 cs_int64 s2 (r.2.2.vars.take vs.length) → SlHH H' 1 cs_int64 s3 r.2.2.arrs → K ⟨r.1, r.2.1, r.2.2.steps, s1, s2, s3⟩ r.2.2.pt 0 H') :
    T_gnomon_gnomonref10_Run_j3 pt st wr sp evs z1 z2 vars arrs o' c H K := by
  unfold T_gnomon_gnomonref10_Run_j3
  intro s2 H1 l1 hs2 b2
  have hn := G.v.1
  have hn2 := hs2.1
  refine ⟨by omega, by omega, by omega, fun s1 H2 l2 hs1 b1 s3 H3 l3 hs3 b3 => ?_⟩
  have := h s1 (s2.cut 0 ((c.fVars.n : Int) : Int).toNat ((c.fVars.n : Int) : Int).toNat 1) s3 H3 (l1.trans (l2.trans l3))
  rw [hr] at this
  refine this (hs1.le l3) ?_ hs3
  have hc := (hs2.le (l2.trans l3)).cut (l := 0) (h := ((c.fVars.n : Int) : Int).toNat) (m := ((c.fVars.n : Int) : Int).toNat) (by omega) (by omega) (Nat.le_refl _)
  rw [List.drop_zero, show ((c.fVars.n : Int) : Int).toNat = vs.length by omega] at hc
  rw [show ((c.fVars.n : Int) : Int).toNat = vs.length by omega]
  exact hc
theorem ref_loop (G : GH H c vs ds es) (F : Fine c vs ds es) (hn : Nums es) {xss : List (List Int)} (hr : RowsAt c.fPoints (fun p => idxS p 0 es) xss) {s0 : Sl} (hs : SlH H 1 cs_int64 s0 scr) (hsc : ∀ x ∈ scr, in64 x) (k0 : 0 ≤ k) (k1 : k ≤ 65536) (hsl : (scr.length : Int) ≤ 65536) {o' : Tapi_Outcome} {K : Tapi_Outcome → Int → Int → Hp → Prop}
    (h : ∀ s1 s2 s3 H', Hle H H' → SlH H' 3 cs_api_Event s1 (wholeS c ds es scr k).2.2.evs → SlH H' 1 cs_int64 s2 ((wholeS c ds es scr k).2.2.vars.take vs.length) → SlHH H' 1 cs_int64 s3 (wholeS c ds es scr k).2.2.arrs → K ⟨(wholeS c ds es scr k).1, (wholeS c ds es scr k).2.1, (wholeS c ds es scr k).2.2.steps, s1, s2, s3⟩ (wholeS c ds es scr k).2.2.pt 0 H') :
    T_gnomon_gnomonref10_Run_j2 s0 k xss (List.replicate (allS c).toNat 0) (rowsS ds) o' c H K := by
  unfold T_gnomon_gnomonref10_Run_j2
  intro sf H0 l0 hsf _
  have hf := FromH.of hr hsf
  have ne := G.e.1
  have hvar : ∀ {s : RS}, StOk c ds scr k s → (vs.length : Int) ≤ s.vars.length := fun S => by
    have := S.nv; rw [allS_eq G F.t.1 F.t.2.1] at this; have := F.t.1; omega
  have fin : ∀ {H2 : Hp} (_ : Hle H H2) {r : Int × Int × RS} (_ : r = wholeS c ds es scr k), ∀ s1 s2 s3 H', Hle H2 H' → SlH H' 3 cs_api_Event s1 r.2.2.evs → SlH H' 1 cs_int64 s2 (r.2.2.vars.take vs.length) → SlHH H' 1 cs_int64 s3 r.2.2.arrs → K ⟨r.1, r.2.1, r.2.2.steps, s1, s2, s3⟩ r.2.2.pt 0 H' := by
    intro H2 l2 r hr s1 s2 s3 H' l a b d
    subst hr
    exact h s1 s2 s3 H' (l2.trans l) a b d
  refine TL_of (fun (s : Int × Int × Int × Int × Int × List Tapi_Event × Sl × Sl × List Int × List (List Int) × Tapi_Outcome) H' => Hle H0 H' ∧ s.2.2.1 = 1 ∧ s.2.2.2.1 = 0 ∧ 0 ≤ s.2.1 ∧
      StOk c ds scr k ⟨s.1, s.2.2.2.2.2.2.2.2.1, s.2.2.2.2.2.2.2.2.2.1, s.2.1.toNat, s.2.2.2.2.2.1, s.2.2.2.2.1⟩ ∧
      runS es scr k ((k - s.2.2.2.2.1).toNat + 1) ⟨s.1, s.2.2.2.2.2.2.2.2.1, s.2.2.2.2.2.2.2.2.2.1, s.2.1.toNat, s.2.2.2.2.2.1, s.2.2.2.2.1⟩ = wholeS c ds es scr k) (fun s => (k - s.2.2.2.2.1).toNat) ?_ ?_
  · refine ⟨Hle.refl _, rfl, rfl, Int.le_refl _, start_ok G F k0, ?_⟩
    show runS es scr k ((k - 0).toNat + 1) _ = _
    rw [Int.sub_zero]; rfl
  rintro ⟨pt, inp, st, wr, sp, evs, z1, z2, vars, arrs, oo⟩ H2 next ⟨l2, hst, hwr, hin, S, hrun⟩ hnx
  dsimp only at hst hwr hin S hrun ⊢
  subst hst; subst hwr
  obtain ⟨n, rfl⟩ := Int.eq_ofNat_of_zero_le hin
  simp only [Int.toNat_natCast] at S hrun
  unfold T_gnomon_gnomonref10_Run_l4
  refine ⟨fun _ => ?_, fun hc => (hc rfl).elim⟩
  have l02 := l0.trans l2
  have G2 := G.le l02
  have hall := F.all
  have hops := S.ops G hn hall
  have hv := hvar S
  have q0 := S.s0; have q1 := S.s1; have sne := S.ne; have sni := S.ni
  dsimp only at q0 q1 sne sni
  obtain ⟨si, hE0, hsi⟩ := (hf.le l2).row _ S.p0 S.p1
  refine ⟨S.p0, by rw [hf.n]; exact S.p1, si, hE0, ?_⟩
  refine taken_ok G2 hsi hops fun H3 l3 => ?_
  have l03 := l02.trans l3
  have G3 := G2.le l3
  dsimp only
  have hln := hs.1
  by_cases hi : takeS es vars (idxS pt 0 es) < 0
  · rw [runS_none (edgeAt_none hi)] at hrun
    refine ⟨⟨0, 0, 0, 0, 0, 0, ⟨0, 0⟩, ⟨0, 0⟩⟩, fun hc => ?_, fun hc => ?_, fun hc => ?_⟩
    · simp at hc; omega
    · exact ref_end G3 hv rfl (fin l03 hrun)
    · simp at hc; omega
  obtain ⟨e, hg, hat⟩ := take_edge hi
  obtain ⟨e', he', hE⟩ := G3.e.get (i := takeS es vars (idxS pt 0 es)) (by omega) (by have := (List.getElem?_eq_some_iff.1 hg).1; omega)
  rw [hg] at he'; cases he'
  have hlt := (List.getElem?_eq_some_iff.1 hg).1
  have hem := List.mem_of_getElem? hg
  rw [runS_some hat] at hrun
  have t0 : 0 ≤ takeS es vars (idxS pt 0 es) := by omega
  have t1 : takeS es vars (idxS pt 0 es) < (c.fEdges.n : Int) := by omega
  have hb : ((decide (takeS es vars (idxS pt 0 es) < 0)) || ((decide (e.fKind = 9)) && (decide ((n : Int) = (s0.n : Int))))) = decide (e.fKind = 9 ∧ scr.length ≤ n) := by
    rw [show decide (takeS es vars (idxS pt 0 es) < 0) = false by simpa using hi]
    rw [Bool.eq_iff_iff]
    by_cases h9 : e.fKind = 9 <;> simp [h9]
    omega
  refine ⟨e, fun _ => ⟨t0, t1, hE⟩, ?_⟩
  rw [hb]
  refine ⟨fun hc => ?_, fun hc => ⟨fun hs => ?_, fun hsk => ?_⟩⟩
  · rw [if_pos (of_decide_eq_true hc)] at hrun
    exact ref_end G3 hv rfl (fin l03 hrun)
  · rw [if_neg (of_decide_eq_false hc), if_pos hs] at hrun
    exact ref_end G3 hv rfl (fin l03 hrun)
  have hc' := of_decide_eq_false hc
  rw [if_neg hc', if_neg hsk] at hrun
  have E := S.edge G hn hem hall
  have S' := S.next G hn hsc hem hall hsk hc'
  have hlv := (doesS_len e (inpS e scr n) vars arrs).1
  have j6 : ∀ {ev2 : List Tapi_Event} {n2 : Nat} {i : Int}, ev2 = evS e (inpS e scr n) evs → n2 = (if e.fKind = 9 then n + 1 else n) → i = inpS e scr n →
      T_gnomon_gnomonref10_Run_j6 s0 k sf pt (n2 : Int) i 1 0 (sp + 1) ev2 z1 z2 e vars arrs oo c H3 next K := by
    intro ev2 n2 i h1 h2 h3
    subst h1; subst h2; subst h3
    unfold T_gnomon_gnomonref10_Run_j6
    refine rdoes_ok E (F.kind hem) ⟨fun (hw : ¬ wrongS e scr ⟨pt, vars, arrs, n, evs, sp⟩ = 0) => ?_, fun (hw : wrongS e scr ⟨pt, vars, arrs, n, evs, sp⟩ = 0) => ?_⟩
    · rw [if_neg hw] at hrun
      refine ref_end G3 ?_ rfl (fin l03 hrun)
      rw [hlv]; exact hv
    · rw [if_pos hw] at hrun
      have hfl : (k - sp).toNat = (k - (sp + 1)).toNat + 1 := by omega
      rw [hfl] at hrun
      refine hnx _ _ ⟨l2.trans l3, rfl, rfl, ?_, ?_, ?_⟩ ?_
      · show (0 : Int) ≤ ((if e.fKind = 9 then n + 1 else n : Nat) : Int)
        omega
      · simp only [Int.toNat_natCast]; exact S'
      · simp only [Int.toNat_natCast]; exact hrun
      · show (k - (sp + 1)).toNat < (k - sp).toNat
        omega
  have j5 : ∀ {ev2 : List Tapi_Event} {n2 : Nat} {i : Int}, (e.fKind = 9 → ev2 = evs ++ [⟨true, inpS e scr n, false⟩]) → (¬ e.fKind = 9 → ev2 = evs) → n2 = (if e.fKind = 9 then n + 1 else n) → i = inpS e scr n →
      T_gnomon_gnomonref10_Run_j5 s0 k sf pt (n2 : Int) i 1 0 (sp + 1) ev2 z1 z2 e vars arrs oo c H3 next K := by
    intro ev2 n2 i h1 h1' h2 h3
    unfold T_gnomon_gnomonref10_Run_j5
    refine ⟨fun hq => ?_, fun hq => j6 ?_ h2 h3⟩
    · have h9 : ¬ e.fKind = 9 := by simp at hq; omega
      rw [h1' h9]
      refine ⟨by simp only [List.length_cons, List.length_nil]; omega, j6 ?_ h2 h3⟩
      unfold evS
      simp at hq
      rcases hq with hq | hq <;> simp [hq]
    · simp at hq
      unfold evS
      by_cases h9 : e.fKind = 9
      · rw [if_pos h9]; exact h1 h9
      · rw [if_neg h9, if_neg hq.1, if_neg hq.2]; exact h1' h9
  rw [wrap_1 q0 (by omega)]
  refine ⟨t0, t1, e, hE, fun h9 => ?_, fun h9 => j5 (fun h => (h9 h).elim) (fun _ => rfl) (by rw [if_neg h9]) (by unfold inpS; rw [if_neg h9])⟩
  have hlt9 : n < scr.length := by omega
  obtain ⟨y, hy, hEy⟩ := (hs.le l03).get (i := (n : Int)) (by omega) (by omega)
  have hyi : y = inpS e scr n := by
    unfold inpS
    rw [if_pos h9, List.getD_eq_getElem?_getD]
    rw [Int.toNat_natCast] at hy
    rw [hy]; rfl
  refine ⟨by omega, by omega, y, hEy, by simp only [List.length_cons, List.length_nil]; omega, ?_⟩
  rw [wrap_1 (by omega) (by omega)]
  exact j5 (n2 := n + 1) (fun _ => by rw [hyi]) (fun h => (h h9).elim) (by rw [if_pos h9]) hyi
theorem ref_Run_ok (G : GH H c vs ds es) (hn : Nums es) {s0 : Sl} (hs : SlH H 1 cs_int64 s0 scr) (hsc : ∀ x ∈ scr, in64 x) {K : Tapi_Outcome → Int → Int → Hp → Prop}
    (h : ∀ o p e H', Hle H H' → RunR H' c vs ds es scr k o p e → K o p e H') : C_gnomon_gnomonref10_Run c s0 k H K := by
  refine L_gnomon_gnomonref10_Run _ _ _ ?_
  unfold T_gnomon_gnomonref10_Run
  refine ref_Check_ok G fun H1 l1 => ⟨fun hc => h _ _ _ H1 l1 (.bad hc), fun hc => ?_⟩
  rw [many_b (scr := scr) (by have := hs.1; omega)]
  refine ⟨fun hm => h _ _ _ H1 l1 (.many hc (of_decide_eq_true hm)), fun hm => ?_⟩
  have hm' := of_decide_eq_false hm
  have F := Fine.of hc
  have hp := F.p
  have hz := all_size G F
  have hbe := F.be
  refine ⟨by omega, by omega, ?_⟩
  have G1 := G.le l1
  have ne := G.e.1
  refine TL_of (fun (s : List (List Int) × Int × Tapi_Outcome) H' => 0 ≤ s.2.1 ∧ s.2.1 ≤ es.length ∧ Hle H1 H' ∧ RowsAt c.fPoints (fun p => idxS p 0 (es.take s.2.1.toNat)) s.1) (fun s => (es.length - s.2.1).toNat)
    ⟨by simp, by simp, Hle.refl _, RowsAt.start (by omega) fun p => rfl⟩ ?_
  rintro ⟨xss, i, oo⟩ H2 next ⟨i0, i1, l2, hr⟩ hnx
  dsimp only at i0 i1 hr ⊢
  unfold T_gnomon_gnomonref10_Run_l8
  have G2 := G1.le l2
  refine ⟨fun hc2 => ?_, fun hc2 => ?_⟩
  · obtain ⟨e, he, hE⟩ := G2.e.get i0 (show i < (c.fEdges.n : Int) by omega)
    obtain ⟨f0, f1⟩ := edgeS_from (List.all_eq_true.1 F.all e (List.mem_of_getElem? he))
    have tk : es.take (i + 1).toNat = es.take i.toNat ++ [e] := by
      rw [show (i + 1).toNat = i.toNat + 1 by omega]; exact take_succ' he
    have hlt : ((es.take i.toNat).length : Int) = i := by rw [List.length_take]; omega
    obtain ⟨xs, hx, hxe, hr2⟩ := hr.put (g := fun p => idxS p 0 (es.take (i + 1).toNat)) f0 f1 (x := i) (fun p => by rw [tk, idxS_app, hlt, Int.zero_add])
    have hxl : xs.length ≤ 8192 := by
      rw [hxe, idxS_len]
      have := from_len (es.take i.toNat) e.fFrom
      rw [List.length_take] at this
      omega
    refine ⟨i0, by omega, e, hE, f0, xs, hx, by simp; omega, ?_⟩
    rw [wrap_1 i0 (by omega)]
    exact hnx _ _ ⟨by show 0 ≤ i + 1; omega, by show i + 1 ≤ _; omega, l2, hr2⟩ (by show (es.length - (i + 1)).toNat < (es.length - i).toNat; omega)
  have htk : es.take i.toNat = es := List.take_of_length_le (by omega)
  rw [htk] at hr
  unfold T_gnomon_gnomonref10_Run_j1
  refine All_ok ⟨hz.1, hz.2, ?_⟩
  have na := G.a.1
  have bd := F.bd
  refine TL_of (fun (s : Int × List (List Int) × Tapi_Outcome) H' => 0 ≤ s.1 ∧ s.1 ≤ ds.length ∧ Hle H2 H' ∧ s.2.1 = rowsS (ds.take s.1.toNat)) (fun s => (ds.length - s.1).toNat) ⟨Int.le_refl _, by simp, Hle.refl _, rfl⟩ ?_
  clear hnx
  rintro ⟨j, arrs, oo2⟩ H3 next ⟨j0, j1, l3, q4⟩ hnx
  dsimp only at j0 j1 q4 ⊢
  subst q4
  have l13 := l2.trans l3
  unfold T_gnomon_gnomonref10_Run_l7
  refine ⟨fun hlt => ?_, fun hlt => ?_⟩
  · obtain ⟨d, hd, hE⟩ := (G1.le l13).a.get j0 hlt
    have hz := size_ok F (List.mem_of_getElem? hd)
    have hl := rowsS_len (ds := ds) j
    refine ⟨j0, hlt, d, hE, hz.1, hz.2, by simp only [List.length_cons, List.length_nil]; omega, ?_⟩
    rw [wrap_1 j0 (by omega)]
    refine hnx _ _ ⟨by show 0 ≤ j + 1; omega, by show j + 1 ≤ _; omega, l3, (rowsS_succ j0 hd).symm⟩ ?_
    show (ds.length - (j + 1)).toNat < (ds.length - j).toNat
    omega
  · rw [List.take_of_length_le (show ds.length ≤ j.toNat by omega)]
    exact ref_loop (G1.le l13) F hn hr (hs.le (l1.trans l13)) hsc (by omega) (by omega) (by omega) fun s1 s2 s3 H' l4 a1 a2 a3 => h _ _ _ H' (l1.trans (l13.trans l4)) (.ran hc hm' a1 a2 a3)
end
section
variable {H : Hp}
theorem Texts_same {a b : Sl} {xs : List ByteArray} (ha : SlH H 1 cs_string a xs) (hb : SlH H 1 cs_string b xs) (hl : xs.length ≤ 1099511627776) {K : Bool → Hp → Prop} (h : ∀ H', Hle H H' → K true H') : C_gnomon_gnomonhelp_Texts a b H K := by
  refine L_gnomon_gnomonhelp_Texts _ _ ?_
  unfold T_gnomon_gnomonhelp_Texts
  have na := ha.1; have nb := hb.1
  refine ⟨fun hc => by omega, fun _ => ?_⟩
  refine TL_of (fun (i : Int) H' => 0 ≤ i ∧ i ≤ xs.length ∧ Hle H H') (fun i => (xs.length - i).toNat) ⟨by omega, by omega, Hle.refl _⟩ ?_
  rintro i H1 next ⟨i0, i1, l1⟩ hn
  unfold T_gnomon_gnomonhelp_Texts_l2
  refine ⟨fun hc => ?_, fun hc => h H1 l1⟩
  obtain ⟨x, hx, hE⟩ := (ha.le l1).get i0 hc
  obtain ⟨y, hy, hF⟩ := (hb.le l1).get i0 (show i < (b.n : Int) by omega)
  rw [hx] at hy; cases hy
  refine ⟨i0, hc, x, hE, i0, by omega, x, hF, fun hne => (hne rfl).elim, fun _ => ?_⟩
  rw [wrap_1 i0 (by omega)]
  exact hn _ _ ⟨by omega, by omega, l1⟩ (by omega)
theorem Decls_same {a b : Sl} {xs : List Tapi_Decl} (ha : SlH H 2 cs_api_Decl a xs) (hb : SlH H 2 cs_api_Decl b xs) (hl : xs.length ≤ 1099511627776) {K : Bool → Hp → Prop} (h : ∀ H', Hle H H' → K true H') : C_gnomon_gnomonhelp_Decls a b H K := by
  refine L_gnomon_gnomonhelp_Decls _ _ ?_
  unfold T_gnomon_gnomonhelp_Decls
  have na := ha.1; have nb := hb.1
  refine ⟨fun hc => by omega, fun _ => ?_⟩
  refine TL_of (fun (i : Int) H' => 0 ≤ i ∧ i ≤ xs.length ∧ Hle H H') (fun i => (xs.length - i).toNat) ⟨by omega, by omega, Hle.refl _⟩ ?_
  rintro i H1 next ⟨i0, i1, l1⟩ hn
  unfold T_gnomon_gnomonhelp_Decls_l2
  refine ⟨fun hc => ?_, fun hc => h H1 l1⟩
  obtain ⟨x, hx, hE⟩ := (ha.le l1).get i0 hc
  obtain ⟨y, hy, hF⟩ := (hb.le l1).get i0 (show i < (b.n : Int) by omega)
  rw [hx] at hy; cases hy
  refine ⟨i0, hc, x, hE, i0, by omega, x, hF, fun hne => (hne ⟨rfl, rfl⟩).elim, fun _ => ?_⟩
  rw [wrap_1 i0 (by omega)]
  exact hn _ _ ⟨by omega, by omega, l1⟩ (by omega)
theorem Cfg_same {a b : Tapi_Cfg} {vs : List ByteArray} {ds : List Tapi_Decl} {es : List Tapi_Edge} (ha : GH H a vs ds es) (hb : GH H b vs ds es) (ht : a.fTemps = b.fTemps) (hp : a.fPoints = b.fPoints) (he : a.fExit = b.fExit) {K : Bool → Hp → Prop} (h : ∀ H', Hle H H' → K true H') : C_gnomon_gnomonhelp_Cfg a b H K := by
  refine L_gnomon_gnomonhelp_Cfg _ _ ?_
  unfold T_gnomon_gnomonhelp_Cfg
  have be := ha.be
  refine Texts_same ha.v hb.v ha.bv fun H1 l1 => ⟨fun _ => Decls_same (ha.a.le l1) (hb.a.le l1) ha.ba fun H2 l2 => ?_, fun hc => ?_⟩
  · have na := ha.e.1; have nb := hb.e.1
    refine ⟨fun hc => ?_, fun _ => ?_⟩
    · simp [ht, hp, he] at hc; omega
    · have l12 := l1.trans l2
      refine TL_of (fun (i : Int) H' => 0 ≤ i ∧ i ≤ es.length ∧ Hle H H') (fun i => (es.length - i).toNat) ⟨by omega, by omega, l12⟩ ?_
      rintro i H3 next ⟨i0, i1, l3⟩ hn
      unfold T_gnomon_gnomonhelp_Cfg_l2
      refine ⟨fun hc => ?_, fun hc => h H3 l3⟩
      obtain ⟨x, hx, hE⟩ := (ha.e.le l3).get i0 hc
      obtain ⟨y, hy, hF⟩ := (hb.e.le l3).get i0 (show i < (b.fEdges.n : Int) by omega)
      rw [hx] at hy; cases hy
      refine ⟨i0, hc, x, hE, i0, by omega, x, hF, fun hne => (hne (by simp)).elim, fun _ => ?_⟩
      rw [wrap_1 i0 (by omega)]
      exact hn _ _ ⟨by omega, by omega, l3⟩ (by omega)
  · simp [ht] at hc
/-- two outcomes that are the same -/
structure OutSame (H : Hp) (a b : Tapi_Outcome) : Prop where
  st : a.fStatus = b.fStatus
  wr : a.fWrong = b.fWrong
  sp : a.fSteps = b.fSteps
  ev : ∃ l, SlH H 3 cs_api_Event a.fEvents l ∧ SlH H 3 cs_api_Event b.fEvents l ∧ l.length ≤ 1099511627776
  va : ∃ l, SlH H 1 cs_int64 a.fVars l ∧ SlH H 1 cs_int64 b.fVars l ∧ l.length ≤ 1099511627776
  ar : ∃ l, SlHH H 1 cs_int64 a.fArrays l ∧ SlHH H 1 cs_int64 b.fArrays l ∧ l.length ≤ 1099511627776 ∧ ∀ r ∈ l, r.length ≤ 1099511627776
theorem Outcome_same {a b : Tapi_Outcome} (O : OutSame H a b) {K : Bool → Hp → Prop} (h : ∀ H', Hle H H' → K true H') : C_gnomon_gnomonhelp_Outcome a b H K := by
  refine L_gnomon_gnomonhelp_Outcome _ _ ?_
  unfold T_gnomon_gnomonhelp_Outcome
  obtain ⟨st, wr, sp, ⟨ev, e1, e2, e3⟩, ⟨va, v1, v2, v3⟩, ⟨ar, a1, a2, a3, a4⟩⟩ := O
  have en1 := e1.1; have en2 := e2.1; have an1 := a1.1; have an2 := a2.1
  have hne : decide ((a.fEvents.n : Int) = (b.fEvents.n : Int)) = true := decide_eq_true (by omega)
  have hna : decide ((a.fArrays.n : Int) = (b.fArrays.n : Int)) = true := decide_eq_true (by omega)
  refine ⟨fun _ => Longs_same v1 v2 v3 fun H1 l1 => ⟨fun hc => ?_, fun _ => ?_⟩, fun hc => ?_⟩
  · rw [hne, hna] at hc; simp [st, wr, sp] at hc
  · refine TL_of (fun (i : Int) H' => 0 ≤ i ∧ i ≤ ev.length ∧ Hle H H') (fun i => (ev.length - i).toNat) ⟨by omega, by omega, l1⟩ ?_
    rintro i H2 next ⟨i0, i1, l2⟩ hn
    unfold T_gnomon_gnomonhelp_Outcome_l4
    refine ⟨fun hc => ?_, fun hc => ?_⟩
    · obtain ⟨x, hx, hE⟩ := (e1.le l2).get i0 hc
      obtain ⟨y, hy, hF⟩ := (e2.le l2).get i0 (show i < (b.fEvents.n : Int) by omega)
      rw [hx] at hy; cases hy
      refine ⟨i0, hc, x, hE, i0, by omega, x, hF, fun hne => (hne ⟨rfl, rfl, rfl⟩).elim, fun _ => ?_⟩
      rw [wrap_1 i0 (by omega)]
      exact hn _ _ ⟨by omega, by omega, l2⟩ (by omega)
    · unfold T_gnomon_gnomonhelp_Outcome_j1
      clear hn next
      refine TL_of (fun (i : Int) H' => 0 ≤ i ∧ i ≤ ar.length ∧ Hle H H') (fun i => (ar.length - i).toNat) ⟨by omega, by omega, l2⟩ ?_
      rintro i H2 next ⟨i0, i1, l2⟩ hn
      unfold T_gnomon_gnomonhelp_Outcome_l3
      refine ⟨fun hc => ?_, fun hc => ?_⟩
      · obtain ⟨si, xs, hx, hE, hS, _⟩ := (a1.le l2).get i0 hc
        obtain ⟨sj, ys, hy, hF, hT, _⟩ := (a2.le l2).get i0 (show i < (b.fArrays.n : Int) by omega)
        rw [hx] at hy; cases hy
        refine ⟨i0, hc, si, hE, i0, by omega, sj, hF, Longs_same hS hT (a4 _ (List.mem_of_getElem? hx)) fun H3 l3 => ⟨fun hne => (by cases hne), fun _ => ?_⟩⟩
        rw [wrap_1 i0 (by omega)]
        exact hn _ _ ⟨by omega, by omega, l2.trans l3⟩ (by omega)
      · unfold T_gnomon_gnomonhelp_Outcome_j2
        exact h H2 l2
  · rw [hne] at hc; simp [st, wr, sp] at hc
theorem CopyCfg_ok {c : Tapi_Cfg} {vs : List ByteArray} {ds : List Tapi_Decl} {es : List Tapi_Edge} (G : GH H c vs ds es) {K : Tapi_Cfg → Hp → Prop}
    (h : ∀ s1 s2 s3 H', Hle H H' → GH H' ⟨s1, c.fTemps, s2, c.fPoints, c.fExit, s3⟩ vs ds es → K ⟨s1, c.fTemps, s2, c.fPoints, c.fExit, s3⟩ H') : C_gnomon_gnomonhelp_CopyCfg c H K := by
  refine L_gnomon_gnomonhelp_CopyCfg _ ?_
  unfold T_gnomon_gnomonhelp_CopyCfg
  have bv := G.bv; have ba := G.ba; have be := G.be
  refine ⟨vs, G.v, by simp only [List.length_nil]; omega, ds, G.a, by simp only [List.length_nil]; omega, es, G.e, by simp only [List.length_nil]; omega, ?_⟩
  intro s1 H1 l1 h1 _ s2 H2 l2 h2 _ s3 H3 l3 h3 _
  exact h s1 s2 s3 H3 (l1.trans (l2.trans l3)) ⟨h1.le (l2.trans l3), h2.le l3, h3, bv, ba, be, G.bt⟩
end
theorem runS_ok {H : Hp} {c : Tapi_Cfg} {vs : List ByteArray} {ds : List Tapi_Decl} {es : List Tapi_Edge} {scr : List Int} {k : Int} (G : GH H c vs ds es) (F : Fine c vs ds es) (hn : Nums es) (hs : ∀ x ∈ scr, in64 x) : ∀ (f : Nat) (s : RS), StOk c ds scr k s → ((runS es scr k f s).2.2.evs.length : Int) ≤ k + 1 ∧ (runS es scr k f s).2.2.arrs.map List.length = s.arrs.map List.length ∧ (runS es scr k f s).2.2.vars.length = s.vars.length
  | 0, s, S => by have := S.ne; have := S.s1; exact ⟨by show (s.evs.length : Int) ≤ _; omega, rfl, rfl⟩
  | f + 1, s, S => by
    have h1 := S.ne; have h2 := S.s1; have h0 := S.s0
    cases ht : edgeAt es (takeS es s.vars (idxS s.pt 0 es)) with
    | none => rw [runS_none ht]; exact ⟨by show (s.evs.length : Int) ≤ _; omega, rfl, rfl⟩
    | some e =>
      have he : e ∈ es := by
        unfold edgeAt at ht
        split at ht
        · cases ht
        · exact List.mem_of_getElem? ht
      have hd : (nextS e scr s).arrs.map List.length = s.arrs.map List.length := by
        show (doesS e (inpS e scr s.inp) s.vars s.arrs).2.2.map List.length = _
        unfold doesS
        repeat' split
        all_goals try rfl
        show (s.arrs.set e.fArr.toNat ((rowS s.arrs e).set _ _)).map List.length = _
        rw [List.map_set, List.length_set]
        refine List.ext_getElem (by simp) fun i h1 h2 => ?_
        rw [List.getElem_set]
        split
        · rename_i hi
          subst hi
          rw [List.getElem_map]
          unfold rowS
          rw [List.getD_eq_getElem?_getD, List.getElem?_eq_getElem (by simpa using h2)]; rfl
        · rfl
      have hv : (nextS e scr s).vars.length = s.vars.length := (doesS_len e (inpS e scr s.inp) s.vars s.arrs).1
      rw [runS_some ht]
      split
      · exact ⟨by show (s.evs.length : Int) ≤ _; omega, rfl, rfl⟩
      · rename_i hi
        split
        · exact ⟨by show (s.evs.length : Int) ≤ _; omega, rfl, rfl⟩
        · rename_i hk
          split
          · have := runS_ok G F hn hs f _ (S.next G hn hs he F.all hk hi)
            exact ⟨this.1, this.2.1.trans hd, this.2.2.trans hv⟩
          · refine ⟨?_, hd, hv⟩
            show ((evS e (inpS e scr s.inp) s.evs).length : Int) ≤ _
            have := evS_len e (inpS e scr s.inp) s.evs
            omega
theorem run_same {H : Hp} {c : Tapi_Cfg} {vs : List ByteArray} {ds : List Tapi_Decl} {es : List Tapi_Edge} {scr : List Int} {k : Int} (G : GH H c vs ds es) (hn : Nums es) (hs : ∀ x ∈ scr, in64 x) {o o' : Tapi_Outcome} {p p' e e' : Int} (h1 : RunR H c vs ds es scr k o p e) (h2 : RunR H c vs ds es scr k o' p' e') : p = p' ∧ e = e' ∧ OutSame H o o' := by
  have z : OutSame H ⟨0, 0, 0, ⟨none, 0, 0⟩, ⟨none, 0, 0⟩, ⟨none, 0, 0⟩⟩ ⟨0, 0, 0, ⟨none, 0, 0⟩, ⟨none, 0, 0⟩, ⟨none, 0, 0⟩⟩ :=
    ⟨rfl, rfl, rfl, ⟨[], SlH.nil _ _ _, SlH.nil _ _ _, by decide⟩, ⟨[], SlH.nil _ _ _, SlH.nil _ _ _, by decide⟩, ⟨[], ⟨rfl, [], SlH.nil _ _ _, fun i si xs h => by cases h⟩, ⟨rfl, [], SlH.nil _ _ _, fun i si xs h => by cases h⟩, by decide, fun r h => by cases h⟩⟩
  cases h1 with
  | bad h =>
    cases h2 with
    | bad _ => exact ⟨rfl, rfl, z⟩
    | many h' _ => exact (h h').elim
    | ran h' => exact (h h').elim
  | many h m =>
    cases h2 with
    | bad h' => exact (h' h).elim
    | many _ _ => exact ⟨rfl, rfl, z⟩
    | ran _ m' => exact (m' m).elim
  | ran h m a1 a2 a3 =>
    cases h2 with
    | bad h' => exact (h' h).elim
    | many _ m' => exact (m m').elim
    | ran _ _ b1 b2 b3 =>
      have F := Fine.of h
      obtain ⟨r1, r2, r3⟩ := runS_ok (k := k) G F hn hs (k.toNat + 1) (startS c ds) (start_ok G F (by omega))
      have hbv := G.bv
      have hbd := F.bd
      refine ⟨rfl, rfl, rfl, rfl, rfl, ⟨_, a1, b1, ?_⟩, ⟨_, a2, b2, ?_⟩, ⟨_, a3, b3, ?_, ?_⟩⟩
      · unfold wholeS; omega
      · rw [List.length_take]; omega
      · have := congrArg List.length r2
        simp only [List.length_map] at this
        unfold wholeS
        rw [this]
        simp only [startS, List.length_map]; omega
      · intro r hr
        have hm : r.length ∈ ((startS c ds).arrs.map List.length) := by rw [← r2]; exact List.mem_map.2 ⟨r, hr, rfl⟩
        simp only [startS, List.map_map, List.mem_map] at hm
        obtain ⟨d, hd, hq⟩ := hm
        rw [← hq]
        have := F.sz d hd
        simp only [Function.comp, List.length_replicate]
        omega
section
variable {H : Hp}
/-- THE LAW StepExact -/
theorem exact_law {c : Tapi_Cfg} {vs : List ByteArray} {ds : List Tapi_Decl} {es : List Tapi_Edge} {scr : List Int} {k : Int} (G : GH H c vs ds es) (hn : Nums es) {s : Sl} (hs : SlH H 1 cs_int64 s scr) (hb : scr.length ≤ 1099511627776) (hsc : ∀ x ∈ scr, in64 x) {K : Bool → Hp → Prop} (h : ∀ H', Hle H H' → K true H') : C_gnomon_gnomonlaw10_StepExact c s k H K := by
  refine L_gnomon_gnomonlaw10_StepExact _ _ _ ?_
  unfold T_gnomon_gnomonlaw10_StepExact
  refine known_ok fun H1 l1 => ⟨fun hc => (by cases hc), fun _ => ?_⟩
  refine L_gnomon_gnomonlaw10_few _ _ ?_
  unfold T_gnomon_gnomonlaw10_few
  refine ⟨fun _ => h H1 l1, fun _ => ?_⟩
  refine CopyCfg_ok (G.le l1) fun s1 s2 s3 H2 l2 G2 => ?_
  have l12 := l1.trans l2
  refine ⟨scr, hs.le l12, by simp only [List.length_nil]; omega, fun s' H3 l3 hs' hcap' => ?_⟩
  have l13 := l12.trans l3
  refine step_Run_ok (G2.le l3) hn hs' hcap' hsc fun o p e H4 l4 hr => ?_
  have l14 := l13.trans l4
  refine ref_Run_ok (G.le l14) hn (hs.le l14) hsc fun o' p' e' H5 l5 hr' => ?_
  have l15 := l14.trans l5
  have L : Like ⟨s1, c.fTemps, s2, c.fPoints, c.fExit, s3⟩ c := Like.of G2 G rfl rfl rfl
  have hr5 : RunR H5 c vs ds es scr k o p e := by
    cases L.run hr with
    | bad h => exact .bad h
    | many h m => exact .many h m
    | ran h m a1 a2 a3 => exact .ran h m (a1.le l5) (a2.le l5) (a3.le l5)
  obtain ⟨rfl, rfl, O⟩ := run_same (G.le l15) hn hsc hr5 hr'
  simp only [decide_true, Bool.true_and, Bool.and_true]
  refine ⟨fun _ => Outcome_same O fun H6 l6 => ⟨fun _ => ?_, fun hc => (hc (by trivial)).elim⟩, fun hc => (hc (by trivial)).elim⟩
  have l16 := l15.trans l6
  have l26 := (l3.trans (l4.trans (l5.trans l6)))
  refine Cfg_same (G2.le l26) (G.le l16) rfl rfl rfl fun H7 l7 => ⟨fun _ => ?_, fun hc => (hc (by trivial)).elim⟩
  exact Longs_same (hs'.le ((l4.trans (l5.trans l6)).trans l7)) (hs.le (l16.trans l7)) hb fun H8 l8 => h H8 (l16.trans (l7.trans l8))
end
end Go.Proofs.Ytgapepdglhcglaa
