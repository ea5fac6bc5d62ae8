/-
  Both runs of a graph answer what the plain run does. Contracts off the printed formulas.
-/
import Derived.Test.YtgapepdglhcglaaR6
namespace Go.Proofs.Ytgapepdglhcglaa
open Go.RowKit
set_option maxRecDepth 100000
set_option maxHeartbeats 2000000

section
variable {H : Hp} {x : Tstep_state} {vars : List Int} {arrs : List (List Int)} {evs : List Tapi_Event} {e : Tapi_Edge} {K : Int → Tstep_state → List Int → List (List Int) → List Tapi_Event → Hp → Prop}
theorem table_all (E : EdgeOk e vars arrs) (hk : kindS e.fKind = true) (hb : evs.length ≤ 1000000) {i : Int} {l : List Int} (hs : SlH H 1 cs_int64 x.fscript l) (hcap : x.fscript.n ≤ x.fscript.c) (h9 : e.fKind = 9 → ∃ l', l = i :: l')
    (h : ∀ sc : Sl, SlH H 1 cs_int64 sc (if e.fKind = 9 then l.tail else l) → sc.n ≤ sc.c → K (doesS e i vars arrs).1 (nst x sc) (doesS e i vars arrs).2.1 (doesS e i vars arrs).2.2 (evS e i evs) H) :
    ¬ ((e.fKind : Int) = 0) ∧ ((e.fKind : Int) = 1 → C_gnomon_step_state_nothing x vars arrs evs e H K) ∧ ((e.fKind : Int) = 2 → C_gnomon_step_state_copies x vars arrs evs e H K) ∧ ((e.fKind : Int) = 3 → C_gnomon_step_state_negates x vars arrs evs e H K) ∧ ((e.fKind : Int) = 4 → C_gnomon_step_state_adds x vars arrs evs e H K) ∧ ((e.fKind : Int) = 5 → C_gnomon_step_state_subtracts x vars arrs evs e H K) ∧ ((e.fKind : Int) = 6 → C_gnomon_step_state_multiplies x vars arrs evs e H K) ∧ ((e.fKind : Int) = 7 → C_gnomon_step_state_divides x vars arrs evs e H K) ∧ ((e.fKind : Int) = 8 → C_gnomon_step_state_rests x vars arrs evs e H K) ∧ ((e.fKind : Int) = 9 → C_gnomon_step_state_takes x vars arrs evs e H K) ∧ ((e.fKind : Int) = 10 → C_gnomon_step_state_loads x vars arrs evs e H K) ∧ ((e.fKind : Int) = 11 → C_gnomon_step_state_stores x vars arrs evs e H K) ∧ ((e.fKind : Int) = 12 → C_gnomon_step_state_nothing x vars arrs evs e H K) ∧ ((e.fKind : Int) = 13 → C_gnomon_step_state_passes x vars arrs evs e H K) ∧ ((e.fKind : Int) = 14 → C_gnomon_step_state_fails x vars arrs evs e H K) := by
  have k14 : 1 ≤ e.fKind ∧ e.fKind ≤ 14 := by unfold kindS at hk; simpa using hk
  have g : ¬ e.fKind = 9 → K (doesS e i vars arrs).1 (nst x x.fscript) (doesS e i vars arrs).2.1 (doesS e i vars arrs).2.2 (evS e i evs) H := fun h9 => h _ (by rw [if_neg h9]; exact hs) hcap
  refine ⟨by omega, fun h1 => nothing_m (.inl h1) (g (by omega)), fun h1 => copies_m h1 E (g (by omega)), fun h1 => negates_m h1 E (g (by omega)), fun h1 => adds_m h1 E (g (by omega)), fun h1 => subs_m h1 E (g (by omega)), fun h1 => muls_m h1 E (g (by omega)), fun h1 => divs_m h1 E (g (by omega)), fun h1 => rests_m h1 E (g (by omega)), fun h1 => ?_, fun h1 => loads_m h1 E (g (by omega)), fun h1 => stores_m h1 E (g (by omega)), fun h1 => nothing_m (.inr h1) (g (by omega)), fun h1 => passes_m h1 hb (g (by omega)), fun h1 => fails_m h1 hb (g (by omega))⟩
  obtain ⟨l', rfl⟩ := h9 h1
  refine takes_m h1 E hs hcap hb fun sc a b => h sc ?_ b
  rw [if_pos h1]; exact a
end
section
variable {H : Hp} {c : Tapi_Cfg} {vs : List ByteArray} {ds : List Tapi_Decl} {es : List Tapi_Edge} {scr : List Int} {k : Int}
theorem inp_head {e : Tapi_Edge} {n : Nat} (h : e.fKind = 9) (hn : ¬ (e.fKind = 9 ∧ scr.length ≤ n)) : ∃ l, scr.drop n = inpS e scr n :: l ∧ l = scr.drop (n + 1) := by
  have hlt : n < scr.length := by omega
  refine ⟨_, ?_, rfl⟩
  rw [List.drop_eq_getElem_cons hlt]
  unfold inpS
  rw [if_pos h, List.getD_eq_getElem?_getD, List.getElem?_eq_getElem hlt]; rfl
theorem step_end (G : GH H c vs ds es) {K : Tapi_Outcome → Int → Int → Hp → Prop} {r : Int × Int × RS} {o o' : Tapi_Outcome} {c' : Tapi_Cfg} {fr sc : Sl} {pt : Int} {vars : List Int} {arrs : List (List Int)} {evs : List Tapi_Event}
    (hv : (vs.length : Int) ≤ vars.length) (hr : r = (o.fStatus, o.fWrong, ⟨pt, vars, arrs, r.2.2.inp, evs, o.fSteps⟩))
    (h : ∀ s1 s2 s3 H', Hle H H' → SlH H' 3 cs_api_Event s1 r.2.2.evs → SlH H' 1 cs_int64 s2 (r.2.2.vars.take vs.length) → SlHH H' 1 cs_int64 s3 r.2.2.arrs → K ⟨r.1, r.2.1, r.2.2.steps, s1, s2, s3⟩ r.2.2.pt 0 H') :
    T_gnomon_step_Run_j3 o c' fr pt vars arrs sc evs o' c H K := by
  unfold T_gnomon_step_Run_j3
  intro s2 H1 l1 hs2 b2
  have hn := G.v.1
  have hn2 := hs2.1
  refine ⟨by omega, by omega, by omega, fun s1 H2 l2 hs1 b1 s3 H3 l3 hs3 b3 => ?_⟩
  have := h s1 (s2.cut 0 ((c.fVars.n : Int) : Int).toNat ((c.fVars.n : Int) : Int).toNat 1) s3 H3 (l1.trans (l2.trans l3))
  rw [hr] at this
  refine this (hs1.le l3) ?_ hs3
  have hc := (hs2.le (l2.trans l3)).cut (l := 0) (h := ((c.fVars.n : Int) : Int).toNat) (m := ((c.fVars.n : Int) : Int).toNat) (by omega) (by omega) (Nat.le_refl _)
  rw [List.drop_zero, show ((c.fVars.n : Int) : Int).toNat = vs.length by omega] at hc
  rw [show ((c.fVars.n : Int) : Int).toNat = vs.length by omega]
  exact hc
theorem step_loop (G : GH H c vs ds es) (F : Fine c vs ds es) (hn : Nums es) {fr : Sl} (hf : FromH H c.fPoints es fr) {s0 : Sl} (hs : SlH H 1 cs_int64 s0 scr) (hcap : s0.n ≤ s0.c) (hsc : ∀ x ∈ scr, in64 x) (k0 : 0 ≤ k) (k1 : k ≤ 65536) {o' : Tapi_Outcome} {K : Tapi_Outcome → Int → Int → Hp → Prop}
    (h : ∀ s1 s2 s3 H', Hle H H' → SlH H' 3 cs_api_Event s1 (wholeS c ds es scr k).2.2.evs → SlH H' 1 cs_int64 s2 ((wholeS c ds es scr k).2.2.vars.take vs.length) → SlHH H' 1 cs_int64 s3 (wholeS c ds es scr k).2.2.arrs → K ⟨(wholeS c ds es scr k).1, (wholeS c ds es scr k).2.1, (wholeS c ds es scr k).2.2.steps, s1, s2, s3⟩ (wholeS c ds es scr k).2.2.pt 0 H') :
    T_gnomon_step_Run_j2 k c fr 0 (List.replicate (allS c).toNat 0) (ds.map fun d => List.replicate d.fSize.toNat 0) s0 [] o' c H K := by
  unfold T_gnomon_step_Run_j2
  refine L_gnomon_step_table ?_
  unfold T_gnomon_step_table
  have ne := G.e.1
  have hvar : ∀ {s : RS}, StOk c ds scr k s → (vs.length : Int) ≤ s.vars.length := fun S => by
    have := S.nv; rw [allS_eq G F.t.1 F.t.2.1] at this; have := F.t.1; omega
  have fin : ∀ {H2 : Hp} (_ : Hle H H2) {r : Int × Int × RS} (_ : r = wholeS c ds es scr k), ∀ s1 s2 s3 H', Hle H2 H' → SlH H' 3 cs_api_Event s1 r.2.2.evs → SlH H' 1 cs_int64 s2 (r.2.2.vars.take vs.length) → SlHH H' 1 cs_int64 s3 r.2.2.arrs → K ⟨r.1, r.2.1, r.2.2.steps, s1, s2, s3⟩ r.2.2.pt 0 H' := by
    intro H2 l2 r hr s1 s2 s3 H' l a b d
    subst hr
    exact h s1 s2 s3 H' (l2.trans l) a b d
  refine TL_of (fun (s : Tapi_Outcome × Tapi_Cfg × Sl × Int × List Int × List (List Int) × Sl × List Tapi_Event × Tapi_Outcome) H' => Hle H H' ∧ s.1.fStatus = 1 ∧ s.1.fWrong = 0 ∧ s.2.1 = c ∧ s.2.2.1 = fr ∧ SlH H' 1 cs_int64 s.2.2.2.2.2.2.1 (scr.drop (scr.length - s.2.2.2.2.2.2.1.n)) ∧ s.2.2.2.2.2.2.1.n ≤ s.2.2.2.2.2.2.1.c ∧ s.2.2.2.2.2.2.1.n ≤ scr.length ∧
      StOk c ds scr k ⟨s.2.2.2.1, s.2.2.2.2.1, s.2.2.2.2.2.1, scr.length - s.2.2.2.2.2.2.1.n, s.2.2.2.2.2.2.2.1, s.1.fSteps⟩ ∧
      runS es scr k ((k - s.1.fSteps).toNat + 1) ⟨s.2.2.2.1, s.2.2.2.2.1, s.2.2.2.2.2.1, scr.length - s.2.2.2.2.2.2.1.n, s.2.2.2.2.2.2.2.1, s.1.fSteps⟩ = wholeS c ds es scr k) (fun s => (k - s.1.fSteps).toNat) ?_ ?_
  · have hln := hs.1
    have h0 : scr.length - s0.n = 0 := by omega
    refine ⟨Hle.refl _, rfl, rfl, rfl, rfl, ?_, hcap, by show s0.n ≤ _; omega, ?_, ?_⟩
    · show SlH H 1 cs_int64 s0 (scr.drop (scr.length - s0.n))
      rw [h0]; exact hs
    · show StOk c ds scr k ⟨0, _, _, scr.length - s0.n, [], 0⟩
      rw [h0]; exact start_ok G F k0
    · show runS es scr k ((k - 0).toNat + 1) ⟨0, _, _, scr.length - s0.n, [], 0⟩ = _
      rw [h0, Int.sub_zero]; rfl
  rintro ⟨o, c', fr', pt, vars, arrs, sc, evs, o''⟩ H2 next ⟨l2, hst, hwr, q1, q2, hsl, hcp, hle, S, hrun⟩ hnx
  dsimp only at hst hwr q1 q2 hsl hcp hle S hrun ⊢
  subst q1; subst q2
  unfold T_gnomon_step_Run_l4
  refine ⟨fun _ => ?_, fun hc => (hc hst).elim⟩
  have G2 := G.le l2
  have hall := F.all
  have hops := S.ops G hn hall
  have hv := hvar S
  generalize hin : scr.length - sc.n = inp at S hrun hsl
  refine next_ok (x := ⟨c', fr', pt, ⟨none, 0, 0⟩, ⟨none, 0, 0⟩, sc, ⟨none, 0, 0⟩⟩) G2 (hf.le l2) S.p0 S.p1 hall (F.forks _ S.p0 S.p1) hops F.op ?_
  dsimp only
  by_cases hi : takeS es vars (idxS pt 0 es) < 0
  · rw [runS_none (edgeAt_none hi)] at hrun
    refine ⟨⟨0, 0, 0, 0, 0, 0, ⟨0, 0⟩, ⟨0, 0⟩⟩, fun hc => ?_, fun hc => ?_, fun hc => ?_⟩
    · simp at hc; omega
    · exact step_end G2 hv (by simp only [hwr]) (fin l2 hrun)
    · simp at hc; omega
  obtain ⟨e, hg, hat⟩ := take_edge hi
  obtain ⟨e', he', hE⟩ := G2.e.get (i := takeS es vars (idxS pt 0 es)) (by omega) (by have := (List.getElem?_eq_some_iff.1 hg).1; omega)
  rw [hg] at he'; cases he'
  have hlt := (List.getElem?_eq_some_iff.1 hg).1
  have hem := List.mem_of_getElem? hg
  rw [runS_some hat] at hrun
  have t0 : 0 ≤ takeS es vars (idxS pt 0 es) := by omega
  have t1 : takeS es vars (idxS pt 0 es) < (c'.fEdges.n : Int) := by have := G2.e.1; omega
  have hb : ((!decide (0 ≤ takeS es vars (idxS pt 0 es))) || ((decide (e.fKind = 9)) && (decide ((sc.n : Int) = 0)))) = decide (e.fKind = 9 ∧ scr.length ≤ inp) := by
    rw [show decide (0 ≤ takeS es vars (idxS pt 0 es)) = true by simpa using hi]
    rw [Bool.eq_iff_iff]
    by_cases h9 : e.fKind = 9 <;> simp [h9]
    omega
  refine ⟨e, fun _ => ⟨t0, t1, hE⟩, ?_⟩
  rw [hb]
  refine ⟨fun hc => ?_, fun hc => ⟨fun hs => ?_, fun hs => ?_⟩⟩
  · rw [if_pos (of_decide_eq_true hc)] at hrun
    exact step_end G2 hv (by simp only [hwr]) (fin l2 hrun)
  · rw [if_neg (of_decide_eq_false hc), if_pos hs] at hrun
    refine step_end G2 hv ?_ (fin l2 hrun)
    rw [hst, hwr]
  · have hc' := of_decide_eq_false hc
    rw [if_neg hc', if_neg hs] at hrun
    have E := S.edge G hn hem hall
    have hkd := F.kind hem
    have k14 : 1 ≤ e.fKind ∧ e.fKind ≤ 14 := by unfold kindS at hkd; simpa using hkd
    have S' := S.next G hn hsc hem hall hs hc'
    have s0 := S.s0; have s1 := S.s1; have sne := S.ne
    dsimp only at s0 s1 sne
    have hlv := (doesS_len e (inpS e scr inp) vars arrs).1
    refine ⟨t0, t1, e, hE, by omega, by omega, fun r0 y0 y3 y4 y6 H3 => H3 = H2 ∧ r0 = wrongS e scr ⟨pt, vars, arrs, inp, evs, o.fSteps⟩ ∧ y3 = (doesS e (inpS e scr inp) vars arrs).2.1 ∧ y4 = (doesS e (inpS e scr inp) vars arrs).2.2 ∧ y6 = evS e (inpS e scr inp) evs ∧ ∃ sc', y0 = ⟨c', fr', pt, ⟨none, 0, 0⟩, ⟨none, 0, 0⟩, sc', ⟨none, 0, 0⟩⟩ ∧ SlH H2 1 cs_int64 sc' (scr.drop (if e.fKind = 9 then inp + 1 else inp)) ∧ sc'.n ≤ sc'.c, ?_, ?_⟩
    · rintro r0 y0 y3 y4 y6 H3 ⟨rfl, rfl, rfl, rfl, rfl, sc', rfl, hsl', hcp'⟩
      rw [wrap_1 s0 (by omega)]
      refine ⟨fun hw => ?_, fun hw => ?_⟩
      · rw [if_neg hw] at hrun
        refine step_end G2 ?_ rfl (fin l2 hrun)
        rw [hlv]; exact hv
      · rw [if_pos hw] at hrun
        have hn' := hsl'.1
        rw [List.length_drop] at hn'
        have hsni := S.ni
        dsimp only at hsni
        have hfl : (k - o.fSteps).toNat = (k - (o.fSteps + 1)).toNat + 1 := by omega
        rw [hfl] at hrun
        have hnp : (if e.fKind = 9 then inp + 1 else inp) ≤ scr.length := by split <;> omega
        have hin' : scr.length - sc'.n = (if e.fKind = 9 then inp + 1 else inp) := by omega
        refine hnx _ _ ⟨l2, hst, hw, rfl, rfl, ?_, hcp', ?_, ?_, ?_⟩ ?_
        · show SlH H3 1 cs_int64 sc' (scr.drop (scr.length - sc'.n))
          rw [hin']; exact hsl'
        · show sc'.n ≤ scr.length
          omega
        · show StOk c' ds scr k ⟨e.fTo, _, _, scr.length - sc'.n, _, o.fSteps + 1⟩
          rw [hin']; exact S'
        · show runS es scr k ((k - (o.fSteps + 1)).toNat + 1) ⟨e.fTo, _, _, scr.length - sc'.n, _, o.fSteps + 1⟩ = _
          rw [hin']; exact hrun
        · show (k - (o.fSteps + 1)).toNat < (k - o.fSteps).toNat
          omega
    · refine table_all (x := ⟨c', fr', pt, ⟨none, 0, 0⟩, ⟨none, 0, 0⟩, sc, ⟨none, 0, 0⟩⟩) (i := inpS e scr inp) (l := scr.drop inp) E hkd (by omega) hsl hcp (fun h9 => ?_) fun sc' hsc' hcp' => ⟨rfl, rfl, rfl, rfl, rfl, sc', rfl, ?_, hcp'⟩
      · obtain ⟨l, hl, _⟩ := inp_head h9 hc'
        exact ⟨l, hl⟩
      · by_cases h9 : e.fKind = 9
        · obtain ⟨l, hl, hl2⟩ := inp_head h9 hc'
          rw [if_pos h9] at hsc' ⊢
          rw [hl] at hsc'
          rw [← hl2]; exact hsc'
        · rw [if_neg h9] at hsc' ⊢
          exact hsc'
end
end Go.Proofs.Ytgapepdglhcglaa
