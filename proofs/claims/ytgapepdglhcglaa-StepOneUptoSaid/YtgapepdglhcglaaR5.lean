/-
  Which edge is taken, what the document's edge does; the edges from each point. Contracts off the printed formulas.
-/
import Derived.Test.YtgapepdglhcglaaR4
namespace Go.Proofs.Ytgapepdglhcglaa
open Go.RowKit
set_option maxRecDepth 100000
set_option maxHeartbeats 2000000

def goS (vars : List Int) (e : Tapi_Edge) : Bool := !decide (e.fKind = 12) || cmpS e.fOp (valS vars e.fA) (valS vars e.fB)
def takeS (es : List Tapi_Edge) (vars : List Int) : List Int → Int
  | [] => -1
  | i :: l => match es[i.toNat]? with
    | some e => bif goS vars e then i else takeS es vars l
    | none => takeS es vars l
section
variable {H : Hp} {c : Tapi_Cfg} {vs : List ByteArray} {ds : List Tapi_Decl} {es : List Tapi_Edge} {vars : List Int} {arrs : List (List Int)} {evs : List Tapi_Event} {e : Tapi_Edge}
theorem rplace_ok {y : Tgnomonref10_state} {ar i : Int} (h0 : 0 ≤ ar) (h1 : ar < arrs.length) {K : Bool → Hp → Prop} (h : K (within i ((arrs.getD ar.toNat []).length : Int)) H) : C_gnomon_gnomonref10_state_place y vars arrs ar i H K := by
  refine L_gnomon_gnomonref10_state_place _ _ _ _ _ ?_
  unfold T_gnomon_gnomonref10_state_place
  exact ⟨h0, _, getD_of (by omega), h⟩
theorem rdoes_ok {y : Tgnomonref10_state} (E : EdgeOk e vars arrs) (hk : kindS e.fKind = true) {i : Int} {K : Int → List Int → List (List Int) → Hp → Prop} (h : K (doesS e i vars arrs).1 (doesS e i vars arrs).2.1 (doesS e i vars arrs).2.2 H) : C_gnomon_gnomonref10_state_does y vars arrs e i H K := by
  refine L_gnomon_gnomonref10_state_does _ _ _ _ _ ?_
  unfold T_gnomon_gnomonref10_state_does
  have k14 : 1 ≤ e.fKind ∧ e.fKind ≤ 14 := by unfold kindS at hk; simpa using hk
  refine rvalue_ok E.a (rvalue_ok E.b ?_)
  have j2 : ∀ {b : Bool}, (b = true ↔ (3 ≤ e.fKind ∧ e.fKind ≤ 8)) → ¬ (e.fKind = 2) → ¬ (e.fKind = 9) → T_gnomon_gnomonref10_state_does_j2 (valS vars e.fA) (valS vars e.fB) e.fKind b vars arrs e H K := by
    intro b hb h2 h9
    unfold T_gnomon_gnomonref10_state_does_j2
    refine ⟨fun hc => ?_, fun hc => ⟨fun hd => ?_, fun hd => ⟨fun he => ?_, fun he => ⟨fun hf => ?_, fun hf => ?_⟩⟩⟩⟩
    · have k38 := hb.1 hc
      have hw : IntKind.wrap .i64 ((IntKind.wrap .i64 (5 + e.fKind)) - 3) = e.fKind + 2 := by
        rw [fit_wrap (a := 5 + e.fKind) ⟨by omega, by omega⟩, fit_wrap ⟨by omega, by omega⟩]; omega
      rw [hw]
      refine ref_Do_ok k38.1 k38.2 E.va E.vb ?_
      have hD := E.dst (by omega) (by omega)
      have hc := op_cases (i := i) (Q := fun z => K z.1 z.2.1 z.2.2 H) k38 h
      refine ⟨hc.2, fun hr => ⟨hD.1, _, getD_of (d := 0) (by omega), ?_⟩⟩
      have := hc.1 hr
      unfold T_gnomon_gnomonref10_state_does_j1
      rw [← hr]; exact this
    · have hA := E.arr (.inl hd)
      have hD := E.dst (by omega) (by omega)
      have hds : doesS e i vars arrs = if 0 ≤ valS vars e.fA ∧ valS vars e.fA < (rowS arrs e).length then (0, vars.set e.fDst.toNat ((rowS arrs e).getD (valS vars e.fA).toNat 0), arrs) else (3, vars, arrs) := by unfold doesS; simp [hd]
      rw [hds] at h
      refine rplace_ok hA.1 hA.2 ⟨fun hq => ?_, fun hq => ?_⟩
      · rw [if_neg (by unfold within at hq; simp at hq; unfold rowS; simp; omega)] at h; exact h
      · unfold within at hq; simp at hq
        rw [if_pos (by unfold rowS; simp; omega)] at h
        exact ⟨hA.1, rowS arrs e, getD_of (by omega), by omega, _, getD_of (d := 0) (by unfold rowS; simp; omega), hD.1, _, getD_of (d := 0) (by omega), h⟩
    · have hA := E.arr (.inr he)
      have hds : doesS e i vars arrs = if 0 ≤ valS vars e.fA ∧ valS vars e.fA < (rowS arrs e).length then (0, vars, arrs.set e.fArr.toNat ((rowS arrs e).set (valS vars e.fA).toNat (valS vars e.fB))) else (3, vars, arrs) := by unfold doesS; simp [he]
      rw [hds] at h
      refine rplace_ok hA.1 hA.2 ⟨fun hq => ?_, fun hq => ?_⟩
      · rw [if_neg (by unfold within at hq; simp at hq; unfold rowS; simp; omega)] at h; exact h
      · unfold within at hq; simp at hq
        rw [if_pos (by unfold rowS; simp; omega)] at h
        exact ⟨hA.1, rowS arrs e, getD_of (by omega), by omega, _, getD_of (d := 0) (by unfold rowS; simp; omega), h⟩
    · have hds : doesS e i vars arrs = (4, vars, arrs) := by unfold doesS; simp [hf]
      rw [hds] at h; exact h
    · have hn : ¬ (3 ≤ e.fKind ∧ e.fKind ≤ 8) := fun hx => by rw [hb.2 hx] at hc; cases hc
      have hds : doesS e i vars arrs = (0, vars, arrs) := by
        unfold doesS
        rw [if_neg h2, if_neg h9, if_neg hn, if_neg hd, if_neg he, if_neg hf]
      rw [hds] at h; exact h
  refine ⟨fun h2 => ?_, fun h2 => ⟨fun h9 => ?_, fun h9 => ⟨fun h3 => j2 ?_ h2 h9, fun h3 => ⟨fun h4 => j2 ?_ h2 h9, fun h4 => ⟨fun h5 => j2 ?_ h2 h9, fun h5 => ⟨fun h6 => j2 ?_ h2 h9, fun h6 => ⟨fun h7 => j2 ?_ h2 h9, fun h7 => j2 ?_ h2 h9⟩⟩⟩⟩⟩⟩⟩
  · have hD := E.dst (by omega) (by omega)
    have hds : doesS e i vars arrs = (0, vars.set e.fDst.toNat (valS vars e.fA), arrs) := by unfold doesS; simp [h2]
    rw [hds] at h
    exact ⟨hD.1, _, getD_of (d := 0) (by omega), h⟩
  · have hD := E.dst (by omega) (by omega)
    have hds : doesS e i vars arrs = (0, vars.set e.fDst.toNat i, arrs) := by unfold doesS; simp [h9]
    rw [hds] at h
    exact ⟨hD.1, _, getD_of (d := 0) (by omega), h⟩
  all_goals (rw [decide_eq_true_eq]; omega)
/-- the operands of a list of edges may be read -/
def OpsOk (es : List Tapi_Edge) (vars : List Int) : Prop := ∀ e ∈ es, (¬ e.fA.fVar < 0 → e.fA.fVar < vars.length) ∧ (¬ e.fB.fVar < 0 → e.fB.fVar < vars.length)
theorem taken_ok {y : Tgnomonref10_state} (G : GH H c vs ds es) {p : Int} {s : Sl} (hs : SlH H 1 cs_int s (idxS p 0 es)) (ho : OpsOk es vars) {K : Int → Hp → Prop} (h : ∀ H', Hle H H' → K (takeS es vars (idxS p 0 es)) H') : C_gnomon_gnomonref10_taken c y vars arrs s H K := by
  refine L_gnomon_gnomonref10_taken _ _ _ _ _ ?_
  unfold T_gnomon_gnomonref10_taken
  have hn := hs.1
  have hl := idxS_len p 0 es
  have hle := from_len es p
  have be := G.be
  refine TL_of (fun (j : Int) H' => 0 ≤ j ∧ j ≤ s.n ∧ Hle H H' ∧ takeS es vars (idxS p 0 es) = takeS es vars ((idxS p 0 es).drop j.toNat)) (fun j => (s.n - j).toNat) ⟨by omega, by omega, Hle.refl _, rfl⟩ ?_
  rintro j H1 next ⟨j0, j1, l1, hj⟩ hnx
  unfold T_gnomon_gnomonref10_taken_l2
  refine ⟨fun hc => ?_, fun hc => ?_⟩
  · obtain ⟨k, hk, hE⟩ := (hs.le l1).get j0 hc
    obtain ⟨k0, k1, e, he, _⟩ := idxS_get p 0 es _ _ hk
    rw [Int.sub_zero] at he
    obtain ⟨e', he', hF⟩ := (G.le l1).e.get k0 (show k < (c.fEdges.n : Int) by have := G.e.1; omega)
    rw [he] at he'; cases he'
    have oe := ho e (List.mem_of_getElem? he)
    have hdrop : (idxS p 0 es).drop j.toNat = k :: (idxS p 0 es).drop (j.toNat + 1) := by
      obtain ⟨q1, q2⟩ := List.getElem?_eq_some_iff.1 hk
      rw [List.drop_eq_getElem_cons q1, q2]
    have ht : takeS es vars ((idxS p 0 es).drop j.toNat) = bif goS vars e then k else takeS es vars ((idxS p 0 es).drop (j.toNat + 1)) := by
      rw [hdrop]
      show (match es[k.toNat]? with | some e => _ | none => _) = _
      rw [he]
    refine ⟨j0, hc, k, hE, k0, by have := G.e.1; omega, e, hF, ?_⟩
    refine TG_if (valS vars e.fA) (fun _ K' hk => rvalue_ok oe.1 hk) ?_
    refine TG_if (valS vars e.fB) (fun _ K' hk => rvalue_ok oe.2 hk) ?_
    refine TG_if (cmpS e.fOp (valS vars e.fA) (valS vars e.fB)) (fun hq K' hk => ref_Cmp_ok (by rw [if_pos hq, if_pos hq]; exact hk)) ?_
    have hg : ((!decide (e.fKind = 12)) || (if (!decide (e.fKind = 12)) = false then cmpS e.fOp (valS vars e.fA) (valS vars e.fB) else false)) = goS vars e := by
      unfold goS
      cases decide (e.fKind = 12) <;> rfl
    rw [hg]
    refine ⟨fun hb => ?_, fun hb => ?_⟩
    · have := h H1 l1
      rw [hj, ht, hb] at this; exact this
    · rw [wrap_1 j0 (by omega)]
      refine hnx _ _ ⟨by omega, by omega, l1, ?_⟩ (by omega)
      rw [hj, ht, hb, show (j + 1).toNat = j.toNat + 1 by omega]; rfl
  · have := h H1 l1
    rw [hj, List.drop_of_length_le (by omega)] at this
    exact this
theorem notS_cmp {op a b : Int} (h0 : 1 ≤ op) (h1 : op ≤ 6) : cmpS (notS op) a b = !cmpS op a b := by
  obtain rfl | rfl | rfl | rfl | rfl | rfl := (by omega : op = 1 ∨ op = 2 ∨ op = 3 ∨ op = 4 ∨ op = 5 ∨ op = 6)
  all_goals simp [notS, cmpS]
  all_goals (rw [Bool.eq_iff_iff]; simp)
/-- the edges from a point, by their numbers, stand in the heap -/
structure FromH (H : Hp) (P : Int) (es : List Tapi_Edge) (s : Sl) : Prop where
  n : (s.n : Int) = P
  row : ∀ p : Int, 0 ≤ p → p < P → ∃ si : Sl, EltH H s p 1 [Value.slice si.a si.n si.c] ∧ SlH H 1 cs_int si (idxS p 0 es)
theorem FromH.le {H' : Hp} {P : Int} {s : Sl} (F : FromH H P es s) (l : Hle H H') : FromH H' P es s := ⟨F.n, fun p h0 h1 => by
  obtain ⟨si, a, b⟩ := F.row p h0 h1
  exact ⟨si, a.le l, b.le l⟩⟩
theorem FromH.of {P : Int} {s : Sl} {xss : List (List Int)} (hr : RowsAt P (fun p => idxS p 0 es) xss) (hs : SlHH H 1 cs_int s xss) : FromH H P es s := by
  obtain ⟨sn, ss, hss, hin⟩ := hs
  refine ⟨by have := hr.1; omega, fun p h0 h1 => ?_⟩
  obtain ⟨x, hx, hE⟩ := hss.get h0 (show p < (s.n : Int) by have := hr.1; omega)
  have := (hin p.toNat x _ hx (hr.2 p.toNat (by omega))).1
  rw [Int.toNat_of_nonneg h0] at this
  exact ⟨x, hE, this⟩
theorem no_exit (ha : es.all (edgeS c) = true) : idxS c.fExit 0 es = [] := by
  refine List.length_eq_zero_iff.1 ?_
  rw [idxS_len]
  refine List.length_eq_zero_iff.2 ?_
  unfold fromS
  rw [List.filter_eq_nil_iff]
  intro e he
  have := List.all_eq_true.1 ha e he
  unfold edgeS at this
  simp at this ⊢
  exact this.1.1.2
theorem next_ok {x : Tstep_state} (G : GH H x.fc vs ds es) (F : FromH H x.fc.fPoints es x.ffrom) (p0 : 0 ≤ x.fpoint) (p1 : x.fpoint < x.fc.fPoints) (ha : es.all (edgeS x.fc) = true) (hg : goesS (fromS es x.fpoint) = true) (ho : OpsOk es vars) (hop : ∀ e ∈ es, e.fKind = 12 → 1 ≤ e.fOp ∧ e.fOp ≤ 6)
    {K : Int → Bool → Hp → Prop} (h : K (takeS es vars (idxS x.fpoint 0 es)) (decide (0 ≤ takeS es vars (idxS x.fpoint 0 es))) H) : C_gnomon_step_state_next x vars arrs evs H K := by
  refine L_gnomon_step_state_next _ _ _ _ ?_
  unfold T_gnomon_step_state_next
  obtain ⟨si, hE, hs⟩ := F.row _ p0 p1
  have hn := hs.1
  have hl := idxS_len x.fpoint 0 es
  have ne := G.e.1
  have fn := F.n
  have get : ∀ {i : Int}, 0 ≤ i → i < si.n → ∃ k : Int, (idxS x.fpoint 0 es)[i.toNat]? = some k ∧ EltH H si i 1 (cs_int k) ∧ 0 ≤ k ∧ k < (x.fc.fEdges.n : Int) ∧ ∃ e, es[k.toNat]? = some e ∧ EltH H x.fc.fEdges k 10 (cs_api_Edge e) ∧ (fromS es x.fpoint)[i.toNat]? = some e := by
    intro i h0 h1
    obtain ⟨k, hk, hE⟩ := hs.get h0 h1
    obtain ⟨k0, k1, e, he, hf⟩ := idxS_get x.fpoint 0 es _ _ hk
    obtain ⟨e', he', hF⟩ := G.e.get k0 (show k < (x.fc.fEdges.n : Int) by omega)
    rw [Int.sub_zero] at he
    rw [he] at he'; cases he'
    exact ⟨k, hk, hE, k0, by omega, e, he, hF, hf⟩
  refine ⟨p0, by omega, si, hE, fun hb => ?_, fun hb => ?_⟩
  · have : idxS x.fpoint 0 es = [] := by
      simp at hb
      rcases hb with hb | hb
      · rw [hb]; exact no_exit ha
      · exact List.length_eq_zero_iff.1 (by omega)
    rw [this] at h; exact h
  · simp at hb
    obtain ⟨k, hk, hK, k0, k1, e, he, hF, hf⟩ := get (i := 0) (by omega) (by omega)
    refine ⟨by omega, by omega, k, hK, k0, k1, e, hF, ?_⟩
    have oe := ho e (List.mem_of_getElem? he)
    refine TG_if (valS vars e.fA) (fun _ K' hk => value_ok oe.1 hk) ?_
    refine TG_if (valS vars e.fB) (fun _ K' hk => value_ok oe.2 hk) ?_
    refine TG_if (cmpS e.fOp (valS vars e.fA) (valS vars e.fB)) (fun hq K' hk => num_Cmp_ok (by rw [if_pos hq, if_pos hq]; exact hk)) ?_
    have hgo : ((decide (e.fKind = 12)) && (!(if (decide (e.fKind = 12)) = true then cmpS e.fOp (valS vars e.fA) (valS vars e.fB) else false))) = !goS vars e := by
      unfold goS
      cases decide (e.fKind = 12) <;> simp
    rw [hgo]
    have hhd : ∃ l, idxS x.fpoint 0 es = k :: l := by
      cases hi : idxS x.fpoint 0 es with
      | nil => rw [hi] at hk; simp at hk
      | cons a l => rw [hi] at hk; simp at hk; exact ⟨l, by rw [hk]⟩
    obtain ⟨l, hil⟩ := hhd
    have ht : takeS es vars (idxS x.fpoint 0 es) = bif goS vars e then k else takeS es vars l := by
      rw [hil]
      show (match es[k.toNat]? with | some e => _ | none => _) = _
      rw [he]
    refine ⟨fun hc => ?_, fun hc => ?_⟩
    · have hg0 : goS vars e = false := by simpa using hc
      have hk12 : e.fKind = 12 := by
        unfold goS at hg0
        simp at hg0
        exact hg0.1
      have h2 : (fromS es x.fpoint).length = 2 := by
        cases hm : fromS es x.fpoint with
        | nil => rw [hm] at hf; simp at hf
        | cons a t =>
          rw [hm] at hf hg
          simp at hf; subst hf
          match t, hg with
          | [], hg => simp [goesS, hk12] at hg
          | [b], _ => rfl
          | _ :: _ :: _, hg => simp [goesS] at hg
      obtain ⟨k', hk', hK', k0', k1', f, hfe, hF', hff⟩ := get (i := 1) (by omega) (by omega)
      obtain ⟨a, b, hab⟩ := len_two h2
      rw [hab] at hf hff hg
      simp at hf hff; subst hf; subst hff
      rw [goesS_2] at hg
      simp at hg
      obtain ⟨⟨⟨⟨_, hb12⟩, hAA⟩, hBB⟩, hopp⟩ := hg
      have hgo2 : goS vars b = true := by
        have hA : valS vars b.fA = valS vars a.fA := by unfold valS; rw [← hAA.1, ← hAA.2]
        have hB : valS vars b.fB = valS vars a.fB := by unfold valS; rw [← hBB.1, ← hBB.2]
        have ha6 := hop a (List.mem_of_getElem? he) hk12
        unfold goS at hg0 ⊢
        rw [hA, hB, hopp, notS_cmp ha6.1 ha6.2]
        simp at hg0 ⊢
        exact .inr hg0.2
      have hl2 : takeS es vars l = k' := by
        have : l = [k'] := by
          have hlen : (idxS x.fpoint 0 es).length = 2 := by omega
          rw [hil] at hlen hk'
          match l, hlen, hk' with
          | [z], _, hk' => simp at hk'; rw [hk']
        rw [this]
        show (match es[k'.toNat]? with | some e => _ | none => _) = _
        rw [hfe]
        show (bif goS vars b then k' else _) = _
        rw [hgo2]; rfl
      rw [ht, hg0, cond_false, hl2] at h
      refine ⟨by omega, by omega, k', hK', ?_⟩
      rw [show decide (0 ≤ k') = true by simpa using k0'] at h
      exact h
    · have hg1 : goS vars e = true := by simpa using hc
      rw [ht, hg1, cond_true] at h
      rw [show decide (0 ≤ k) = true by simpa using k0] at h
      exact h
theorem outs_ok (G : GH H c vs ds es) (hp : 0 ≤ c.fPoints ∧ c.fPoints ≤ 4096) (hb : (es.length : Int) ≤ 8192) (ha : es.all (edgeS c) = true) {K : Sl → Hp → Prop} (h : ∀ s H', Hle H H' → FromH H' c.fPoints es s → K s H') : C_gnomon_step_outs c H K := by
  refine L_gnomon_step_outs _ ?_
  unfold T_gnomon_step_outs
  have ne := G.e.1
  refine ⟨by omega, by omega, ?_⟩
  refine TL_of (fun (s : List (List Int) × Int) H' => 0 ≤ s.2 ∧ s.2 ≤ es.length ∧ Hle H H' ∧ RowsAt c.fPoints (fun p => idxS p 0 (es.take s.2.toNat)) s.1) (fun s => (es.length - s.2).toNat)
    ⟨by simp, by simp, Hle.refl _, RowsAt.start (by omega) fun p => rfl⟩ ?_
  rintro ⟨xss, i⟩ H2 next ⟨i0, i1, l2, hr⟩ hn
  dsimp only at i0 i1 hr ⊢
  unfold T_gnomon_step_outs_l2
  refine ⟨fun hc => ?_, fun hc => ?_⟩
  · obtain ⟨e, he, hE⟩ := (G.le l2).e.get i0 (show i < (c.fEdges.n : Int) by omega)
    obtain ⟨f0, f1⟩ := edgeS_from (List.all_eq_true.1 ha e (List.mem_of_getElem? he))
    have tk : es.take (i + 1).toNat = es.take i.toNat ++ [e] := by
      rw [show (i + 1).toNat = i.toNat + 1 by omega]; exact take_succ' he
    have hlt : ((es.take i.toNat).length : Int) = i := by rw [List.length_take]; omega
    obtain ⟨xs, hx, hxe, hr2⟩ := hr.put (g := fun p => idxS p 0 (es.take (i + 1).toNat)) f0 f1 (x := i) (fun p => by rw [tk, idxS_app, hlt, Int.zero_add])
    have hxl : xs.length ≤ 8192 := by
      rw [hxe, idxS_len]
      have := from_len (es.take i.toNat) e.fFrom
      rw [List.length_take] at this
      omega
    refine ⟨i0, by omega, e, hE, f0, xs, hx, by simp; omega, ?_⟩
    rw [wrap_1 i0 (by omega)]
    exact hn _ _ ⟨by omega, by omega, l2, hr2⟩ (by omega)
  · have htk : es.take i.toNat = es := List.take_of_length_le (by omega)
    rw [htk] at hr
    unfold T_gnomon_step_outs_j1
    intro s H3 l3 hs _
    exact h s H3 (l2.trans l3) (FromH.of hr hs)
end
end Go.Proofs.Ytgapepdglhcglaa
