/-
  Graphs: which are ones, the edges from each point. Contracts off the printed formulas.
-/
import Derived.Test.YtgapepdglhcglaaR2
namespace Go.Proofs.Ytgapepdglhcglaa
open Go.RowKit
set_option maxRecDepth 100000
set_option maxHeartbeats 2000000

/-- a graph's lists stand in the frozen heap -/
structure GH (H : Hp) (c : Tapi_Cfg) (vs : List ByteArray) (ds : List Tapi_Decl) (es : List Tapi_Edge) : Prop where
  v : SlH H 1 cs_string c.fVars vs
  a : SlH H 2 cs_api_Decl c.fArrays ds
  e : SlH H 10 cs_api_Edge c.fEdges es
  bv : vs.length ≤ 1099511627776
  ba : ds.length ≤ 1099511627776
  be : es.length ≤ 1099511627776
  bt : in64 c.fTemps
theorem GH.le {H H' : Hp} {c : Tapi_Cfg} {vs : List ByteArray} {ds : List Tapi_Decl} {es : List Tapi_Edge} (G : GH H c vs ds es) (l : Hle H H') : GH H' c vs ds es := ⟨G.v.le l, G.a.le l, G.e.le l, G.bv, G.ba, G.be, G.bt⟩

def sizesS (ds : List Tapi_Decl) : Bool := ds.all fun d => decide (1 ≤ d.fSize) && decide (d.fSize ≤ 1024)
def goesS : List Tapi_Edge → Bool
  | [] => true
  | [a] => !decide (a.fKind = 12)
  | [a, b] => decide (a.fKind = 12) && decide (b.fKind = 12) && decide (a.fA.fVar = b.fA.fVar ∧ a.fA.fNum = b.fA.fNum) && decide (a.fB.fVar = b.fB.fVar ∧ a.fB.fNum = b.fB.fNum) && decide (b.fOp = notS a.fOp)
  | _ => false
theorem goesS_2 (a b : Tapi_Edge) : goesS [a, b] = (decide (a.fKind = 12) && decide (b.fKind = 12) && decide (a.fA.fVar = b.fA.fVar ∧ a.fA.fNum = b.fA.fNum) && decide (a.fB.fVar = b.fB.fVar ∧ a.fB.fNum = b.fB.fNum) && decide (b.fOp = notS a.fOp)) := rfl
theorem goesS_n : ∀ {l : List Tapi_Edge}, l.length ≠ 0 → l.length ≠ 1 → l.length ≠ 2 → goesS l = false
  | [], h, _, _ => (h rfl).elim
  | [_], _, h, _ => (h rfl).elim
  | [_, _], _, _, h => (h rfl).elim
  | _ :: _ :: _ :: _, _, _, _ => rfl
def fromS (es : List Tapi_Edge) (p : Int) : List Tapi_Edge := es.filter fun e => decide (e.fFrom = p)
def varsS (c : Tapi_Cfg) (vs : List ByteArray) : Bool := decide (0 ≤ c.fTemps) && decide (c.fTemps ≤ 64) && decide ((vs.length : Int) + c.fTemps ≤ 64)
def pointsS (c : Tapi_Cfg) (es : List Tapi_Edge) : Bool := decide (1 ≤ c.fPoints) && decide (c.fPoints ≤ 4096) && decide ((es.length : Int) ≤ 8192)
def forksS (c : Tapi_Cfg) (es : List Tapi_Edge) : Bool := (List.range c.fPoints.toNat).all fun p => goesS (fromS es (p : Int))
def formS (c : Tapi_Cfg) (ds : List Tapi_Decl) (es : List Tapi_Edge) : Bool := decide ((ds.length : Int) ≤ 16) && sizesS ds && within c.fExit c.fPoints && es.all (edgeS c) && forksS c es
def checkS (c : Tapi_Cfg) (vs : List ByteArray) (ds : List Tapi_Decl) (es : List Tapi_Edge) : Int := bif !varsS c vs then 90 else bif !pointsS c es then 91 else bif !formS c ds es then 92 else 0
theorem check_form {c : Tapi_Cfg} {vs : List ByteArray} {ds : List Tapi_Decl} {es : List Tapi_Edge} (h1 : varsS c vs = true) (h2 : pointsS c es = true) (h3 : formS c ds es = false) : checkS c vs ds es = 92 := by
  unfold checkS
  rw [h1, h2, h3]; rfl
/-- the numbers of the edges from a point -/
def idxS (p : Int) : Int → List Tapi_Edge → List Int
  | _, [] => []
  | k, e :: l => if e.fFrom = p then k :: idxS p (k + 1) l else idxS p (k + 1) l
theorem idxS_app (p : Int) (e : Tapi_Edge) : ∀ (k : Int) (l : List Tapi_Edge), idxS p k (l ++ [e]) = idxS p k l ++ (if e.fFrom = p then [k + l.length] else [])
  | k, [] => by simp [idxS]
  | k, a :: l => by
    rw [List.cons_append, idxS, idxS, idxS_app p e (k + 1) l]
    have : k + 1 + (l.length : Int) = k + ((a :: l).length : Int) := by rw [List.length_cons]; omega
    rw [this]
    split <;> simp
theorem fromS_app (p : Int) (e : Tapi_Edge) (l : List Tapi_Edge) : fromS (l ++ [e]) p = fromS l p ++ (if e.fFrom = p then [e] else []) := by
  unfold fromS
  rw [List.filter_append]
  by_cases h : e.fFrom = p <;> simp [h]
theorem idxS_get (p : Int) : ∀ (k : Int) (l : List Tapi_Edge) (j : Nat) (i : Int), (idxS p k l)[j]? = some i → k ≤ i ∧ i < k + l.length ∧ ∃ e, l[(i - k).toNat]? = some e ∧ (fromS l p)[j]? = some e
  | k, [], j, i, h => by simp [idxS] at h
  | k, a :: l, j, i, h => by
    unfold idxS at h
    by_cases hp : a.fFrom = p
    · rw [if_pos hp] at h
      have hf : fromS (a :: l) p = a :: fromS l p := by unfold fromS; simp [hp]
      rw [hf]
      cases j with
      | zero =>
        simp only [List.getElem?_cons_zero, Option.some.injEq] at h
        subst h
        refine ⟨Int.le_refl _, by rw [List.length_cons]; omega, a, ?_, rfl⟩
        rw [Int.sub_self]; rfl
      | succ j =>
        obtain ⟨h1, h2, e, h3, h4⟩ := idxS_get p (k + 1) l j i (by simpa using h)
        refine ⟨by omega, by rw [List.length_cons]; omega, e, ?_, by simpa using h4⟩
        rw [show (i - k).toNat = (i - (k + 1)).toNat + 1 by omega]
        simpa using h3
    · rw [if_neg hp] at h
      have hf : fromS (a :: l) p = fromS l p := by unfold fromS; simp [hp]
      rw [hf]
      obtain ⟨h1, h2, e, h3, h4⟩ := idxS_get p (k + 1) l j i h
      refine ⟨by omega, by rw [List.length_cons]; omega, e, ?_, h4⟩
      rw [show (i - k).toNat = (i - (k + 1)).toNat + 1 by omega]
      simpa using h3
theorem idxS_len (p : Int) : ∀ (k : Int) (l : List Tapi_Edge), (idxS p k l).length = (fromS l p).length
  | k, [] => rfl
  | k, a :: l => by
    unfold idxS fromS
    have ih := idxS_len p (k + 1) l
    unfold fromS at ih
    by_cases hp : a.fFrom = p <;> simp [hp, ih]
theorem from_len (es : List Tapi_Edge) (p : Int) : (fromS es p).length ≤ es.length := List.length_filter_le _ _
theorem len_two {α : Type} : ∀ {l : List α}, l.length = 2 → ∃ a b, l = [a, b]
  | [], h => by cases h
  | [_], h => by cases h
  | [a, b], _ => ⟨a, b, rfl⟩
  | _ :: _ :: _ :: _, h => by simp at h
section
variable {H : Hp} {c : Tapi_Cfg} {vs : List ByteArray} {ds : List Tapi_Decl} {es : List Tapi_Edge}
theorem goes_ok {l : List Tapi_Edge} {s : Sl} (hs : SlH H 10 cs_api_Edge s l) {K : Bool → Hp → Prop} (h : K (goesS l) H) : C_gnomon_cfg_goes s H K := by
  refine L_gnomon_cfg_goes _ ?_
  unfold T_gnomon_cfg_goes
  have hn := hs.1
  refine ⟨fun h0 => ?_, fun h0 => ⟨fun h1 => ?_, fun h1 => ⟨fun h2 => ?_, fun h2 => ?_⟩⟩⟩
  · have : l = [] := List.length_eq_zero_iff.1 (by omega)
    subst this; exact h
  · obtain ⟨x, hx, hE⟩ := hs.get (i := 0) (by omega) (by omega)
    obtain ⟨a, rfl⟩ := List.length_eq_one_iff.1 (show l.length = 1 by omega)
    simp at hx; subst hx
    exact ⟨by omega, by omega, a, hE, h⟩
  · obtain ⟨x, hx, hE⟩ := hs.get (i := 0) (by omega) (by omega)
    obtain ⟨y, hy, hF⟩ := hs.get (i := 1) (by omega) (by omega)
    obtain ⟨a, b, rfl⟩ := len_two (show l.length = 2 by omega)
    simp at hx hy; subst hx; subst hy
    refine ⟨by omega, by omega, a, hE, by omega, by omega, b, hF, ?_⟩
    unfold T_gnomon_cfg_goes_j1
    refine TG_if (notS a.fOp) (fun _ K' hk => num_Not_ok hk) ?_
    rw [goesS_2] at h
    generalize hq : (decide (a.fKind = 12) && decide (b.fKind = 12) && decide (a.fA.fVar = b.fA.fVar ∧ a.fA.fNum = b.fA.fNum) && decide (a.fB.fVar = b.fB.fVar ∧ a.fB.fNum = b.fB.fNum)) = q at h ⊢
    cases q
    · exact h
    · rw [if_pos rfl]; exact h
  · have : goesS l = false := goesS_n (by omega) (by omega) (by omega)
    rw [this] at h; exact h
theorem fork_ok (G : GH H c vs ds es) {p : Int} {s : Sl} (hs : SlH H 1 cs_int s (idxS p 0 es)) {K : Bool → Hp → Prop} (h : K (goesS (fromS es p)) H) : C_gnomon_gnomonref9_fork c s H K := by
  refine L_gnomon_gnomonref9_fork _ _ ?_
  unfold T_gnomon_gnomonref9_fork
  have hn := hs.1
  have hl := idxS_len p 0 es
  have ne := G.e.1
  have get : ∀ {i : Int}, 0 ≤ i → i < s.n → ∃ k : Int, EltH H s i 1 (cs_int k) ∧ 0 ≤ k ∧ k < (c.fEdges.n : Int) ∧ ∃ e, EltH H c.fEdges k 10 (cs_api_Edge e) ∧ (fromS es p)[i.toNat]? = some e := by
    intro i h0 h1
    obtain ⟨k, hk, hE⟩ := hs.get h0 h1
    obtain ⟨k0, k1, e, he, hf⟩ := idxS_get p 0 es _ _ hk
    obtain ⟨e', he', hF⟩ := G.e.get k0 (show k < (c.fEdges.n : Int) by omega)
    rw [Int.sub_zero] at he
    rw [he] at he'; cases he'
    exact ⟨k, hE, k0, by omega, e, hF, hf⟩
  refine ⟨fun h0 => ?_, fun h0 => ?_⟩
  · have : fromS es p = [] := List.length_eq_zero_iff.1 (by omega)
    rw [this] at h; exact h
  · obtain ⟨k, hE, k0, k1, a, hA, ha⟩ := get (i := 0) (by omega) (by omega)
    refine ⟨by omega, by omega, k, hE, k0, k1, a, hA, fun h1 => ?_, fun h1 => ?_⟩
    · obtain ⟨x, hx⟩ := List.length_eq_one_iff.1 (show (fromS es p).length = 1 by omega)
      rw [hx] at ha h
      simp at ha; subst ha
      exact h
    · obtain ⟨k', hE', k0', k1', b, hB, hb⟩ := get (i := 1) (by omega) (by omega)
      refine ⟨by omega, by omega, k', hE', k0', k1', b, hB, ?_⟩
      refine TG_if (notS a.fOp) (fun _ K' hk => ref_Not_ok hk) ?_
      by_cases h2 : (s.n : Int) = 2
      · obtain ⟨x, y, hxy⟩ := len_two (show (fromS es p).length = 2 by omega)
        rw [hxy] at ha hb h
        simp at ha hb; subst ha; subst hb
        rw [goesS_2] at h
        rw [show decide ((s.n : Int) = 2) = true by simpa using h2, Bool.true_and]
        generalize hq : (decide (x.fKind = 12) && decide (y.fKind = 12) && decide (x.fA.fVar = y.fA.fVar ∧ x.fA.fNum = y.fA.fNum) && decide (x.fB.fVar = y.fB.fVar ∧ x.fB.fNum = y.fB.fNum)) = q at h ⊢
        cases q
        · exact h
        · rw [if_pos rfl]; exact h
      · have : goesS (fromS es p) = false := goesS_n (by omega) (by omega) (by omega)
        rw [this] at h
        rw [show decide ((s.n : Int) = 2) = false by simpa using h2]
        exact h
theorem wrap_1 {i : Int} (h0 : 0 ≤ i) (h1 : i ≤ 1099511627776) : IntKind.wrap .i64 (i + 1) = i + 1 := fit_wrap ⟨by omega, by omega⟩
theorem allS_eq (G : GH H c vs ds es) (h0 : 0 ≤ c.fTemps) (h1 : c.fTemps ≤ 64) : allS c = (vs.length : Int) + c.fTemps := by
  unfold allS
  have := G.v.1; have := G.bv
  rw [fit_wrap ⟨by omega, by omega⟩]
  omega
theorem getElem?_set_ne' {α : Type} {l : List α} {i j : Nat} {x : α} (h : i ≠ j) : (l.set i x)[j]? = l[j]? := List.getElem?_set_ne h
theorem all_bad {α : Type} {f : α → Bool} {l : List α} {i : Nat} {x : α} (h : l[i]? = some x) (hf : f x = false) : l.all f = false := by
  rw [List.all_eq_false]
  exact ⟨x, List.mem_of_getElem? h, by rw [hf]; decide⟩
theorem all_good {α : Type} {f : α → Bool} {l : List α} (h : ∀ (i : Nat) (x : α), l[i]? = some x → f x = true) : l.all f = true := by
  rw [List.all_eq_true]
  intro x hx
  obtain ⟨i, hi, rfl⟩ := List.mem_iff_getElem.1 hx
  exact h i _ (List.getElem?_eq_getElem hi)
theorem take_succ' {α : Type} {l : List α} {i : Nat} {x : α} (h : l[i]? = some x) : l.take (i + 1) = l.take i ++ [x] := by
  rw [List.take_add_one, h]; rfl
/-- rows, one for each point -/
def RowsAt {β : Type} (P : Int) (f : Int → List β) (xss : List (List β)) : Prop := (xss.length : Int) = P ∧ ∀ p : Nat, (p : Int) < P → xss[p]? = some (f p)
theorem RowsAt.start {β : Type} {P : Int} (h0 : 0 ≤ P) {f : Int → List β} (hf : ∀ p, f p = []) : RowsAt P f (List.replicate P.toNat ([] : List β)) := by
  refine ⟨by rw [List.length_replicate]; omega, fun p hp => ?_⟩
  rw [List.getElem?_replicate, if_pos (by omega), hf]
theorem RowsAt.put {β : Type} {P : Int} {f g : Int → List β} {xss : List (List β)} (h : RowsAt P f xss) {q : Int} (h0 : 0 ≤ q) (hq : q < P) {x : β} (hg : ∀ p, g p = f p ++ (if q = p then [x] else [])) :
    ∃ xs, xss[q.toNat]? = some xs ∧ xs = f q ∧ RowsAt P g (xss.set q.toNat (xs ++ [x])) := by
  refine ⟨f q, by rw [h.2 q.toNat (by omega), Int.toNat_of_nonneg h0], rfl, by rw [List.length_set]; exact h.1, fun p hp => ?_⟩
  rw [hg]
  by_cases e : q.toNat = p
  · subst e
    rw [List.getElem?_set_self (by have := h.1; omega), if_pos (by omega), Int.toNat_of_nonneg h0]
  · rw [getElem?_set_ne' e, h.2 p hp, if_neg (by omega), List.append_nil]
theorem edgeS_from {e : Tapi_Edge} (h : edgeS c e = true) : 0 ≤ e.fFrom ∧ e.fFrom < c.fPoints := by
  unfold edgeS within at h
  simp at h
  omega
theorem cfg_Check_ok (G : GH H c vs ds es) {K : Int → Hp → Prop} (h : ∀ H', Hle H H' → K (checkS c vs ds es) H') : C_gnomon_cfg_Check c H K := by
  refine L_gnomon_cfg_Check _ ?_
  unfold T_gnomon_cfg_Check
  have nv := G.v.1; have na := G.a.1; have ne := G.e.1
  have bv := G.bv; have ba := G.ba; have be := G.be; have bt := G.bt
  have hv : (((decide (c.fTemps < 0)) || (decide (64 < c.fTemps))) || (decide (64 < (IntKind.wrap .i64 ((c.fVars.n : Int) + c.fTemps))))) = !varsS c vs := by
    unfold varsS
    by_cases h0 : 0 ≤ c.fTemps
    · by_cases h1 : c.fTemps ≤ 64
      · rw [fit_wrap ⟨by omega, by omega⟩]
        by_cases h2 : (vs.length : Int) + c.fTemps ≤ 64 <;> simp [h0, h1, h2] <;> omega
      · simp [h0, h1]; omega
    · simp [h0]; omega
  have hp : (((decide (c.fPoints < 1)) || (decide (4096 < c.fPoints))) || (decide (8192 < (c.fEdges.n : Int)))) = !pointsS c es := by
    unfold pointsS
    rw [ne]
    by_cases h0 : 1 ≤ c.fPoints <;> by_cases h1 : c.fPoints ≤ 4096 <;> by_cases h2 : (es.length : Int) ≤ 8192 <;> simp [h0, h1, h2] <;> omega
  rw [hv, hp]
  refine ⟨fun q1 => ?_, fun q1 => ⟨fun q2 => ?_, fun q2 => ?_⟩⟩
  · have := h H (Hle.refl _)
    unfold checkS at this
    rw [q1] at this; exact this
  · have := h H (Hle.refl _)
    unfold checkS at this
    rw [q1, q2] at this; exact this
  simp at q1 q2
  have bad : formS c ds es = false → ∀ H', Hle H H' → K 92 H' := fun hf H' hl => by
    have := h H' hl
    rwa [check_form q1 q2 hf] at this
  have pp : 1 ≤ c.fPoints ∧ c.fPoints ≤ 4096 ∧ (es.length : Int) ≤ 8192 := by unfold pointsS at q2; simp at q2; omega
  refine ⟨fun q3 => bad ?_ H (Hle.refl _), fun q3 => ?_⟩
  · unfold formS
    rw [show decide ((ds.length : Int) ≤ 16) = false by simp; omega]; rfl
  have a16 : (ds.length : Int) ≤ 16 := by omega
  refine TL_of (fun (i : Int) H' => 0 ≤ i ∧ i ≤ ds.length ∧ Hle H H' ∧ ∀ (j : Nat) d, (j : Int) < i → ds[j]? = some d → (decide (1 ≤ d.fSize) && decide (d.fSize ≤ 1024)) = true) (fun i => (ds.length - i).toNat) ⟨by omega, by omega, Hle.refl _, fun j d hj => by omega⟩ ?_
  rintro i H1 next ⟨i0, i1, l1, hi⟩ hn
  unfold T_gnomon_cfg_Check_l6
  have G1 := G.le l1
  refine ⟨fun hc => ?_, fun hc => ?_⟩
  · obtain ⟨d, hd, hE⟩ := G1.a.get i0 hc
    refine ⟨i0, hc, d, hE, fun hb => bad ?_ H1 l1, fun hb => ?_⟩
    · have : sizesS ds = false := all_bad hd (by
        by_cases z1 : 1 ≤ d.fSize <;> by_cases z2 : d.fSize ≤ 1024 <;> simp [z1, z2] at hb ⊢ <;> omega)
      unfold formS
      rw [this]; simp
    · rw [wrap_1 i0 (by omega)]
      refine hn _ _ ⟨by omega, by omega, l1, fun j d' hj hd' => ?_⟩ (by omega)
      by_cases e : j = i.toNat
      · subst e
        rw [hd] at hd'; cases hd'
        by_cases z1 : 1 ≤ d.fSize <;> by_cases z2 : d.fSize ≤ 1024 <;> simp [z1, z2] at hb ⊢ <;> omega
      · exact hi j d' (by omega) hd'
  have hsz : sizesS ds = true := all_good fun j d hd => hi j d (by have := (List.getElem?_eq_some_iff.1 hd).1; omega) hd
  clear hi hn next
  unfold T_gnomon_cfg_Check_j1
  refine point_ok ⟨fun hb => bad ?_ H1 l1, fun hb => ?_⟩
  · have : within c.fExit c.fPoints = false := by simpa using hb
    unfold formS
    rw [this]; simp
  have hex : within c.fExit c.fPoints = true := by simpa using hb
  refine ⟨by omega, by omega, ?_⟩
  refine TL_of (fun (s : List (List Tapi_Edge) × Int) H' => 0 ≤ s.2 ∧ s.2 ≤ es.length ∧ Hle H H' ∧ RowsAt c.fPoints (fun p => fromS (es.take s.2.toNat) p) s.1 ∧ ∀ (j : Nat) e, (j : Int) < s.2 → es[j]? = some e → edgeS c e = true) (fun s => (es.length - s.2).toNat)
    ⟨by simp, by simp, l1, RowsAt.start (by omega) fun p => rfl, fun j d hj => by simp at hj; omega⟩ ?_
  rintro ⟨xss, i⟩ H2 next ⟨i0, i1, l2, hr, hi⟩ hn
  dsimp only at i0 i1 hr hi ⊢
  unfold T_gnomon_cfg_Check_l5
  have G2 := G.le l2
  refine ⟨fun hc => ?_, fun hc => ?_⟩
  · obtain ⟨e, he, hE⟩ := G2.e.get i0 (show i < (c.fEdges.n : Int) by omega)
    refine ⟨i0, by omega, e, hE, right_ok ⟨fun hb => bad ?_ H2 l2, fun hb => ?_⟩⟩
    · have : es.all (edgeS c) = false := all_bad he (by simpa using hb)
      unfold formS
      rw [this]; simp
    · have hg : edgeS c e = true := by simpa using hb
      obtain ⟨f0, f1⟩ := edgeS_from hg
      have tk : es.take (i + 1).toNat = es.take i.toNat ++ [e] := by
        rw [show (i + 1).toNat = i.toNat + 1 by omega]; exact take_succ' he
      obtain ⟨xs, hx, hxe, hr2⟩ := hr.put (g := fun p => fromS (es.take (i + 1).toNat) p) f0 f1 (x := e) (fun p => by rw [tk, fromS_app])
      have hxl : xs.length ≤ 8192 := by
        rw [hxe]
        have := from_len (es.take i.toNat) e.fFrom
        rw [List.length_take] at this
        omega
      refine ⟨f0, xs, hx, by simp; omega, ?_⟩
      rw [wrap_1 i0 (by omega)]
      refine hn _ _ ⟨by omega, by omega, l2, hr2, fun j d' hj hd' => ?_⟩ (by omega)
      by_cases ej : j = i.toNat
      · subst ej
        rw [he] at hd'; cases hd'
        exact hg
      · exact hi j d' (by omega) hd'
  have hall : es.all (edgeS c) = true := all_good fun j d hd => hi j d (by have := (List.getElem?_eq_some_iff.1 hd).1; omega) hd
  have htk : es.take i.toNat = es := List.take_of_length_le (by omega)
  rw [htk] at hr
  clear hi hn next
  unfold T_gnomon_cfg_Check_j2
  intro s H3 l3 hs _
  obtain ⟨sn, ss, hss, hin⟩ := hs
  refine TL_of (fun (i : Int) H' => 0 ≤ i ∧ i ≤ c.fPoints ∧ Hle H3 H' ∧ ∀ (p : Nat), (p : Int) < i → goesS (fromS es (p : Int)) = true) (fun i => (c.fPoints - i).toNat) ⟨by omega, by omega, Hle.refl _, fun j hj => by omega⟩ ?_
  rintro i H4 next ⟨i0, i1, l4, hi⟩ hn
  unfold T_gnomon_cfg_Check_l4
  refine ⟨fun hc => ?_, fun hc => ?_⟩
  · have hl := hr.1
    obtain ⟨x, hx, hE⟩ := (hss.le l4).get i0 (show i < (s.n : Int) by omega)
    obtain ⟨hxs, _⟩ := hin i.toNat x _ hx (hr.2 i.toNat (by omega))
    rw [Int.toNat_of_nonneg i0] at hxs
    refine ⟨i0, by omega, x, hE, goes_ok (hxs.le l4) ⟨fun hb => bad ?_ H4 (l2.trans (l3.trans l4)), fun hb => ?_⟩⟩
    · have : forksS c es = false := by
        unfold forksS
        refine all_bad (i := i.toNat) (x := i.toNat) (by rw [List.getElem?_range (by omega)]) ?_
        rw [Int.toNat_of_nonneg i0]; simpa using hb
      unfold formS
      rw [this]; simp
    · rw [wrap_1 i0 (by omega)]
      refine hn _ _ ⟨by omega, by omega, l4, fun p hp => ?_⟩ (by omega)
      by_cases e : (p : Int) = i
      · rw [e]; simpa using hb
      · exact hi p (by omega)
  · unfold T_gnomon_cfg_Check_j3
    have hf : forksS c es = true := by
      unfold forksS
      refine all_good fun j p hp => ?_
      have : p < c.fPoints.toNat := List.mem_range.1 (List.mem_of_getElem? hp)
      exact hi p (by omega)
    have := h H4 (l2.trans (l3.trans l4))
    have hff : formS c ds es = true := by unfold formS; rw [hsz, hex, hall, hf]; simp; omega
    unfold checkS at this
    rw [q1, q2, hff] at this; exact this
theorem ref_Check_ok (G : GH H c vs ds es) {K : Int → Hp → Prop} (h : ∀ H', Hle H H' → K (checkS c vs ds es) H') : C_gnomon_gnomonref9_Check c H K := by
  refine L_gnomon_gnomonref9_Check _ ?_
  unfold T_gnomon_gnomonref9_Check
  have nv := G.v.1; have na := G.a.1; have ne := G.e.1
  have bv := G.bv; have ba := G.ba; have be := G.be; have bt := G.bt
  refine TG_if (allS c) (fun _ K' hk => All_ok hk) ?_
  have hv : ((((decide (c.fTemps < 0)) || (decide (64 < c.fTemps))) || (decide (64 < (c.fVars.n : Int)))) || (decide (64 < (if (((decide (c.fTemps < 0)) || (decide (64 < c.fTemps))) || (decide (64 < (c.fVars.n : Int)))) = false then allS c else 0)))) = !varsS c vs := by
    unfold varsS
    by_cases h0 : 0 ≤ c.fTemps
    · by_cases h1 : c.fTemps ≤ 64
      · rw [allS_eq G h0 h1]
        by_cases h3 : (c.fVars.n : Int) ≤ 64
        · by_cases h2 : (vs.length : Int) + c.fTemps ≤ 64
          · have e1 : ¬ c.fTemps < 0 := by omega
            have e2 : ¬ 64 < c.fTemps := by omega
            have e3 : ¬ (64 : Int) < (c.fVars.n : Int) := by omega
            have e4 : ¬ (64 : Int) < (vs.length : Int) + c.fTemps := by omega
            simp only [e1, e2, e3, decide_false, Bool.or_false, if_true, e4, h0, h1, h2, decide_true, Bool.and_true, Bool.not_true]
          · have e1 : ¬ c.fTemps < 0 := by omega
            have e2 : ¬ 64 < c.fTemps := by omega
            have e3 : ¬ (64 : Int) < (c.fVars.n : Int) := by omega
            have e4 : (64 : Int) < (vs.length : Int) + c.fTemps := by omega
            simp only [e1, e2, e3, decide_false, Bool.or_false, if_true, e4, h0, h1, h2, decide_true, Bool.and_true, Bool.and_false, Bool.or_true, Bool.not_false]
        · have e3 : (64 : Int) < (c.fVars.n : Int) := by omega
          have h2 : ¬ ((vs.length : Int) + c.fTemps ≤ 64) := by omega
          simp [e3, h2]
      · have e2 : 64 < c.fTemps := by omega
        simp [e2, h1]
    · have e1 : c.fTemps < 0 := by omega
      simp [e1, h0]
  have hp : (((decide (c.fPoints < 1)) || (decide (4096 < c.fPoints))) || (decide (8192 < (c.fEdges.n : Int)))) = !pointsS c es := by
    unfold pointsS
    rw [ne]
    by_cases h0 : 1 ≤ c.fPoints <;> by_cases h1 : c.fPoints ≤ 4096 <;> by_cases h2 : (es.length : Int) ≤ 8192 <;> simp [h0, h1, h2] <;> omega
  rw [hv, hp]
  refine ⟨fun q1 => ?_, fun q1 => ⟨fun q2 => ?_, fun q2 => ?_⟩⟩
  · have := h H (Hle.refl _)
    unfold checkS at this
    rw [q1] at this; exact this
  · have := h H (Hle.refl _)
    unfold checkS at this
    rw [q1, q2] at this; exact this
  simp at q1 q2
  have bad : formS c ds es = false → ∀ H', Hle H H' → K 92 H' := fun hf H' hl => by
    have := h H' hl
    rwa [check_form q1 q2 hf] at this
  have pp : 1 ≤ c.fPoints ∧ c.fPoints ≤ 4096 ∧ (es.length : Int) ≤ 8192 := by unfold pointsS at q2; simp at q2; omega
  have q3e : (((decide (16 < (c.fArrays.n : Int))) || (decide (c.fExit < 0))) || (decide (c.fPoints ≤ c.fExit))) = !(decide ((ds.length : Int) ≤ 16) && within c.fExit c.fPoints) := by
    unfold within
    by_cases h0 : (ds.length : Int) ≤ 16 <;> by_cases h1 : 0 ≤ c.fExit <;> by_cases h2 : c.fExit < c.fPoints <;> simp [h0, h1, h2] <;> omega
  rw [q3e]
  refine ⟨fun q3 => bad ?_ H (Hle.refl _), fun q3 => ?_⟩
  · simp at q3
    unfold formS
    rcases q3 with q | q
    · rw [show decide ((ds.length : Int) ≤ 16) = false by simp; omega]; rfl
    · rw [q]; simp
  have a16 : (ds.length : Int) ≤ 16 ∧ within c.fExit c.fPoints = true := by simpa using q3
  have hex := a16.2
  refine TL_of (fun (i : Int) H' => 0 ≤ i ∧ i ≤ ds.length ∧ Hle H H' ∧ ∀ (j : Nat) d, (j : Int) < i → ds[j]? = some d → (decide (1 ≤ d.fSize) && decide (d.fSize ≤ 1024)) = true) (fun i => (ds.length - i).toNat) ⟨by omega, by omega, Hle.refl _, fun j d hj => by omega⟩ ?_
  rintro i H1 next ⟨i0, i1, l1, hi⟩ hn
  unfold T_gnomon_gnomonref9_Check_l6
  have G1 := G.le l1
  refine ⟨fun hc => ?_, fun hc => ?_⟩
  · obtain ⟨d, hd, hE⟩ := G1.a.get i0 hc
    refine ⟨i0, hc, d, hE, fun hb => bad ?_ H1 l1, fun hb => ?_⟩
    · have : sizesS ds = false := all_bad hd (by
        by_cases z1 : 1 ≤ d.fSize <;> by_cases z2 : d.fSize ≤ 1024 <;> simp [z1, z2] at hb ⊢ <;> omega)
      unfold formS
      rw [this]; simp
    · rw [wrap_1 i0 (by omega)]
      refine hn _ _ ⟨by omega, by omega, l1, fun j d' hj hd' => ?_⟩ (by omega)
      by_cases e : j = i.toNat
      · subst e
        rw [hd] at hd'; cases hd'
        by_cases z1 : 1 ≤ d.fSize <;> by_cases z2 : d.fSize ≤ 1024 <;> simp [z1, z2] at hb ⊢ <;> omega
      · exact hi j d' (by omega) hd'
  have hsz : sizesS ds = true := all_good fun j d hd => hi j d (by have := (List.getElem?_eq_some_iff.1 hd).1; omega) hd
  clear hi hn next
  unfold T_gnomon_gnomonref9_Check_j1
  refine ⟨by omega, by omega, ?_⟩
  refine TL_of (fun (s : List (List Int) × Int) H' => 0 ≤ s.2 ∧ s.2 ≤ es.length ∧ Hle H H' ∧ RowsAt c.fPoints (fun p => idxS p 0 (es.take s.2.toNat)) s.1 ∧ ∀ (j : Nat) e, (j : Int) < s.2 → es[j]? = some e → edgeS c e = true) (fun s => (es.length - s.2).toNat)
    ⟨by simp, by simp, l1, RowsAt.start (by omega) fun p => rfl, fun j d hj => by simp at hj; omega⟩ ?_
  rintro ⟨xss, i⟩ H2 next ⟨i0, i1, l2, hr, hi⟩ hn
  dsimp only at i0 i1 hr hi ⊢
  unfold T_gnomon_gnomonref9_Check_l5
  have G2 := G.le l2
  refine ⟨fun hc => ?_, fun hc => ?_⟩
  · obtain ⟨e, he, hE⟩ := G2.e.get i0 (show i < (c.fEdges.n : Int) by omega)
    refine ⟨i0, by omega, e, hE, ?_⟩
    refine TG_if (allS c) (fun _ K' hk => All_ok hk) ?_
    refine TG_if (kindS e.fKind && rightS (allS c) (c.fArrays.n : Int) e) (fun hq K' hk => refRight_ok (by rw [if_pos hq]; exact hk)) ?_
    have hee : (((((decide (e.fFrom < 0)) || (decide (c.fPoints ≤ e.fFrom))) || (decide (e.fTo < 0))) || (decide (c.fPoints ≤ e.fTo))) || (decide (e.fFrom = c.fExit))) = !(within e.fFrom c.fPoints && within e.fTo c.fPoints && !decide (e.fFrom = c.fExit)) := by
      unfold within
      by_cases z0 : 0 ≤ e.fFrom <;> by_cases z1 : e.fFrom < c.fPoints <;> by_cases z2 : 0 ≤ e.fTo <;> by_cases z3 : e.fTo < c.fPoints <;> by_cases z4 : e.fFrom = c.fExit <;> simp [z0, z1, z2, z3, z4] <;> omega
    have hfull : ((((((decide (e.fFrom < 0)) || (decide (c.fPoints ≤ e.fFrom))) || (decide (e.fTo < 0))) || (decide (c.fPoints ≤ e.fTo))) || (decide (e.fFrom = c.fExit))) || (!(if (((((decide (e.fFrom < 0)) || (decide (c.fPoints ≤ e.fFrom))) || (decide (e.fTo < 0))) || (decide (c.fPoints ≤ e.fTo))) || (decide (e.fFrom = c.fExit))) = false then (kindS e.fKind && rightS (allS c) (c.fArrays.n : Int) e) else false))) = !edgeS c e := by
      rw [hee]
      unfold edgeS
      cases within e.fFrom c.fPoints <;> cases within e.fTo c.fPoints <;> cases decide (e.fFrom = c.fExit) <;> cases kindS e.fKind <;> cases rightS (allS c) (c.fArrays.n : Int) e <;> rfl
    rw [hfull]
    refine ⟨fun hb => bad ?_ H2 l2, fun hb => ?_⟩
    · have : es.all (edgeS c) = false := all_bad he (by simpa using hb)
      unfold formS
      rw [this]; simp
    · have hg : edgeS c e = true := by simpa using hb
      obtain ⟨f0, f1⟩ := edgeS_from hg
      have tk : es.take (i + 1).toNat = es.take i.toNat ++ [e] := by
        rw [show (i + 1).toNat = i.toNat + 1 by omega]; exact take_succ' he
      have hlt : ((es.take i.toNat).length : Int) = i := by rw [List.length_take]; omega
      obtain ⟨xs, hx, hxe, hr2⟩ := hr.put (g := fun p => idxS p 0 (es.take (i + 1).toNat)) f0 f1 (x := i) (fun p => by rw [tk, idxS_app, hlt, Int.zero_add])
      have hxl : xs.length ≤ 8192 := by
        rw [hxe, idxS_len]
        have := from_len (es.take i.toNat) e.fFrom
        rw [List.length_take] at this
        omega
      refine ⟨f0, xs, hx, by simp; omega, ?_⟩
      rw [wrap_1 i0 (by omega)]
      refine hn _ _ ⟨by omega, by omega, l2, hr2, fun j d' hj hd' => ?_⟩ (by omega)
      by_cases ej : j = i.toNat
      · subst ej
        rw [he] at hd'; cases hd'
        exact hg
      · exact hi j d' (by omega) hd'
  have hall : es.all (edgeS c) = true := all_good fun j d hd => hi j d (by have := (List.getElem?_eq_some_iff.1 hd).1; omega) hd
  have htk : es.take i.toNat = es := List.take_of_length_le (by omega)
  rw [htk] at hr
  clear hi hn next
  unfold T_gnomon_gnomonref9_Check_j2
  intro s H3 l3 hs _
  obtain ⟨sn, ss, hss, hin⟩ := hs
  refine TL_of (fun (i : Int) H' => 0 ≤ i ∧ i ≤ c.fPoints ∧ Hle H3 H' ∧ ∀ (p : Nat), (p : Int) < i → goesS (fromS es (p : Int)) = true) (fun i => (c.fPoints - i).toNat) ⟨by omega, by omega, Hle.refl _, fun j hj => by omega⟩ ?_
  rintro i H4 next ⟨i0, i1, l4, hi⟩ hn
  unfold T_gnomon_gnomonref9_Check_l4
  refine ⟨fun hc => ?_, fun hc => ?_⟩
  · have hl := hr.1
    obtain ⟨x, hx, hE⟩ := (hss.le l4).get i0 (show i < (s.n : Int) by omega)
    obtain ⟨hxs, _⟩ := hin i.toNat x _ hx (hr.2 i.toNat (by omega))
    rw [Int.toNat_of_nonneg i0] at hxs
    refine ⟨i0, by omega, x, hE, fork_ok (G.le (l2.trans (l3.trans l4))) (hxs.le l4) ⟨fun hb => bad ?_ H4 (l2.trans (l3.trans l4)), fun hb => ?_⟩⟩
    · have : forksS c es = false := by
        unfold forksS
        refine all_bad (i := i.toNat) (x := i.toNat) (by rw [List.getElem?_range (by omega)]) ?_
        rw [Int.toNat_of_nonneg i0]; simpa using hb
      unfold formS
      rw [this]; simp
    · rw [wrap_1 i0 (by omega)]
      refine hn _ _ ⟨by omega, by omega, l4, fun p hp => ?_⟩ (by omega)
      by_cases e : (p : Int) = i
      · rw [e]; simpa using hb
      · exact hi p (by omega)
  · unfold T_gnomon_gnomonref9_Check_j3
    have hf : forksS c es = true := by
      unfold forksS
      refine all_good fun j p hp => ?_
      have : p < c.fPoints.toNat := List.mem_range.1 (List.mem_of_getElem? hp)
      exact hi p (by omega)
    have := h H4 (l2.trans (l3.trans l4))
    have hff : formS c ds es = true := by unfold formS; rw [hsz, hex, hall, hf]; simp; omega
    unfold checkS at this
    rw [q1, q2, hff] at this; exact this
end
end Go.Proofs.Ytgapepdglhcglaa
