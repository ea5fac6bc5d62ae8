/-
  The runs of a graph: a plain run, and what a state keeps. No program in sight but for the types.
-/
import Derived.Test.YtgapepdglhcglaaR5
namespace Go.Proofs.Ytgapepdglhcglaa
open Go.RowKit
set_option maxRecDepth 100000
set_option maxHeartbeats 2000000

structure RS where
  pt : Int
  vars : List Int
  arrs : List (List Int)
  inp : Nat
  evs : List Tapi_Event
  steps : Int
def edgeAt (es : List Tapi_Edge) (i : Int) : Option Tapi_Edge := if i < 0 then none else es[i.toNat]?
def inpS (e : Tapi_Edge) (scr : List Int) (n : Nat) : Int := if e.fKind = 9 then scr.getD n 0 else 0
def nextS (e : Tapi_Edge) (scr : List Int) (s : RS) : RS :=
  ⟨s.pt, (doesS e (inpS e scr s.inp) s.vars s.arrs).2.1, (doesS e (inpS e scr s.inp) s.vars s.arrs).2.2, if e.fKind = 9 then s.inp + 1 else s.inp, evS e (inpS e scr s.inp) s.evs, s.steps + 1⟩
def toS (s : RS) (p : Int) : RS := ⟨p, s.vars, s.arrs, s.inp, s.evs, s.steps⟩
def wrongS (e : Tapi_Edge) (scr : List Int) (s : RS) : Int := (doesS e (inpS e scr s.inp) s.vars s.arrs).1
/-- a run: its end (1: it goes on, 2: halted, 3: wrong), what went wrong, where it stands -/
def runS (es : List Tapi_Edge) (scr : List Int) (k : Int) : Nat → RS → Int × Int × RS
  | 0, s => (1, 0, s)
  | f + 1, s => match edgeAt es (takeS es s.vars (idxS s.pt 0 es)) with
    | none => (2, 0, s)
    | some e => if e.fKind = 9 ∧ scr.length ≤ s.inp then (2, 0, s) else if s.steps = k then (1, 0, s)
      else if wrongS e scr s = 0 then runS es scr k f (toS (nextS e scr s) e.fTo) else (3, wrongS e scr s, nextS e scr s)
section
variable {es : List Tapi_Edge} {scr : List Int} {k : Int} {f : Nat} {s : RS} {e : Tapi_Edge} {R : Int × Int × RS}
theorem runS_none (h : edgeAt es (takeS es s.vars (idxS s.pt 0 es)) = none) : runS es scr k (f + 1) s = (2, 0, s) := by
  rw [runS, h]
theorem runS_some (h : edgeAt es (takeS es s.vars (idxS s.pt 0 es)) = some e) : runS es scr k (f + 1) s = if e.fKind = 9 ∧ scr.length ≤ s.inp then (2, 0, s) else if s.steps = k then (1, 0, s)
      else if wrongS e scr s = 0 then runS es scr k f (toS (nextS e scr s) e.fTo) else (3, wrongS e scr s, nextS e scr s) := by
  rw [runS, h]
end
theorem takeS_get {es : List Tapi_Edge} {vars : List Int} : ∀ {l : List Int}, (∀ i ∈ l, 0 ≤ i) → 0 ≤ takeS es vars l → ∃ e, es[(takeS es vars l).toNat]? = some e
  | [], _, h => by simp [takeS] at h
  | i :: l, hl, h => by
    unfold takeS at h ⊢
    cases he : es[i.toNat]? with
    | none => rw [he] at h; exact takeS_get (fun j hj => hl j (List.mem_cons_of_mem _ hj)) h
    | some e =>
      rw [he] at h
      dsimp only at h ⊢
      cases hg : goS vars e
      · rw [hg] at h; exact takeS_get (fun j hj => hl j (List.mem_cons_of_mem _ hj)) h
      · exact ⟨e, he⟩
theorem idxS_pos {p : Int} {es : List Tapi_Edge} : ∀ i ∈ idxS p 0 es, 0 ≤ i := by
  intro i hi
  obtain ⟨j, hj, rfl⟩ := List.mem_iff_getElem.1 hi
  exact (idxS_get p 0 es j _ (List.getElem?_eq_getElem hj)).1
theorem take_edge {es : List Tapi_Edge} {vars : List Int} {p : Int} (h : ¬ takeS es vars (idxS p 0 es) < 0) : ∃ e, es[(takeS es vars (idxS p 0 es)).toNat]? = some e ∧ edgeAt es (takeS es vars (idxS p 0 es)) = some e := by
  obtain ⟨e, he⟩ := takeS_get (es := es) (vars := vars) (idxS_pos (p := p) (es := es)) (by omega)
  exact ⟨e, he, by unfold edgeAt; rw [if_neg h]; exact he⟩
theorem edgeAt_none {es : List Tapi_Edge} {i : Int} (h : i < 0) : edgeAt es i = none := if_pos h

theorem natAbs64 {x : Int} (h : x.natAbs ≤ 9223372036854775807) : in64 x := by unfold in64; omega
theorem opS_in {k a b : Int} (ha : in64 a) (hb : in64 b) : in64 (opS k a b).1 := by
  have hf : ∀ x, in64 (fit x).1 := fun x => by
    unfold fit
    split
    · assumption
    · decide
  unfold opS
  repeat' split
  · exact hf _
  · exact hf _
  · exact hf _
  · exact hf _
  · unfold divS
    split
    · decide
    · exact hf _
  · unfold remS
    repeat' split
    · decide
    · decide
    · rename_i hb0 _
      refine natAbs64 ?_
      rw [Int.natAbs_tmod]
      have : a.natAbs % b.natAbs < b.natAbs := Nat.mod_lt _ (by omega)
      unfold in64 at hb
      omega
theorem in64_getD {l : List Int} (h : ∀ x ∈ l, in64 x) (i : Nat) : in64 (l.getD i 0) := by
  rw [List.getD_eq_getElem?_getD]
  by_cases hi : i < l.length
  · rw [List.getElem?_eq_getElem hi]; exact h _ (List.getElem_mem hi)
  · rw [List.getElem?_eq_none (by omega)]; decide
theorem in64_set {l : List Int} (h : ∀ x ∈ l, in64 x) {i : Nat} {y : Int} (hy : in64 y) : ∀ x ∈ l.set i y, in64 x := by
  intro x hx
  rcases List.mem_or_eq_of_mem_set hx with hx | rfl
  · exact h x hx
  · exact hy
/-- numbers -/
structure In64 (vars : List Int) (arrs : List (List Int)) : Prop where
  v : ∀ x ∈ vars, in64 x
  a : ∀ r ∈ arrs, ∀ x ∈ r, in64 x
theorem In64.row {vars : List Int} {arrs : List (List Int)} (I : In64 vars arrs) (e : Tapi_Edge) : ∀ x ∈ rowS arrs e, in64 x := by
  unfold rowS
  rw [List.getD_eq_getElem?_getD]
  by_cases hi : e.fArr.toNat < arrs.length
  · rw [List.getElem?_eq_getElem hi]; exact I.a _ (List.getElem_mem hi)
  · rw [List.getElem?_eq_none (by omega)]; intro x hx; cases hx
theorem doesS_len (e : Tapi_Edge) (i : Int) (vars : List Int) (arrs : List (List Int)) : (doesS e i vars arrs).2.1.length = vars.length ∧ (doesS e i vars arrs).2.2.length = arrs.length := by
  unfold doesS
  repeat' split
  all_goals simp
theorem doesS_in {e : Tapi_Edge} {i : Int} {vars : List Int} {arrs : List (List Int)} (I : In64 vars arrs) (hi : in64 i) (ha : in64 (valS vars e.fA)) (hb : in64 (valS vars e.fB)) : In64 (doesS e i vars arrs).2.1 (doesS e i vars arrs).2.2 := by
  have hset : ∀ {j : Nat} {y : Int}, in64 y → In64 (vars.set j y) arrs := fun hy => ⟨in64_set I.v hy, I.a⟩
  unfold doesS
  repeat' split
  · exact hset ha
  · exact hset hi
  · exact hset (opS_in ha hb)
  · exact I
  · exact hset (in64_getD (I.row e) _)
  · exact I
  · refine ⟨I.v, fun r hr => ?_⟩
    rcases List.mem_or_eq_of_mem_set hr with hr | rfl
    · exact I.a r hr
    · exact in64_set (I.row e) hb
  · exact I
  · exact I
  · exact I
theorem evS_len (e : Tapi_Edge) (i : Int) (evs : List Tapi_Event) : (evS e i evs).length ≤ evs.length + 1 := by
  unfold evS
  repeat' split
  all_goals simp
/-- what a run's state keeps -/
structure StOk (c : Tapi_Cfg) (ds : List Tapi_Decl) (scr : List Int) (k : Int) (s : RS) : Prop where
  p0 : 0 ≤ s.pt
  p1 : s.pt < c.fPoints
  nv : (s.vars.length : Int) = allS c
  na : s.arrs.length = ds.length
  i : In64 s.vars s.arrs
  s0 : 0 ≤ s.steps
  s1 : s.steps ≤ k
  ne : (s.evs.length : Int) ≤ s.steps
  ni : s.inp ≤ scr.length
/-- the numbers in edges and declarations -/
def Nums (es : List Tapi_Edge) : Prop := ∀ e ∈ es, in64 e.fA.fNum ∧ in64 e.fB.fNum
section
variable {H : Hp} {c : Tapi_Cfg} {vs : List ByteArray} {ds : List Tapi_Decl} {es : List Tapi_Edge} {scr : List Int} {k : Int} {s : RS} {e : Tapi_Edge}
theorem StOk.edge (S : StOk c ds scr k s) (G : GH H c vs ds es) (hn : Nums es) (he : e ∈ es) (ha : es.all (edgeS c) = true) : EdgeOk e s.vars s.arrs :=
  edge_ok (List.all_eq_true.1 ha e he) S.nv (by rw [S.na]; have := G.a.1; omega) S.i.v (hn e he).1 (hn e he).2
theorem StOk.ops (S : StOk c ds scr k s) (G : GH H c vs ds es) (hn : Nums es) (ha : es.all (edgeS c) = true) : OpsOk es s.vars := fun e he =>
  ⟨(S.edge G hn he ha).a, (S.edge G hn he ha).b⟩
theorem inpS_in (hs : ∀ x ∈ scr, in64 x) (e : Tapi_Edge) (n : Nat) : in64 (inpS e scr n) := by
  unfold inpS
  split
  · exact in64_getD hs n
  · decide
theorem StOk.next (S : StOk c ds scr k s) (G : GH H c vs ds es) (hn : Nums es) (hs : ∀ x ∈ scr, in64 x) (he : e ∈ es) (ha : es.all (edgeS c) = true) (hk : ¬ s.steps = k) (hi : ¬ (e.fKind = 9 ∧ scr.length ≤ s.inp)) : StOk c ds scr k (toS (nextS e scr s) e.fTo) := by
  have E := S.edge G hn he ha
  have hl := doesS_len e (inpS e scr s.inp) s.vars s.arrs
  have hev := evS_len e (inpS e scr s.inp) s.evs
  have hq := List.all_eq_true.1 ha e he
  have s0 := S.s0; have s1 := S.s1; have ne := S.ne; have ni := S.ni
  have hto : 0 ≤ e.fTo ∧ e.fTo < c.fPoints := by unfold edgeS within at hq; simp at hq; omega
  refine ⟨hto.1, hto.2, ?_, ?_, doesS_in S.i (inpS_in hs e s.inp) E.va E.vb, ?_, ?_, ?_, ?_⟩
  · show ((doesS e (inpS e scr s.inp) s.vars s.arrs).2.1.length : Int) = _
    rw [hl.1]; exact S.nv
  · show (doesS e (inpS e scr s.inp) s.vars s.arrs).2.2.length = _
    rw [hl.2]; exact S.na
  · show 0 ≤ s.steps + 1
    omega
  · show s.steps + 1 ≤ k
    omega
  · show ((evS e (inpS e scr s.inp) s.evs).length : Int) ≤ s.steps + 1
    omega
  · show (if e.fKind = 9 then s.inp + 1 else s.inp) ≤ scr.length
    split <;> omega
/-- what a checked graph is -/
structure Fine (c : Tapi_Cfg) (vs : List ByteArray) (ds : List Tapi_Decl) (es : List Tapi_Edge) : Prop where
  t : 0 ≤ c.fTemps ∧ c.fTemps ≤ 64 ∧ (vs.length : Int) + c.fTemps ≤ 64
  p : 1 ≤ c.fPoints ∧ c.fPoints ≤ 4096
  be : (es.length : Int) ≤ 8192
  bd : (ds.length : Int) ≤ 16
  sz : ∀ d ∈ ds, 1 ≤ d.fSize ∧ d.fSize ≤ 1024
  all : es.all (edgeS c) = true
  forks : ∀ p : Int, 0 ≤ p → p < c.fPoints → goesS (fromS es p) = true
theorem Fine.of (h : checkS c vs ds es = 0) : Fine c vs ds es := by
  unfold checkS at h
  cases hv : varsS c vs
  · rw [hv] at h; cases h
  cases hp : pointsS c es
  · rw [hv, hp] at h; cases h
  cases hf : formS c ds es
  · rw [hv, hp, hf] at h; cases h
  unfold varsS at hv
  unfold pointsS at hp
  unfold formS at hf
  simp only [Bool.and_eq_true, decide_eq_true_eq] at hv hp hf
  obtain ⟨⟨⟨⟨f1, f2⟩, f3⟩, f4⟩, f5⟩ := hf
  refine ⟨by omega, by omega, by omega, f1, fun d hd => ?_, f4, fun p h0 h1 => ?_⟩
  · have := List.all_eq_true.1 f2 d hd
    simpa using this
  · unfold forksS at f5
    have := List.all_eq_true.1 f5 p.toNat (List.mem_range.2 (by omega))
    rwa [Int.toNat_of_nonneg h0] at this
theorem Fine.kind (F : Fine c vs ds es) (he : e ∈ es) : kindS e.fKind = true := by
  have := List.all_eq_true.1 F.all e he
  unfold edgeS at this
  simp at this
  exact this.1.2
theorem Fine.op (F : Fine c vs ds es) : ∀ e ∈ es, e.fKind = 12 → 1 ≤ e.fOp ∧ e.fOp ≤ 6 := by
  intro e he hk
  have := List.all_eq_true.1 F.all e he
  unfold edgeS rightS at this
  simp only [Bool.and_eq_true] at this
  have hw : (wantsS e.fKind).fop = true := by rw [hk]; rfl
  have h := this.2.1.1.2
  rw [hw] at h
  simpa using h
end
/-- where a run begins -/
def startS (c : Tapi_Cfg) (ds : List Tapi_Decl) : RS := ⟨0, List.replicate (allS c).toNat 0, ds.map fun d => List.replicate d.fSize.toNat 0, 0, [], 0⟩
theorem start_ok {H : Hp} {c : Tapi_Cfg} {vs : List ByteArray} {ds : List Tapi_Decl} {es : List Tapi_Edge} {scr : List Int} {k : Int} (G : GH H c vs ds es) (F : Fine c vs ds es) (hk : 0 ≤ k) : StOk c ds scr k (startS c ds) := by
  have ha := allS_eq G F.t.1 F.t.2.1
  have hp := F.p
  have ht := F.t.1
  refine ⟨Int.le_refl _, by show (0 : Int) < _; omega, ?_, by simp [startS], ⟨fun x hx => ?_, fun r hr x hx => ?_⟩, Int.le_refl _, hk, by simp [startS], Nat.zero_le _⟩
  · simp only [startS, List.length_replicate]; omega
  · rw [List.eq_of_mem_replicate hx]; decide
  · obtain ⟨d, _, rfl⟩ := List.mem_map.1 hr
    rw [List.eq_of_mem_replicate hx]; decide
/-- a run from the start, with its fuel -/
def wholeS (c : Tapi_Cfg) (ds : List Tapi_Decl) (es : List Tapi_Edge) (scr : List Int) (k : Int) : Int × Int × RS := runS es scr k (k.toNat + 1) (startS c ds)
/-- what a run answers -/
inductive RunR (H : Hp) (c : Tapi_Cfg) (vs : List ByteArray) (ds : List Tapi_Decl) (es : List Tapi_Edge) (scr : List Int) (k : Int) : Tapi_Outcome → Int → Int → Prop
  | bad : checkS c vs ds es ≠ 0 → RunR H c vs ds es scr k ⟨0, 0, 0, ⟨none, 0, 0⟩, ⟨none, 0, 0⟩, ⟨none, 0, 0⟩⟩ 0 (checkS c vs ds es)
  | many : checkS c vs ds es = 0 → (k < 0 ∨ 65536 < k ∨ 65536 < (scr.length : Int)) → RunR H c vs ds es scr k ⟨0, 0, 0, ⟨none, 0, 0⟩, ⟨none, 0, 0⟩, ⟨none, 0, 0⟩⟩ 0 80
  | ran {s1 s2 s3 : Sl} : checkS c vs ds es = 0 → ¬ (k < 0 ∨ 65536 < k ∨ 65536 < (scr.length : Int)) →
      SlH H 3 cs_api_Event s1 (wholeS c ds es scr k).2.2.evs → SlH H 1 cs_int64 s2 ((wholeS c ds es scr k).2.2.vars.take vs.length) → SlHH H 1 cs_int64 s3 (wholeS c ds es scr k).2.2.arrs →
      RunR H c vs ds es scr k ⟨(wholeS c ds es scr k).1, (wholeS c ds es scr k).2.1, (wholeS c ds es scr k).2.2.steps, s1, s2, s3⟩ (wholeS c ds es scr k).2.2.pt 0
end Go.Proofs.Ytgapepdglhcglaa
