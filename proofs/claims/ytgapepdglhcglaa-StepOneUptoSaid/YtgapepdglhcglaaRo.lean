/-
  The arguments of the step chapter's laws, opened.
-/
import Derived.Test.YtgapepdglhcglaaO
import Derived.Test.YtgapepdglhcglaaR9
namespace Go.Proofs.Ytgapepdglhcglaa
open Go.RowKit Go.ChangeShapes
set_option maxRecDepth 100000

section
variable {Hd : Type} {enc : TypeId × Value → Hd} {W : World}
theorem op_int {t : TypeId} (ht : Try.prog.underlying t = some (.int .i64)) (hc : Try.prog.cellsOf t = 1) {n : Nat} {l : List Value} {x : DataW Hd × List MemPlace} (h : DataW.trod enc Try.prog W 0 (fun _ => true) true n t (l.take (Try.prog.cellsOf t)) = some x) : ∃ z : Int, l.take 1 = [.int .i64 z] ∧ in64 z := by
  rw [hc] at h
  obtain ⟨z, hz, a, b⟩ := fld_int ht h
  exact ⟨z, hz, a, b⟩
theorem fldk {t k : Nat} (hc : Try.prog.cellsOf t = k) {n : Nat} {l : List Value} {x : DataW Hd × List MemPlace} (h : DataW.trod enc Try.prog W 0 (fun _ => true) true n t (l.take (Try.prog.cellsOf t)) = some x) : DataW.trod enc Try.prog W 0 (fun _ => true) true n t (l.take k) = some x := by rwa [hc] at h
theorem i3 : Try.prog.underlying 3 = some (.int .i64) := Try.underlying3
theorem i2 : Try.prog.underlying 2 = some (.int .i64) := Try.underlying2
theorem ce3 : Try.prog.cellsOf 3 = 1 := by kernel_rfl
theorem ce2 : Try.prog.cellsOf 2 = 1 := by kernel_rfl
theorem opnd_open {n : Nat} {cs : List Value} {x : DataW Hd × List MemPlace} (h : DataW.trod enc Try.prog W 0 (fun _ => true) true n 50 cs = some x) : ∃ o : Tapi_Operand, cs = [.int .i64 o.fVar, .int .i64 o.fNum] ∧ in64 o.fNum := by
  obtain ⟨hl, m, g⟩ := struct_fld Try.underlying50 h
  rw [show Try.prog.cellsOf 50 = 2 by kernel_rfl] at hl
  obtain ⟨a, b, rfl⟩ := len_two hl
  obtain ⟨_, h0, _⟩ := g 0 _ rfl
  obtain ⟨_, h1, _⟩ := g 1 _ rfl
  obtain ⟨z0, q0, _⟩ := op_int (l := [a, b]) i3 ce3 h0
  obtain ⟨z1, q1, r1⟩ := op_int (l := [b]) i2 ce2 h1
  simp at q0 q1
  subst q0; subst q1
  exact ⟨⟨z0, z1⟩, rfl, r1⟩
theorem edge_open {n : Nat} {cs : List Value} {x : DataW Hd × List MemPlace} (h : DataW.trod enc Try.prog W 0 (fun _ => true) true n 52 cs = some x) : ∃ e : Tapi_Edge, cs = cs_api_Edge e ∧ in64 e.fA.fNum ∧ in64 e.fB.fNum := by
  obtain ⟨hl, m, g⟩ := struct_fld Try.underlying52 h
  rw [show Try.prog.cellsOf 52 = 10 by kernel_rfl] at hl
  match cs, hl with
  | [a0, a1, a2, a3, a4, a5, a6, a7, a8, a9], _ =>
    obtain ⟨_, h0, _⟩ := g 0 _ rfl
    obtain ⟨_, h1, _⟩ := g 1 _ rfl
    obtain ⟨_, h2, _⟩ := g 2 _ rfl
    obtain ⟨_, h3, _⟩ := g 3 _ rfl
    obtain ⟨_, h4, _⟩ := g 4 _ rfl
    obtain ⟨_, h5, _⟩ := g 5 _ rfl
    obtain ⟨_, h6, _⟩ := g 6 _ rfl
    obtain ⟨_, h7, _⟩ := g 7 _ rfl
    obtain ⟨z0, q0, _⟩ := op_int (l := [a0, a1, a2, a3, a4, a5, a6, a7, a8, a9]) i3 ce3 h0
    obtain ⟨z1, q1, _⟩ := op_int (l := [a1, a2, a3, a4, a5, a6, a7, a8, a9]) i3 ce3 h1
    obtain ⟨z2, q2, _⟩ := op_int (l := [a2, a3, a4, a5, a6, a7, a8, a9]) i3 ce3 h2
    obtain ⟨z3, q3, _⟩ := op_int (l := [a3, a4, a5, a6, a7, a8, a9]) i3 ce3 h3
    obtain ⟨z4, q4, _⟩ := op_int (l := [a4, a5, a6, a7, a8, a9]) i3 ce3 h4
    obtain ⟨z5, q5, _⟩ := op_int (l := [a5, a6, a7, a8, a9]) i3 ce3 h5
    have cO : Try.prog.cellsOf 50 = 2 := by kernel_rfl
    obtain ⟨o6, q6, r6⟩ := opnd_open (fldk (t := 50) (l := [a6, a7, a8, a9]) cO h6)
    obtain ⟨o7, q7, r7⟩ := opnd_open (fldk (t := 50) (l := [a8, a9]) cO h7)
    simp at q0 q1 q2 q3 q4 q5 q6 q7
    obtain ⟨rfl, rfl⟩ := q6
    obtain ⟨rfl, rfl⟩ := q7
    subst q0; subst q1; subst q2; subst q3; subst q4; subst q5
    exact ⟨⟨z0, z1, z2, z3, z4, z5, o6, o7⟩, rfl, r6, r7⟩
theorem decl_open {n : Nat} {cs : List Value} {x : DataW Hd × List MemPlace} (h : DataW.trod enc Try.prog W 0 (fun _ => true) true n 60 cs = some x) : ∃ d : Tapi_Decl, cs = cs_api_Decl d := by
  obtain ⟨hl, m, g⟩ := struct_fld Try.underlying60 h
  rw [show Try.prog.cellsOf 60 = 2 by kernel_rfl] at hl
  obtain ⟨a, b, rfl⟩ := len_two hl
  obtain ⟨_, h0, _⟩ := g 0 _ rfl
  obtain ⟨_, h1, _⟩ := g 1 _ rfl
  have cS : Try.prog.cellsOf 9 = 1 := by kernel_rfl
  obtain ⟨s, q0, _⟩ := fld_string Try.underlying9 (fldk (t := 9) (l := [a, b]) cS h0)
  obtain ⟨z1, q1, _⟩ := op_int (l := [b]) i3 ce3 h1
  simp at q0 q1
  subst q0; subst q1
  exact ⟨⟨s, z1⟩, rfl⟩
theorem longs_sl {n : Nat} {cs : List Value} {x : DataW Hd × List MemPlace} (h : DataW.trod enc Try.prog W 0 (fun _ => true) true n 27 cs = some x) (hb : Rows.uptoBulk x.1 ≤ 1048576) :
    ∃ (s : Sl) (xs : List Int), cs = [.slice s.a s.n s.c] ∧ SlH (hpW W) 1 cs_int64 s xs ∧ s.n ≤ s.c ∧ xs.length ≤ 1099511627776 ∧ ∀ x ∈ xs, in64 x := by
  obtain ⟨s, xs, q, hs, hc, hl, hg⟩ := open_sl Try.underlying27 ce2 (by decide) cs_int64 (fun a _ => in64 a) (fun n cs x h => by
    obtain ⟨z, rfl, a, b⟩ := fld_int i2 h
    exact ⟨z, rfl, a, b⟩) h
  exact ⟨s, xs, q, hs, hc, by omega, fun x hx => by obtain ⟨_, h, _⟩ := hg x hx; exact h⟩
theorem longs_open {b : Nat} {v : Value} {d : DataW Hd} {ps : List MemPlace} (hv : Value.okWide Try.prog W .any b 27 v) (h : DataW.Trod enc Try.prog W 0 (fun _ => true) true 27 v d ps) (hb : Rows.uptoBulk d ≤ 1048576) :
    ∃ (s : Sl) (xs : List Int), v = .slice s.a s.n s.c ∧ VH (hpW W) s xs := by
  obtain ⟨n, h⟩ := trod_cells h
  rw [slice_cells Try.underlying27 hv] at h
  obtain ⟨s, xs, q, hs, _, hl, hi⟩ := longs_sl h hb
  simp at q
  exact ⟨s, xs, q, hs, hl, hi⟩
theorem rows_open {b : Nat} {v : Value} {d : DataW Hd} {ps : List MemPlace} (hv : Value.okWide Try.prog W .any b 32 v) (h : DataW.Trod enc Try.prog W 0 (fun _ => true) true 32 v d ps) (hb : Rows.uptoBulk d ≤ 1048576) :
    ∃ (s : Sl) (xss : List (List Int)), v = .slice s.a s.n s.c ∧ AH (hpW W) s xss := by
  obtain ⟨n, h⟩ := trod_cells h
  rw [slice_cells Try.underlying32 hv] at h
  obtain ⟨s, ss, q, hs, hc, hl, hg⟩ := open_sl Try.underlying32 (show Try.prog.cellsOf 27 = 1 by kernel_rfl) (by decide) csl (fun (a : Sl) y => Rows.uptoBulk y ≤ 1048576 → ∃ xs : List Int, SlH (hpW W) 1 cs_int64 a xs ∧ a.n ≤ a.c ∧ xs.length ≤ 1099511627776 ∧ ∀ x ∈ xs, in64 x) (fun n cs x h => by
    rcases Deep.open_slice Try.underlying27 h with ⟨rfl, _⟩ | ⟨a, len, cap, _, _, _, _, rfl, _⟩
    · refine ⟨⟨none, 0, 0⟩, rfl, fun hb => ?_⟩
      obtain ⟨s, xs, q, a1, a2, a3, a4⟩ := longs_sl h hb
      simp only [List.cons.injEq, Value.slice.injEq, and_true] at q
      obtain ⟨q1, q2, q3⟩ := q
      have : s = ⟨none, 0, 0⟩ := by cases s; simp_all
      subst this
      exact ⟨xs, a1, a2, a3, a4⟩
    · refine ⟨⟨some a, len, cap⟩, rfl, fun hb => ?_⟩
      obtain ⟨s, xs, q, a1, a2, a3, a4⟩ := longs_sl h hb
      simp only [List.cons.injEq, Value.slice.injEq, and_true] at q
      obtain ⟨q1, q2, q3⟩ := q
      have : s = ⟨some a, len, cap⟩ := by cases s; simp_all
      subst this
      exact ⟨xs, a1, a2, a3, a4⟩) h
  simp at q
  have all : ∀ l : List Sl, (∀ a ∈ l, a ∈ ss) → ∃ xss : List (List Int), xss.length = l.length ∧ (∀ r ∈ xss, r.length ≤ 1099511627776 ∧ ∀ x ∈ r, in64 x) ∧ ∀ (i : Nat) (si : Sl) (xs : List Int), l[i]? = some si → xss[i]? = some xs → SlH (hpW W) 1 cs_int64 si xs ∧ si.n ≤ si.c := by
    intro l
    induction l with
    | nil => exact fun _ => ⟨[], rfl, fun r hr => (by cases hr), fun i si xs h => (by simp at h)⟩
    | cons a l ih =>
      intro hm
      obtain ⟨xss, e1, e2, e3⟩ := ih fun a ha => hm a (List.mem_cons_of_mem _ ha)
      obtain ⟨y, hy, hyb⟩ := hg a (hm a List.mem_cons_self)
      obtain ⟨xs, f1, f2, f3, f4⟩ := hy (Nat.le_trans hyb hb)
      refine ⟨xs :: xss, by simp [e1], fun r hr => ?_, fun i si zs h1 h2 => ?_⟩
      · rcases List.mem_cons.1 hr with rfl | hr
        · exact ⟨f3, f4⟩
        · exact e2 r hr
      · cases i with
        | zero => simp at h1 h2; subst h1; subst h2; exact ⟨f1, f2⟩
        | succ i => exact e3 i si zs (by simpa using h1) (by simpa using h2)
  obtain ⟨xss, e1, e2, e3⟩ := all ss fun a h => h
  have hb' : ss.length ≤ 1048576 := Nat.le_trans hl hb
  exact ⟨s, xss, q, ⟨by rw [e1]; exact hs.1, ss, hs, e3⟩, by omega, fun r hr => (e2 r hr).1, fun r hr => (e2 r hr).2⟩
theorem cfg_open {b : Nat} {v : Value} {d : DataW Hd} {ps : List MemPlace} (hv : Value.okWide Try.prog W .any b 26 v) (h : DataW.Trod enc Try.prog W 0 (fun _ => true) true 26 v d ps) (hb : Rows.uptoBulk d ≤ 1048576) :
    ∃ (c : Tapi_Cfg) (vs : List ByteArray) (ds : List Tapi_Decl) (es : List Tapi_Edge), v = (Value.agg #[(Value.slice c.fVars.a c.fVars.n c.fVars.c), (Value.int .i64 c.fTemps), (Value.slice c.fArrays.a c.fArrays.n c.fArrays.c), (Value.int .i64 c.fPoints), (Value.int .i64 c.fExit), (Value.slice c.fEdges.a c.fEdges.n c.fEdges.c)]) ∧ GH (hpW W) c vs ds es ∧ Nums es := by
  obtain ⟨n, h⟩ := trod_cells h
  have hagg := struct_cells Try.underlying26 hv
  obtain ⟨hl, m, g⟩ := struct_fld Try.underlying26 h
  rw [show Try.prog.cellsOf 26 = 6 by kernel_rfl] at hl
  generalize hq : v.cells = q at h hl g hagg
  obtain ⟨l⟩ := q
  match l, hl with
  | [a0, a1, a2, a3, a4, a5], _ =>
    obtain ⟨_, h0, b0⟩ := g 0 _ rfl
    obtain ⟨_, h1, _⟩ := g 1 _ rfl
    obtain ⟨_, h2, b2⟩ := g 2 _ rfl
    obtain ⟨_, h3, _⟩ := g 3 _ rfl
    obtain ⟨_, h4, _⟩ := g 4 _ rfl
    obtain ⟨_, h5, b5⟩ := g 5 _ rfl
    obtain ⟨z1, q1, r1⟩ := op_int (l := [a1, a2, a3, a4, a5]) i3 ce3 h1
    obtain ⟨z3, q3, _⟩ := op_int (l := [a3, a4, a5]) i3 ce3 h3
    obtain ⟨z4, q4, _⟩ := op_int (l := [a4, a5]) i3 ce3 h4
    have h0 := fldk (t := 22) (l := [a0, a1, a2, a3, a4, a5]) (show Try.prog.cellsOf 22 = 1 by kernel_rfl) h0
    have h2 := fldk (t := 23) (l := [a2, a3, a4, a5]) (show Try.prog.cellsOf 23 = 1 by kernel_rfl) h2
    have h5 := fldk (t := 24) (l := [a5]) (show Try.prog.cellsOf 24 = 1 by kernel_rfl) h5
    obtain ⟨s0, vs, e0, f0, _, l0, _⟩ := open_sl Try.underlying22 (show Try.prog.cellsOf 9 = 1 by kernel_rfl) (by decide) cs_string (fun _ _ => True) (fun n cs x h => by
      obtain ⟨s, rfl, _⟩ := fld_string Try.underlying9 h
      exact ⟨s, rfl, trivial⟩) h0
    obtain ⟨s2, ds, e2, f2, _, l2, _⟩ := open_sl Try.underlying23 (show Try.prog.cellsOf 60 = 2 by kernel_rfl) (by decide) cs_api_Decl (fun _ _ => True) (fun n cs x h => by
      obtain ⟨s, rfl⟩ := decl_open h
      exact ⟨s, rfl, trivial⟩) h2
    obtain ⟨s5, es, e5, f5, _, l5, g5⟩ := open_sl Try.underlying24 (show Try.prog.cellsOf 52 = 10 by kernel_rfl) (by decide) cs_api_Edge (fun e _ => in64 e.fA.fNum ∧ in64 e.fB.fNum) (fun n cs x h => by
      obtain ⟨s, rfl, hh⟩ := edge_open h
      exact ⟨s, rfl, hh⟩) h5
    simp at q1 q3 q4 e0 e2 e5
    subst q1; subst q3; subst q4; subst e0; subst e2; subst e5
    dsimp only at b0 b2 b5
    exact ⟨⟨s0, z1, s2, z3, z4, s5⟩, vs, ds, es, hagg, ⟨f0, f2, f5, by omega, by omega, by omega, r1⟩, fun e he => by obtain ⟨_, hh, _⟩ := g5 e he; exact hh⟩
end
end Go.Proofs.Ytgapepdglhcglaa
