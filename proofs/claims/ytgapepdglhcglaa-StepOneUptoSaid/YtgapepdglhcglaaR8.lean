/-
  Both runs of a graph, whole. Contracts off the printed formulas.
-/
import Derived.Test.YtgapepdglhcglaaR7
namespace Go.Proofs.Ytgapepdglhcglaa
open Go.RowKit
set_option maxRecDepth 100000
set_option maxHeartbeats 2000000

section
variable {H : Hp} {c : Tapi_Cfg} {vs : List ByteArray} {ds : List Tapi_Decl} {es : List Tapi_Edge} {scr : List Int} {k : Int}
def rowsS (ds : List Tapi_Decl) : List (List Int) := ds.map fun d => List.replicate d.fSize.toNat 0
theorem rowsS_succ {i : Int} {d : Tapi_Decl} (h0 : 0 ≤ i) (h : ds[i.toNat]? = some d) : rowsS (ds.take (i + 1).toNat) = rowsS (ds.take i.toNat) ++ [List.replicate d.fSize.toNat 0] := by
  rw [show (i + 1).toNat = i.toNat + 1 by omega, take_succ' h]
  unfold rowsS
  rw [List.map_append]; rfl
theorem rowsS_len (i : Int) : (rowsS (ds.take i.toNat)).length ≤ ds.length := by
  unfold rowsS
  rw [List.length_map, List.length_take]; omega
theorem many_b {n : Int} (hn : n = (scr.length : Int)) : (((decide (k < 0)) || (decide (65536 < k))) || (decide (65536 < n))) = decide (k < 0 ∨ 65536 < k ∨ 65536 < (scr.length : Int)) := by
  subst hn
  rw [Bool.eq_iff_iff]; simp
  omega
theorem all_size (G : GH H c vs ds es) (F : Fine c vs ds es) : 0 ≤ allS c ∧ allS c * 9 ≤ 140737488355328 := by
  rw [allS_eq G F.t.1 F.t.2.1]
  have := F.t
  omega
theorem size_ok (F : Fine c vs ds es) {d : Tapi_Decl} (hd : d ∈ ds) : 0 ≤ d.fSize ∧ d.fSize * 9 ≤ 140737488355328 := by
  have := F.sz d hd
  omega
theorem step_j1 (G : GH H c vs ds es) (F : Fine c vs ds es) (hn : Nums es) {fr : Sl} (hf : FromH H c.fPoints es fr) {s0 : Sl} (hs : SlH H 1 cs_int64 s0 scr) (hcap : s0.n ≤ s0.c) (hsc : ∀ x ∈ scr, in64 x) (hc : checkS c vs ds es = 0) (hm : ¬ (k < 0 ∨ 65536 < k ∨ 65536 < (scr.length : Int))) {o' : Tapi_Outcome} {K : Tapi_Outcome → Int → Int → Hp → Prop}
    (h : ∀ o p e H', Hle H H' → RunR H' c vs ds es scr k o p e → K o p e H') :
    T_gnomon_step_Run_j1 k c fr 0 (List.replicate (allS c).toNat 0) [] s0 [] o' c H K := by
  unfold T_gnomon_step_Run_j1
  have na := G.a.1
  have bd := F.bd
  refine TL_of (fun (s : Int × Tapi_Cfg × Sl × Int × List (List Int) × Sl × Tapi_Outcome) H' => 0 ≤ s.1 ∧ s.1 ≤ ds.length ∧ Hle H H' ∧ s.2.1 = c ∧ s.2.2.1 = fr ∧ s.2.2.2.1 = 0 ∧ s.2.2.2.2.1 = rowsS (ds.take s.1.toNat) ∧ s.2.2.2.2.2.1 = s0) (fun s => (ds.length - s.1).toNat) ⟨Int.le_refl _, by simp, Hle.refl _, rfl, rfl, rfl, rfl, rfl⟩ ?_
  rintro ⟨i, c', fr', pt, arrs, sc, oo⟩ H1 next ⟨i0, i1, l1, q1, q2, q3, q4, q5⟩ hnx
  dsimp only at i0 i1 q1 q2 q3 q4 q5 ⊢
  subst q1; subst q2; subst q3; subst q4; subst q5
  unfold T_gnomon_step_Run_l5
  refine ⟨fun hlt => ?_, fun hlt => ?_⟩
  · obtain ⟨d, hd, hE⟩ := (G.le l1).a.get i0 hlt
    have hz := size_ok F (List.mem_of_getElem? hd)
    have hl := rowsS_len (ds := ds) i
    refine ⟨i0, hlt, d, hE, hz.1, hz.2, by simp only [List.length_cons, List.length_nil]; omega, ?_⟩
    rw [wrap_1 i0 (by omega)]
    refine hnx _ _ ⟨by show 0 ≤ i + 1; omega, by show i + 1 ≤ _; omega, l1, rfl, rfl, rfl, (rowsS_succ i0 hd).symm, rfl⟩ ?_
    show (ds.length - (i + 1)).toNat < (ds.length - i).toNat
    omega
  · rw [List.take_of_length_le (by omega)]
    exact step_loop (G.le l1) F hn (hf.le l1) (hs.le l1) hcap hsc (by omega) (by omega) fun s1 s2 s3 H' l2 a1 a2 a3 => h _ _ _ H' (l1.trans l2) (.ran hc hm a1 a2 a3)
theorem step_Run_ok (G : GH H c vs ds es) (hn : Nums es) {s0 : Sl} (hs : SlH H 1 cs_int64 s0 scr) (hcap : s0.n ≤ s0.c) (hsc : ∀ x ∈ scr, in64 x) {K : Tapi_Outcome → Int → Int → Hp → Prop}
    (h : ∀ o p e H', Hle H H' → RunR H' c vs ds es scr k o p e → K o p e H') : C_gnomon_step_Run c s0 k H K := by
  refine L_gnomon_step_Run _ _ _ ?_
  unfold T_gnomon_step_Run
  refine cfg_Check_ok G fun H1 l1 => ⟨fun hc => h _ _ _ H1 l1 (.bad hc), fun hc => ?_⟩
  rw [many_b (scr := scr) (by have := hs.1; omega)]
  refine ⟨fun hm => h _ _ _ H1 l1 (.many hc (of_decide_eq_true hm)), fun hm => ?_⟩
  have hm' := of_decide_eq_false hm
  have F := Fine.of hc
  have hp := F.p
  have hz := all_size G F
  have go : ∀ {fr : Sl} {H2 : Hp}, Hle H1 H2 → FromH H2 c.fPoints es fr → T_gnomon_step_Run_j1 k c fr 0 (List.replicate (allS c).toNat 0) [] s0 [] ⟨0, 0, 0, ⟨none, 0, 0⟩, ⟨none, 0, 0⟩, ⟨none, 0, 0⟩⟩ c H2 K :=
    fun l2 hf => step_j1 (G.le (l1.trans l2)) F hn hf (hs.le (l1.trans l2)) hcap hsc hc hm' fun o p e H' l3 hr => h o p e H' (l1.trans (l2.trans l3)) hr
  exact ⟨outs_ok (G.le l1) ⟨by omega, by omega⟩ F.be F.all fun s H2 l2 hf => ⟨hz.1, hz.2, go l2 hf⟩, hz.1, hz.2, outs_ok (G.le l1) ⟨by omega, by omega⟩ F.be F.all fun s H2 l2 hf => go l2 hf⟩
end
end Go.Proofs.Ytgapepdglhcglaa
