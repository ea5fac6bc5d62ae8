/- Folding: the document's expressions, both's conditions; the law RewriteParts. Contracts off the printed formulas. -/
import Derived.Test.YtnhkdkcgdcgmdaaGreatDoorzRQg
namespace Go.Proofs.YtnhkdkcgdcgmdaaGreatDoor
open Go.RowKit
set_option maxRecDepth 100000
set_option maxHeartbeats 2000000
section
variable {H : Hp}
theorem e2Y (t : PT) : (cstP t).2 = true ↔ cst t ≠ none := by
  unfold cstP; cases cst t <;> simp
theorem e2Z (t : PT) : (cstP t).1 = argV (cst t) := by unfold cstP argV; cases cst t <;> rfl
end
end Go.Proofs.YtnhkdkcgdcgmdaaGreatDoor
namespace Go.Proofs.YtnhkdkcgdcgmdaaGreatDoor
open Go.RowKit
set_option maxRecDepth 100000
set_option maxHeartbeats 2000000
def FoldsC (t : PT) : Prop := ∀ (H : Hp) (e : b9) (K : b9 → Hp → Prop), CH H e t → (∀ y H', Hle H H' → CH H' y (foldT t) → K y H') → a3J e H K
theorem a8p (k op : Int) (xs ps : List PT) : foldT (.mk (.cond k op xs.length ps.length) (xs ++ ps)) = foldC k op (xs.map foldT) (ps.map foldT) := by
  rw [foldT, foldL, a3w, List.map_append]
  have : (xs.map foldT).length = xs.length := List.length_map ..
  rw [← this, List.take_left, List.drop_left]
section
variable {H : Hp}
theorem CH.kind {e : b9} {t : PT} (h : CH H e t) : e.a8 = kindC t := by cases h; rfl
theorem CH.leaf (H : Hp) (k op : Int) : CH H ⟨k, op, ⟨none, 0, 0⟩, ⟨none, 0, 0⟩⟩ (cN k op [] []) := CH.mk (c := ⟨k, op, ⟨none, 0, 0⟩, ⟨none, 0, 0⟩⟩) (ts := []) (us := []) (SlH.nil _ _ _) (Nat.zero_le _) y8.nil (SlH.nil _ _ _) (Nat.zero_le _) rfl fun i x t hx => by simp at hx
theorem CH.node {k op : Int} {s s' : Sl} {xs : List b6} {ts : List PT} {ys : List b9} {us : List PT} (hs : SlH H 4 b8 s xs) (hb : xs.length ≤ big) (hr : y8 (EH H) xs ts) (hs' : SlH H 4 d6 s' ys) (hb' : ys.length ≤ big) (hr' : y8 (CH H) ys us) : CH H ⟨k, op, s, s'⟩ (cN k op ts us) := CH.mk (c := ⟨k, op, s, s'⟩) hs hb hr hs' hb' hr'.1 hr'.2
theorem c8b {s : Sl} {xs : List b9} {ts : List PT} (hs : SlH H 4 d6 s xs) (hb : xs.length ≤ big) (hr : y8 (CH H) xs ts) (ih : ∀ t ∈ ts, FoldsC t) {K : Sl → Hp → Prop}
    (h : ∀ s' ys H', Hle H H' → SlH H' 4 d6 s' ys → ys.length ≤ big → y8 (CH H') ys (ts.map foldT) → K s' H') : D4 s H K := by
  refine a1A _ ?_
  unfold D6
  have n1 := hs.1
  have hb' := hb
  simp only [big] at hb'
  refine a2q (fun (z : List b9 × Int) H' => 0 ≤ z.2 ∧ z.2 ≤ xs.length ∧ Hle H H' ∧ y8 (CH H') z.1 ((ts.take z.2.toNat).map foldT)) (fun z => (xs.length - z.2).toNat) ⟨Int.le_refl _, by dsimp only; omega, Hle.refl _, y8.nil⟩ ?_
  rintro ⟨cs, i⟩ H1 next ⟨i0, i1, l1, hcs⟩ hn
  dsimp only at i0 i1 l1 hcs ⊢
  unfold C1
  have hlen := hr.1
  have hcl : cs.length ≤ xs.length := by rw [hcs.1, List.length_map, List.length_take]; omega
  refine ⟨fun q => ?_, fun q => ?_⟩
  · obtain ⟨x, hx, hE⟩ := (hs.le l1).get i0 (by omega)
    obtain ⟨t, ht, hxt⟩ := hr.get hx
    refine ⟨i0, by omega, x, hE, ih t (List.mem_of_getElem? ht) H1 x _ (hxt.le l1) fun y H2 l2 hy => ⟨by simp only [List.length_cons, List.length_nil]; omega, ?_⟩⟩
    rw [Q1 i0 (by omega)]
    refine hn _ _ ⟨by dsimp only; omega, by dsimp only; omega, l1.trans l2, ?_⟩ (by dsimp only; omega)
    dsimp only
    rw [show (i + 1).toNat = i.toNat + 1 by omega, O9 ht, List.map_append]
    exact (hcs.mono fun _ _ => CH.le l2).app (y8.one hy)
  · unfold C0
    intro s2 H2 l2 hS2 _
    rw [List.take_of_length_le (by omega)] at hcs
    exact h s2 cs H2 (l1.trans l2) hS2 (by omega) (hcs.mono fun _ _ => CH.le l2)
theorem f4J {b : Bool} {K : b9 → Hp → Prop} (h : ∀ y, CH H y (truT b) → K y H) : a0G b H K := by
  unfold a0G
  refine ⟨fun q => h _ ?_, fun q => h _ ?_⟩
  · rw [q]; exact CH.leaf H 1 0
  · rw [q]; exact CH.leaf H 2 0
theorem d3k {b : Bool} {K : b9 → Hp → Prop} (h : ∀ y, CH H y (truT b) → K y H) : a3q b H K := b5Z _ (f4J h)
theorem SlH.at_ {α : Type} {sz : Nat} {c : α → List Value} {s : Sl} {xs : List α} (hs : SlH H sz c s xs) {i : Nat} {x : α} (hx : xs[i]? = some x) : EltH H s i sz (c x) ∧ (i : Int) < s.n := ⟨hs.2 i x hx, by have := M1 hx; have := hs.1; omega⟩
theorem i0Y {α : Type} {R : α → PT → Prop} {xs : List α} {a : PT} (h : y8 R xs [a]) : ∃ x, xs = [x] ∧ R x a := by
  obtain ⟨x, rfl⟩ := d9S h.1
  exact ⟨x, rfl, h.2 0 x a rfl rfl⟩
theorem e7p {α : Type} {R : α → PT → Prop} {xs : List α} {a b : PT} (h : y8 R xs [a, b]) : ∃ x y, xs = [x, y] ∧ R x a ∧ R y b := by
  obtain ⟨x, y, rfl⟩ := c1I h.1
  exact ⟨x, y, rfl, h.2 0 x a rfl rfl, h.2 1 y b rfl rfl⟩
theorem c8c {e : b9} {l d : Int} {self a b : PT} {x y : b9} (hs : SlH H 4 d6 e.t7 [x, y]) (ha : CH H x a) (hb : CH H y b) (he : CH H e self) {K : b9 → Hp → Prop} (h : ∀ y, CH H y (joinT l d self [a, b]) → K y H) : a2s e l d H K := by
  refine b4P _ _ _ ?_
  unfold a2E
  obtain ⟨h0, n0⟩ := hs.at_ (i := 0) rfl
  obtain ⟨h1, n1⟩ := hs.at_ (i := 1) rfl
  refine ⟨by decide, n0, x, h0, by decide, n1, y, h1, ?_⟩
  unfold a0M W9
  have hj : joinT l d self [a, b] = if kindC a = l then b else if kindC a = d then a else if kindC b = l then a else self := rfl
  rw [hj] at h
  rw [ha.kind, hb.kind]
  refine ⟨fun q => ?_, fun q => ⟨fun q2 => ⟨fun _ => ?_, fun q3 => ?_⟩, fun q2 => ⟨fun q3 => ?_, fun q3 => ?_⟩⟩⟩
  · rw [if_pos q] at h; exact h y hb
  · rw [if_neg q, if_pos q2] at h; exact h x ha
  · exact (of_decide_eq_false q3 q2).elim
  · rw [if_neg q, if_neg q2, if_pos (of_decide_eq_true q3)] at h; exact h x ha
  · rw [if_neg q, if_neg q2, if_neg (of_decide_eq_false q3)] at h; exact h e he
theorem e3a {op : Int} {self a b : PT} (h1 : cst a ≠ none) (h2 : cst b ≠ none) : cmpT op self [a, b] = truT (cmpS op (argV (cst a)) (argV (cst b))) := by
  unfold cmpT argV
  cases ha : cst a with
  | none => exact (h1 ha).elim
  | some x => cases hb : cst b with
    | none => exact (h2 hb).elim
    | some y => dsimp only; rw [ha, hb]; rfl
theorem e3b {op : Int} {self a b : PT} (h : cst a = none ∨ cst b = none) : cmpT op self [a, b] = self := by
  unfold cmpT
  rcases h with h | h
  · dsimp only; rw [h]
  · dsimp only; rw [h]; cases cst a <;> rfl
theorem f4K {a b : PT} (q : ((cstP a).2 && (cstP b).2) = false) : cst a = none ∨ cst b = none := by
  cases ha : cst a with
  | none => exact .inl rfl
  | some x =>
    cases hb : cst b with
    | none => exact .inr rfl
    | some y => rw [a6v ha, a6v hb] at q; cases q
theorem c8d {t : PT} (ha : ArC t) : FoldsC t := by
  induction ha with
  | @mk k0 op0 es ps har hae hac ih =>
    intro H e K he h
    refine b6R _ ?_
    unfold a3O
    rw [a8p] at h
    generalize htt : PT.mk (.cond k0 op0 es.length ps.length) (es ++ ps) = tt at he
    cases he with
    | @mk _ xs ts ys us hs hb hr hc hcb hcl hcr =>
      injection htt with hl hk
      injection hl with q1 q2 q3 q4
      subst q1; subst q2
      obtain ⟨rfl, rfl⟩ := List.append_inj hk q3
      refine c0C hs hb hr (fun t ht => c7n (hae t ht)) fun r1 xs1 H1 l1 hS1 hb1 hr1 => ?_
      refine c8b (hc.le l1) hcb ⟨hcl, fun i x t a b => CH.le l1 (hcr i x t a b)⟩ ih fun r2 ys2 H2 l2 hS2 hb2 hr2 => ?_
      have l12 := l1.trans l2
      have hS1' := hS1.le l2
      have hr1' := hr1.mono fun _ _ => EH.le l2
      have hae' : ∀ t ∈ es.map foldT, Ar t := fun t ht => by obtain ⟨u, hu, rfl⟩ := List.mem_map.1 ht; exact a6r (hae u hu)
      have n1 : (es.map foldT).length = es.length := List.length_map ..
      have n2 : (ps.map foldT).length = ps.length := List.length_map ..
      generalize es.map foldT = es' at *
      generalize ps.map foldT = ps' at *
      have self : CH H2 ⟨e.a8, e.fOp, r1, r2⟩ (cN e.a8 e.fOp es' ps') := CH.node hS1' hb1 hr1' hS2 hb2 hr2
      obtain ⟨a3, a4, a5, a6⟩ := har
      unfold foldC at h
      unfold U5
      refine ⟨fun c3 => ?_, fun c3 => ⟨fun c4 => ?_, fun c4 => ⟨fun c5 => ?_, fun c5 => ⟨fun c6 => ?_, fun c6 => ?_⟩⟩⟩⟩
      · rw [if_pos c3] at h
        obtain ⟨a, b, rfl⟩ := c1I (n1.trans (a3 c3))
        obtain ⟨x, y, rfl, hxa, hyb⟩ := e7p hr1'
        obtain ⟨h0, m0⟩ := hS1'.at_ (i := 0) rfl
        obtain ⟨h1, m1⟩ := hS1'.at_ (i := 1) rfl
        refine ⟨by decide, m0, x, h0, b4o hxa (hae' a (by simp)) ⟨by decide, m1, y, h1, b4o hyb (hae' b (by simp)) ⟨fun q => ?_, fun q => ?_⟩⟩⟩
        · rw [Bool.and_eq_true] at q
          rw [e3a ((e2Y a).1 q.1) ((e2Y b).1 q.2)] at h
          rw [e2Z, e2Z]
          exact c5c (d3k fun y hy => h y H2 l12 hy)
        · rw [e3b (f4K q)] at h
          exact h _ H2 l12 self
      · rw [if_neg c3, if_pos c4] at h
        obtain ⟨a, rfl⟩ := d9S (n2.trans (a4 c4))
        obtain ⟨x, rfl, hxa⟩ := i0Y hr2
        obtain ⟨h0, m0⟩ := hS2.at_ (i := 0) rfl
        have hj : ∀ s, notT s [a] = if kindC a = 1 ∨ kindC a = 2 then truT (decide (kindC a = 2)) else s := fun s => rfl
        rw [hj] at h
        rw [← hxa.kind] at h
        refine ⟨by decide, m0, x, h0, fun q => ?_, fun q => ?_⟩
        · rw [if_pos (by simpa using q)] at h
          exact d3k fun y hy => h y H2 l12 hy
        · rw [if_neg (by simpa using q)] at h
          exact h _ H2 l12 self
      · rw [if_neg c3, if_neg c4, if_pos c5] at h
        obtain ⟨a, b, rfl⟩ := c1I (n2.trans (a5 c5))
        obtain ⟨x, y, rfl, hxa, hyb⟩ := e7p hr2
        exact c8c hS2 hxa hyb self fun y hy => h y H2 l12 hy
      · rw [if_neg c3, if_neg c4, if_neg c5, if_pos c6] at h
        obtain ⟨a, b, rfl⟩ := c1I (n2.trans (a6 c6))
        obtain ⟨x, y, rfl, hxa, hyb⟩ := e7p hr2
        exact c8c hS2 hxa hyb self fun y hy => h y H2 l12 hy
      · rw [if_neg c3, if_neg c4, if_neg c5, if_neg c6] at h
        exact h _ H2 l12 self
end
theorem A8 : ∀ {ts : List PT} (_ : formTs ts = true) {t : PT} (_ : t ∈ ts), formT t = true
  | t :: ts, h, u, hu => by
    rw [formTs, Bool.and_eq_true] at h
    rcases List.mem_cons.1 hu with e | hu
    · rw [e]; exact h.1
    · exact A8 h.2 hu
theorem e7q {k n : Int} {s : ByteArray} {a : Nat} (h : formE k n s a = true) : arE k a := by
  unfold formE at h
  split at h
  · cases h
  · split at h
    · simp only [Bool.and_eq_true, decide_eq_true_eq] at h; unfold arE; omega
    · split at h
      · simp only [decide_eq_true_eq] at h; unfold arE; omega
      · split at h
        · simp only [decide_eq_true_eq] at h; unfold arE; omega
        · split at h
          · simp only [decide_eq_true_eq] at h; unfold arE; omega
          · cases h
theorem e7r {k op : Int} {e p : Nat} (h : formC k op e p = true) : arC k e p := by
  unfold formC at h
  split at h
  · simp only [Bool.and_eq_true, decide_eq_true_eq] at h; unfold arC; omega
  · split at h
    · split at h
      · simp only [decide_eq_true_eq] at h; unfold arC; omega
      · split at h
        · simp only [decide_eq_true_eq] at h; unfold arC; omega
        · split at h
          · simp only [decide_eq_true_eq] at h; unfold arC; omega
          · cases h
    · cases h
section
variable {H : Hp}
theorem Sm.num {l : Lab} {cs : List PT} (h : Sm (.mk l cs)) : o8 (numL l) ∧ ∀ t ∈ cs, Sm t := by
  cases h with
  | mk h1 h2 => exact ⟨h1.2, h2⟩
theorem d9T {e : b6} {t : PT} (he : EH H e t) (hf : formT t = true) (hs : Sm t) : Ar t := by
  induction he with
  | @mk e xs ts hsl hb hl hr ih =>
    rw [formT, Bool.and_eq_true] at hf
    refine .mk ⟨e7q hf.1, rfl⟩ hs.num.1 fun t ht => ?_
    obtain ⟨i, hi⟩ := List.getElem?_of_mem ht
    obtain ⟨x, hx⟩ := B2 (l := xs) (i := i) (by have := M1 hi; omega)
    exact ih i x t hx hi (A8 hf.2 ht) (hs.num.2 t ht)
theorem e3c {e : b9} {t : PT} (he : CH H e t) (hf : formT t = true) (hs : Sm t) : ArC t := by
  induction he with
  | @mk e xs ts ys us hsl hb hr hc hcb hcl hcr ih =>
    rw [formT, Bool.and_eq_true] at hf
    refine .mk (e7r hf.1) (fun t ht => ?_) fun t ht => ?_
    · obtain ⟨i, hi⟩ := List.getElem?_of_mem ht
      obtain ⟨x, hx⟩ := B2 (l := xs) (i := i) (by have := M1 hi; have := hr.1; omega)
      exact d9T (hr.2 i x t hx hi) (A8 hf.2 (List.mem_append_left _ ht)) (hs.num.2 t (List.mem_append_left _ ht))
    · obtain ⟨i, hi⟩ := List.getElem?_of_mem ht
      obtain ⟨x, hx⟩ := B2 (l := ys) (i := i) (by have := M1 hi; omega)
      exact ih i x t hx hi (A8 hf.2 (List.mem_append_right _ ht)) (hs.num.2 t (List.mem_append_right _ ht))
theorem c8e {t : PT} (h : toldS [t] = 0) : formT t = true := by
  unfold toldS at h
  split at h
  · split at h
    · rename_i hf
      rw [formTs, formTs, Bool.and_true] at hf; exact hf
    · cases h
  · rename_i hb; exact (hb h).elim
theorem e7s (hT : TabsH H) {e : b6} {t : PT} (he : EH H e t) (hs : Sm t) {K : b6 → Int → Hp → Prop} (h0 : ∀ y H', Hle H H' → toldS [t] = 0 → EH H' y (foldT t) → K y 0 H') (h1 : ∀ H', Hle H H' → toldS [t] ≠ 0 → K ⟨0, 0, ⟨#[]⟩, ⟨none, 0, 0⟩⟩ (toldS [t]) H') : a6g e H K := by
  refine b6N _ ?_
  unfold a3N
  refine f2U hT he hs fun H1 l1 => ?_
  rw [c1u]
  refine ⟨fun q => h1 H1 l1 q, fun q => ?_⟩
  exact c7n (d9T he (c8e q) hs) H1 e _ (he.le l1) fun y H2 l2 hy => h0 y H2 (l1.trans l2) q hy
theorem e7t (hT : TabsH H) {e : b9} {t : PT} (he : CH H e t) (hs : Sm t) {K : b9 → Int → Hp → Prop} (h0 : ∀ y H', Hle H H' → toldS [t] = 0 → CH H' y (foldT t) → K y 0 H') (h1 : ∀ H', Hle H H' → toldS [t] ≠ 0 → K ⟨0, 0, ⟨none, 0, 0⟩, ⟨none, 0, 0⟩⟩ (toldS [t]) H') : a6i e H K := by
  refine b6S _ ?_
  unfold a3P
  refine f2Y hT he hs fun H1 l1 => ?_
  rw [c1u]
  refine ⟨fun q => h1 H1 l1 q, fun q => ?_⟩
  exact c8d (e3c he (c8e q) hs) H1 e _ (he.le l1) fun y H2 l2 hy => h0 y H2 (l1.trans l2) q hy
def kn1 : PT := eN 6 0 ⟨#[]⟩ [eN 1 1 ⟨#[]⟩ [], eN 1 2 ⟨#[]⟩ []]
def kn2 : PT := eN 8 0 ⟨#[]⟩ [kn1, eN 2 0 ⟨#[120]⟩ []]
def kn3 : PT := cN 3 1 [eN 1 1 ⟨#[]⟩ [], eN 1 2 ⟨#[]⟩ []] []
theorem e7u : toldS [kn2] = 0 := by kernel_rfl
theorem e7v : toldS [kn3] = 0 := by kernel_rfl
theorem e7w : foldT kn2 = eN 8 0 ⟨#[]⟩ [eN 1 3 ⟨#[]⟩ [], eN 2 0 ⟨#[120]⟩ []] := by kernel_rfl
theorem e7x : foldT kn3 = cN 1 0 [] [] := by kernel_rfl
theorem d3l {a b : PT} (ha : Sm a) (hb : Sm b) : ∀ t ∈ [a, b], Sm t := fun t ht => by
  rcases List.mem_cons.1 ht with e | ht
  · rw [e]; exact ha
  · rw [List.mem_singleton.1 ht]; exact hb
theorem c5H (n : Int) (h : o8 n) : Sm (eN 1 n ⟨#[]⟩ []) := .mk ⟨(by decide : (⟨#[]⟩ : ByteArray).size ≤ sml), h⟩ fun t ht => by cases ht
theorem g7E : Sm kn1 := .mk (by decide) (d3l (c5H 1 (by decide)) (c5H 2 (by decide)))
theorem g7F : Sm kn2 := .mk (by decide) (d3l g7E (.mk (by decide) fun t ht => by cases ht))
theorem g7G : Sm kn3 := .mk (by decide) (d3l (c5H 1 (by decide)) (c5H 2 (by decide)))
theorem c1J {n : Int} {K : b6 → Hp → Prop} (h : K ⟨1, n, ⟨#[]⟩, ⟨none, 0, 0⟩⟩ H) : U2 n H K := b4k _ (by unfold a2d; exact h)
theorem d9U (hT : TabsH H) {K : Bool → Hp → Prop} (h : ∀ H', Hle H H' → K true H') : a3U H K := by
  refine b2r ?_
  unfold a0N
  refine c1J (c1J ?_)
  intro s1 H1 l1 hS1 _ s2 H2 l2 hS2 _
  have l12 := l1.trans l2
  have e1 : EH H2 ⟨6, 0, ⟨#[]⟩, s1⟩ kn1 := EH.node (hS1.le l2) (by simp [big]) ((y8.one (EH.leaf _ _ _ _)).app (y8.one (EH.leaf _ _ _ _)))
  have e2 : EH H2 ⟨8, 0, ⟨#[]⟩, s2⟩ kn2 := EH.node hS2 (by simp [big]) ((y8.one e1).app (y8.one (EH.leaf _ _ _ _)))
  refine e7s (hT.le l12) e2 g7F (fun y H3 l3 _ hy => ?_) fun H3 l3 q => (q e7u).elim
  rw [e7w] at hy
  have l13 := l12.trans l3
  refine c1J (c1J ?_)
  intro s4 H4 l4 hS4 _
  have l14 := l13.trans l4
  have e3 : CH H4 ⟨3, 1, s4, ⟨none, 0, 0⟩⟩ kn3 := CH.node hS4 (by simp [big]) ((y8.one (EH.leaf _ _ _ _)).app (y8.one (EH.leaf _ _ _ _))) (SlH.nil _ _ _) (Nat.zero_le _) y8.nil
  refine e7t (hT.le l14) e3 g7G (fun c H5 l5 _ hc => ?_) fun H5 l5 q => (q e7v).elim
  rw [e7x] at hc
  have hy' := hy.le (l4.trans l5)
  obtain ⟨us, hu, hn⟩ := hy'.inv
  unfold eN at hu
  injection hu with hl hk
  injection hl with q1 q2 q3 q4
  obtain ⟨x, z, hx, hxa, _, _, hl2⟩ := f0s hy'
  obtain ⟨vs, hv, _⟩ := hxa.inv
  unfold eN at hv
  injection hv with hvl _
  injection hvl with w1 w2 _ _
  refine ⟨x, fun _ => ⟨by decide, by omega, hx⟩, x, fun _ => ⟨by decide, by omega, hx⟩, ?_⟩
  have hfin : (((((((decide ((0 : Int) = 0)) && (decide ((0 : Int) = 0))) && (decide (y.a8 = 8))) && (decide ((y.o9.n : Int) = 2))) && (decide (x.a8 = 1))) && (decide (x.p5 = 3))) && (decide (c.a8 = 1))) = true := by
    have c1 : c.a8 = 1 := hc.kind
    have n2 : (y.o9.n : Int) = 2 := by rw [hn, ← hk]; rfl
    simp [← q1, n2, ← w1, ← w2, c1]
  rw [hfin]
  exact h H5 (l14.trans l5)
end
end Go.Proofs.YtnhkdkcgdcgmdaaGreatDoor
