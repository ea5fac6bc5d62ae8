/- Folding of conditions; the law RewriteParts. Contracts off the printed formulas. -/
import Derived.Test.YtnhkdkcgdcgmdaaDoorzRQh
namespace Go.Proofs.YtnhkdkcgdcgmdaaDoor
open Go.RowKit
set_option maxRecDepth 100000
set_option maxHeartbeats 2000000
def FoldsC (t : PT) : Prop := ∀ (H : Hp) (e : d5) (K : d5 → Hp → Prop), CH H e t → (∀ y H', Hle H H' → CH H' y (foldT t) → K y H') → a2o e H K
def RFoldsC (t : PT) : Prop := ∀ (H : Hp) (e : d5) (K : d5 → Hp → Prop), CH H e t → (∀ y H', Hle H H' → CH H' y (foldT t) → K y H') → a0f e H K
theorem c4s (k op : Int) (xs ps : List PT) : foldT (.mk (.cond k op xs.length ps.length) (xs ++ ps)) = foldC k op (xs.map foldT) (ps.map foldT) := by
  rw [foldT, foldL, a9r, List.map_append]
  have : (xs.map foldT).length = xs.length := List.length_map ..
  rw [← this, List.take_left, List.drop_left]
section
variable {H : Hp}
theorem CH.kind {e : d5} {t : PT} (h : CH H e t) : e.b9 = kindC t := by cases h; rfl
theorem CH.leaf (H : Hp) (k op : Int) : CH H ⟨k, op, ⟨none, 0, 0⟩, ⟨none, 0, 0⟩⟩ (cN k op [] []) := CH.mk (c := ⟨k, op, ⟨none, 0, 0⟩, ⟨none, 0, 0⟩⟩) (ts := []) (us := []) (SlH.nil _ _ _) (Nat.zero_le _) v8.nil (SlH.nil _ _ _) (Nat.zero_le _) rfl fun i x t hx => by simp at hx
theorem CH.node {k op : Int} {s s' : Sl} {xs : List a7} {ts : List PT} {ys : List d5} {us : List PT} (hs : SlH H 4 b8 s xs) (hb : xs.length ≤ big) (hr : v8 (EH H) xs ts) (hs' : SlH H 4 d6 s' ys) (hb' : ys.length ≤ big) (hr' : v8 (CH H) ys us) : CH H ⟨k, op, s, s'⟩ (cN k op ts us) := CH.mk (c := ⟨k, op, s, s'⟩) hs hb hr hs' hb' hr'.1 hr'.2
theorem e0T {s : Sl} {xs : List d5} {ts : List PT} (hs : SlH H 4 d6 s xs) (hb : xs.length ≤ big) (hr : v8 (CH H) xs ts) (ih : ∀ t ∈ ts, FoldsC t) {K : Sl → Hp → Prop}
    (h : ∀ s' ys H', Hle H H' → SlH H' 4 d6 s' ys → ys.length ≤ big → v8 (CH H') ys (ts.map foldT) → K s' H') : D5 s H K := by
  refine a0w _ ?_
  unfold w9
  have n1 := hs.1
  have hb' := hb
  simp only [big] at hb'
  refine a1Q (fun (z : List d5 × Int) H' => 0 ≤ z.2 ∧ z.2 ≤ xs.length ∧ Hle H H' ∧ v8 (CH H') z.1 ((ts.take z.2.toNat).map foldT)) (fun z => (xs.length - z.2).toNat) ⟨Int.le_refl _, by dsimp only; omega, Hle.refl _, v8.nil⟩ ?_
  rintro ⟨cs, i⟩ H1 next ⟨i0, i1, l1, hcs⟩ hn
  dsimp only at i0 i1 l1 hcs ⊢
  unfold v2
  have hlen := hr.1
  have hcl : cs.length ≤ xs.length := by rw [hcs.1, List.length_map, List.length_take]; omega
  refine ⟨fun q => ?_, fun q => ?_⟩
  · obtain ⟨x, hx, hE⟩ := (hs.le l1).get i0 (by omega)
    obtain ⟨t, ht, hxt⟩ := hr.get hx
    refine ⟨i0, by omega, x, hE, ih t (List.mem_of_getElem? ht) H1 x _ (hxt.le l1) fun y H2 l2 hy => ⟨by simp only [List.length_cons, List.length_nil]; omega, ?_⟩⟩
    rw [K3 i0 (by omega)]
    refine hn _ _ ⟨by dsimp only; omega, by dsimp only; omega, l1.trans l2, ?_⟩ (by dsimp only; omega)
    dsimp only
    rw [show (i + 1).toNat = i.toNat + 1 by omega, N9 ht, List.map_append]
    exact (hcs.mono fun _ _ => CH.le l2).app (v8.one hy)
  · unfold u9
    intro s2 H2 l2 hS2 _
    rw [List.take_of_length_le (by omega)] at hcs
    exact h s2 cs H2 (l1.trans l2) hS2 (by omega) (hcs.mono fun _ _ => CH.le l2)
theorem d3l {b : Bool} {K : d5 → Hp → Prop} (h : ∀ y, CH H y (truT b) → K y H) : X8 b H K := by
  unfold X8
  refine ⟨fun q => h _ ?_, fun q => h _ ?_⟩
  · rw [q]; exact CH.leaf H 1 0
  · rw [q]; exact CH.leaf H 2 0
theorem d1V {b : Bool} {K : d5 → Hp → Prop} (h : ∀ y, CH H y (truT b) → K y H) : a1W b H K := b5f _ (d3l h)
theorem c6v {b : Bool} {K : d5 → Hp → Prop} (h : ∀ y, CH H y (truT b) → K y H) : Y3 b H K := b0Z _ (d3l h)
theorem SlH.at_ {α : Type} {sz : Nat} {c : α → List Value} {s : Sl} {xs : List α} (hs : SlH H sz c s xs) {i : Nat} {x : α} (hx : xs[i]? = some x) : EltH H s i sz (c x) ∧ (i : Int) < s.n := ⟨hs.2 i x hx, by have := J4 hx; have := hs.1; omega⟩
theorem g8F {α : Type} {R : α → PT → Prop} {xs : List α} {a : PT} (h : v8 R xs [a]) : ∃ x, xs = [x] ∧ R x a := by
  obtain ⟨x, rfl⟩ := c4r h.1
  exact ⟨x, rfl, h.2 0 x a rfl rfl⟩
theorem d1W {α : Type} {R : α → PT → Prop} {xs : List α} {a b : PT} (h : v8 R xs [a, b]) : ∃ x y, xs = [x, y] ∧ R x a ∧ R y b := by
  obtain ⟨x, y, rfl⟩ := a9s h.1
  exact ⟨x, y, rfl, h.2 0 x a rfl rfl, h.2 1 y b rfl rfl⟩
theorem c6w {e : d5} {l d : Int} {self a b : PT} {x y : d5} (hs : SlH H 4 d6 e.i7 [x, y]) (ha : CH H x a) (hb : CH H y b) (he : CH H e self) {K : d5 → Hp → Prop} (h : ∀ y, CH H y (joinT l d self [a, b]) → K y H) : a0Z e l d H K := by
  refine b3Z _ _ _ ?_
  unfold a1t
  obtain ⟨h0, n0⟩ := hs.at_ (i := 0) rfl
  obtain ⟨h1, n1⟩ := hs.at_ (i := 1) rfl
  refine ⟨by decide, n0, x, h0, by decide, n1, y, h1, ?_⟩
  unfold Y6 Q0
  have hj : joinT l d self [a, b] = if kindC a = l then b else if kindC a = d then a else if kindC b = l then a else self := rfl
  rw [hj] at h
  rw [ha.kind, hb.kind]
  refine ⟨fun q => ?_, fun q => ⟨fun q2 => ⟨fun _ => ?_, fun q3 => ?_⟩, fun q2 => ⟨fun q3 => ?_, fun q3 => ?_⟩⟩⟩
  · rw [if_pos q] at h; exact h y hb
  · rw [if_neg q, if_pos q2] at h; exact h x ha
  · exact (of_decide_eq_false q3 q2).elim
  · rw [if_neg q, if_neg q2, if_pos (of_decide_eq_true q3)] at h; exact h x ha
  · rw [if_neg q, if_neg q2, if_neg (of_decide_eq_false q3)] at h; exact h e he
theorem c6x {op : Int} {self a b : PT} (h1 : cst a ≠ none) (h2 : cst b ≠ none) : cmpT op self [a, b] = truT (cmpS op (argV (cst a)) (argV (cst b))) := by
  unfold cmpT argV
  cases ha : cst a with
  | none => exact (h1 ha).elim
  | some x => cases hb : cst b with
    | none => exact (h2 hb).elim
    | some y => dsimp only; rw [ha, hb]; rfl
theorem c6y {op : Int} {self a b : PT} (h : cst a = none ∨ cst b = none) : cmpT op self [a, b] = self := by
  unfold cmpT
  rcases h with h | h
  · dsimp only; rw [h]
  · dsimp only; rw [h]; cases cst a <;> rfl
theorem d3m {a b : PT} (q : ((cstP a).2 && (cstP b).2) = false) : cst a = none ∨ cst b = none := by
  cases ha : cst a with
  | none => exact .inl rfl
  | some x =>
    cases hb : cst b with
    | none => exact .inr rfl
    | some y => rw [a0e ha, a0e hb] at q; cases q
theorem e0U {t : PT} (ha : ArC t) : FoldsC t := by
  induction ha with
  | @mk k0 op0 es ps har hae hac ih =>
    intro H e K he h
    refine b5Y _ ?_
    unfold a2t
    rw [c4s] at h
    generalize htt : PT.mk (.cond k0 op0 es.length ps.length) (es ++ ps) = tt at he
    cases he with
    | @mk _ xs ts ys us hs hb hr hc hcb hcl hcr =>
      injection htt with hl hk
      injection hl with q1 q2 q3 q4
      subst q1; subst q2
      obtain ⟨rfl, rfl⟩ := List.append_inj hk q3
      refine c6t hs hb hr (fun t ht => d3k (hae t ht)) fun r1 xs1 H1 l1 hS1 hb1 hr1 => ?_
      refine e0T (hc.le l1) hcb ⟨hcl, fun i x t a b => CH.le l1 (hcr i x t a b)⟩ ih fun r2 ys2 H2 l2 hS2 hb2 hr2 => ?_
      have l12 := l1.trans l2
      have hS1' := hS1.le l2
      have hr1' := hr1.mono fun _ _ => EH.le l2
      have hae' : ∀ t ∈ es.map foldT, Ar t := fun t ht => by obtain ⟨u, hu, rfl⟩ := List.mem_map.1 ht; exact c0C (hae u hu)
      have n1 : (es.map foldT).length = es.length := List.length_map ..
      have n2 : (ps.map foldT).length = ps.length := List.length_map ..
      generalize es.map foldT = es' at *
      generalize ps.map foldT = ps' at *
      have self : CH H2 ⟨e.b9, e.fOp, r1, r2⟩ (cN e.b9 e.fOp es' ps') := CH.node hS1' hb1 hr1' hS2 hb2 hr2
      obtain ⟨a3, a4, a5, a6⟩ := har
      unfold foldC at h
      unfold N4
      refine ⟨fun c3 => ?_, fun c3 => ⟨fun c4 => ?_, fun c4 => ⟨fun c5 => ?_, fun c5 => ⟨fun c6 => ?_, fun c6 => ?_⟩⟩⟩⟩
      · rw [if_pos c3] at h
        obtain ⟨a, b, rfl⟩ := a9s (n1.trans (a3 c3))
        obtain ⟨x, y, rfl, hxa, hyb⟩ := d1W hr1'
        obtain ⟨h0, m0⟩ := hS1'.at_ (i := 0) rfl
        obtain ⟨h1, m1⟩ := hS1'.at_ (i := 1) rfl
        refine ⟨by decide, m0, x, h0, b3B hxa (hae' a (by simp)) ⟨by decide, m1, y, h1, b3B hyb (hae' b (by simp)) ⟨fun q => ?_, fun q => ?_⟩⟩⟩
        · rw [Bool.and_eq_true] at q
          rw [c6x ((b3D a).1 q.1) ((b3D b).1 q.2)] at h
          rw [a5c, a5c]
          exact d6c (d1V fun y hy => h y H2 l12 hy)
        · rw [c6y (d3m q)] at h
          exact h _ H2 l12 self
      · rw [if_neg c3, if_pos c4] at h
        obtain ⟨a, rfl⟩ := c4r (n2.trans (a4 c4))
        obtain ⟨x, rfl, hxa⟩ := g8F hr2
        obtain ⟨h0, m0⟩ := hS2.at_ (i := 0) rfl
        have hj : ∀ s, notT s [a] = if kindC a = 1 ∨ kindC a = 2 then truT (decide (kindC a = 2)) else s := fun s => rfl
        rw [hj] at h
        rw [← hxa.kind] at h
        refine ⟨by decide, m0, x, h0, fun q => ?_, fun q => ?_⟩
        · rw [if_pos (by simpa using q)] at h
          exact d1V fun y hy => h y H2 l12 hy
        · rw [if_neg (by simpa using q)] at h
          exact h _ H2 l12 self
      · rw [if_neg c3, if_neg c4, if_pos c5] at h
        obtain ⟨a, b, rfl⟩ := a9s (n2.trans (a5 c5))
        obtain ⟨x, y, rfl, hxa, hyb⟩ := d1W hr2
        exact c6w hS2 hxa hyb self fun y hy => h y H2 l12 hy
      · rw [if_neg c3, if_neg c4, if_neg c5, if_pos c6] at h
        obtain ⟨a, b, rfl⟩ := a9s (n2.trans (a6 c6))
        obtain ⟨x, y, rfl, hxa, hyb⟩ := d1W hr2
        exact c6w hS2 hxa hyb self fun y hy => h y H2 l12 hy
      · rw [if_neg c3, if_neg c4, if_neg c5, if_neg c6] at h
        exact h _ H2 l12 self
theorem d8y {t : PT} (ha : ArC t) : RFoldsC t := by
  induction ha with
  | @mk k0 op0 es ps har hae hac ih =>
    intro H e K he h
    refine b1G _ ?_
    unfold a0o
    rw [c4s] at h
    generalize htt : PT.mk (.cond k0 op0 es.length ps.length) (es ++ ps) = tt at he
    cases he with
    | @mk _ xs ts ys us hs hb hr hc hcb hcl hcr =>
      injection htt with hl hk
      injection hl with q1 q2 q3 q4
      subst q1; subst q2
      obtain ⟨rfl, rfl⟩ := List.append_inj hk q3
      have n1 := hs.1
      have n2 := hc.1
      have hb' := hb
      have hcb' := hcb
      simp only [big] at hb' hcb'
      have hlen := hr.1
      refine a1Q (fun (z : Int × Int × Int × List a7 × List d5 × d5) H' => 0 ≤ z.1 ∧ z.1 ≤ xs.length ∧ Hle H H' ∧ z.2.1 = e.b9 ∧ z.2.2.1 = e.fOp ∧ v8 (EH H') z.2.2.2.1 ((es.take z.1.toNat).map foldT) ∧ z.2.2.2.2.1 = []) (fun z => (xs.length - z.1).toNat) ⟨Int.le_refl _, by dsimp only; omega, Hle.refl _, rfl, rfl, v8.nil, rfl⟩ ?_
      rintro ⟨i, a0, a1, xs1, ys0, e6⟩ H1 next ⟨i0, i1, l1, e0, e1, hcs, e2⟩ hk
      dsimp only at i0 i1 l1 e0 e1 hcs e2 ⊢
      subst e0; subst e1; subst e2
      unfold W0
      have hcl1 : xs1.length ≤ xs.length := by rw [hcs.1, List.length_map, List.length_take]; omega
      refine ⟨fun q => ?_, fun q => ?_⟩
      · obtain ⟨x, hx, hE⟩ := (hs.le l1).get i0 (by omega)
        obtain ⟨t, ht, hxt⟩ := hr.get hx
        refine ⟨i0, by omega, x, hE, c6u (hae t (List.mem_of_getElem? ht)) H1 x _ (hxt.le l1) fun y H2 l2 hy => ⟨by simp only [List.length_cons, List.length_nil]; omega, ?_⟩⟩
        rw [K3 i0 (by omega)]
        refine hk _ _ ⟨by dsimp only; omega, by dsimp only; omega, l1.trans l2, rfl, rfl, ?_, rfl⟩ (by dsimp only; omega)
        dsimp only
        rw [show (i + 1).toNat = i.toNat + 1 by omega, N9 ht, List.map_append]
        exact (hcs.mono fun _ _ => EH.le l2).app (v8.one hy)
      · rw [List.take_of_length_le (by omega)] at hcs
        clear hk next
        unfold V9
        refine a1Q (fun (z : Int × Int × Int × List d5 × d5) H' => 0 ≤ z.1 ∧ z.1 ≤ ys.length ∧ Hle H1 H' ∧ z.2.1 = e.b9 ∧ z.2.2.1 = e.fOp ∧ v8 (CH H') z.2.2.2.1 ((ps.take z.1.toNat).map foldT)) (fun z => (ys.length - z.1).toNat) ⟨Int.le_refl _, by dsimp only; omega, Hle.refl _, rfl, rfl, v8.nil⟩ ?_
        rintro ⟨j, a0, a1, ys1, e7⟩ H2 next ⟨j0, j1, l2, e0, e1, hds⟩ hk
        dsimp only at j0 j1 l2 e0 e1 hds ⊢
        subst e0; subst e1
        have l12 := l1.trans l2
        unfold V8
        have hcl2 : ys1.length ≤ ys.length := by rw [hds.1, List.length_map, List.length_take]; omega
        refine ⟨fun q2 => ?_, fun q2 => ?_⟩
        · obtain ⟨x, hx, hE⟩ := (hc.le l12).get j0 (by omega)
          obtain ⟨t, ht⟩ := R3 (l := ps) (i := j.toNat) (by have := J4 hx; omega)
          have hxt := hcr _ x t hx ht
          refine ⟨j0, by omega, x, hE, ih t (List.mem_of_getElem? ht) H2 x _ (hxt.le l12) fun y H3 l3 hy => ⟨by simp only [List.length_cons, List.length_nil]; omega, ?_⟩⟩
          rw [K3 j0 (by omega)]
          refine hk _ _ ⟨by dsimp only; omega, by dsimp only; omega, l2.trans l3, rfl, rfl, ?_⟩ (by dsimp only; omega)
          dsimp only
          rw [show (j + 1).toNat = j.toNat + 1 by omega, N9 ht, List.map_append]
          exact (hds.mono fun _ _ => CH.le l3).app (v8.one hy)
        · rw [List.take_of_length_le (by omega)] at hds
          have hr1' := hcs.mono fun _ _ => EH.le l2
          have hae' : ∀ t ∈ es.map foldT, Ar t := fun t ht => by obtain ⟨u, hu, rfl⟩ := List.mem_map.1 ht; exact c0C (hae u hu)
          have m1 : (es.map foldT).length = es.length := List.length_map ..
          have m2 : (ps.map foldT).length = ps.length := List.length_map ..
          generalize es.map foldT = es' at *
          generalize ps.map foldT = ps' at *
          have self : ∀ {e1 e6 : d5}, (∀ y H', Hle H H' → CH H' y (cN e.b9 e.fOp es' ps') → K y H') → C7 e.b9 e.fOp xs1 ys1 e6 e1 H2 K := by
            intro e1 e6 h'
            unfold C7
            intro s3 H3 l3 hS3 _ s4 H4 l4 hS4 _
            exact h' _ H4 (l12.trans (l3.trans l4)) (CH.node (hS3.le l4) (by omega) (hr1'.mono fun _ _ => EH.le (l3.trans l4)) hS4 (by omega) (hds.mono fun _ _ => CH.le (l3.trans l4)))
          have joins : ∀ {l d : Int} {e1 e6 : d5} {a b : PT}, ps' = [a, b] → (∀ y H', Hle H H' → CH H' y (joinT l d (cN e.b9 e.fOp es' ps') ps') → K y H') → I3 l d e.b9 e.fOp xs1 ys1 e6 e1 H2 K := by
            intro l d e1 e6 a b hp h'
            subst hp
            obtain ⟨x, y, rfl, hxa, hyb⟩ := d1W hds
            have hj : ∀ s, joinT l d s [a, b] = if kindC a = l then b else if kindC a = d then a else if kindC b = l then a else s := fun s => rfl
            rw [hj, ← hxa.kind, ← hyb.kind] at h'
            unfold I3
            refine ⟨by decide, x, rfl, fun q => ⟨by decide, y, rfl, ?_⟩, fun q => ⟨by decide, x, rfl, fun q2 => ⟨by decide, x, rfl, ?_⟩, fun q2 => ⟨by decide, y, rfl, fun q3 => ⟨by decide, x, rfl, ?_⟩, fun q3 => ?_⟩⟩⟩
            · rw [if_pos q] at h'; exact h' y H2 l12 hyb
            · rw [if_neg q, if_pos q2] at h'; exact h' x H2 l12 hxa
            · rw [if_neg q, if_neg q2, if_pos q3] at h'; exact h' x H2 l12 hxa
            · rw [if_neg q, if_neg q2, if_neg q3] at h'; exact self h'
          obtain ⟨a3, a4, a5, a6⟩ := har
          unfold foldC at h
          unfold V7
          refine ⟨fun c3 => ?_, fun c3 => ⟨fun c4 => ?_, fun c4 => ⟨fun c5 => ?_, fun c5 => ?_⟩⟩⟩
          · rw [if_pos c3] at h
            obtain ⟨a, b, rfl⟩ := a9s (m1.trans (a3 c3))
            obtain ⟨x, y, rfl, hxa, hyb⟩ := d1W hr1'
            refine ⟨by decide, x, rfl, a6P hxa (hae' a (by simp)) ⟨by decide, y, rfl, a6P hyb (hae' b (by simp)) ⟨fun q3 => ?_, fun q3 => ?_⟩⟩⟩
            · rw [Bool.and_eq_true] at q3
              rw [c6x ((b3D a).1 q3.1) ((b3D b).1 q3.2)] at h
              rw [a5c, a5c]
              exact d6b (c6v fun y hy => h y H2 l12 hy)
            · rw [c6y (d3m q3)] at h
              exact self h
          · rw [if_neg c3, if_pos c4] at h
            obtain ⟨a, rfl⟩ := c4r (m2.trans (a4 c4))
            obtain ⟨x, rfl, hxa⟩ := g8F hds
            have hj : ∀ s, notT s [a] = if kindC a = 1 ∨ kindC a = 2 then truT (decide (kindC a = 2)) else s := fun s => rfl
            rw [hj, ← hxa.kind] at h
            refine ⟨by decide, x, rfl, fun q3 => ?_, fun q3 => ?_⟩
            · rw [if_pos (by simpa using q3)] at h
              exact c6v fun y hy => h y H2 l12 hy
            · rw [if_neg (by simpa using q3)] at h
              exact self h
          · rw [if_neg c3, if_neg c4, if_pos c5] at h
            unfold I4
            rw [decide_eq_true c5]
            obtain ⟨a, b, hp⟩ := a9s (m2.trans (a5 c5))
            exact ⟨fun _ => ⟨fun c6 => by omega, fun _ => joins hp h⟩, fun q3 => by cases q3⟩
          · rw [if_neg c3, if_neg c4, if_neg c5] at h
            unfold I4
            refine ⟨fun q3 => ?_, fun q3 => ?_⟩
            · have c6 := of_decide_eq_true q3
              rw [if_pos c6] at h
              obtain ⟨a, b, hp⟩ := a9s (m2.trans (a6 c6))
              exact ⟨fun _ => joins hp h, fun n => (n c6).elim⟩
            · rw [if_neg (of_decide_eq_false q3)] at h
              exact self h
end
theorem b1I : ∀ {ts : List PT} (_ : formTs ts = true) {t : PT} (_ : t ∈ ts), formT t = true
  | t :: ts, h, u, hu => by
    rw [formTs, Bool.and_eq_true] at h
    rcases List.mem_cons.1 hu with e | hu
    · rw [e]; exact h.1
    · exact b1I h.2 hu
theorem e5E {k n : Int} {s : ByteArray} {a : Nat} (h : formE k n s a = true) : arE k a := by
  unfold formE at h
  split at h
  · cases h
  · split at h
    · simp only [Bool.and_eq_true, decide_eq_true_eq] at h; unfold arE; omega
    · split at h
      · simp only [decide_eq_true_eq] at h; unfold arE; omega
      · split at h
        · simp only [decide_eq_true_eq] at h; unfold arE; omega
        · split at h
          · simp only [decide_eq_true_eq] at h; unfold arE; omega
          · cases h
theorem e5F {k op : Int} {e p : Nat} (h : formC k op e p = true) : arC k e p := by
  unfold formC at h
  split at h
  · simp only [Bool.and_eq_true, decide_eq_true_eq] at h; unfold arC; omega
  · split at h
    · split at h
      · simp only [decide_eq_true_eq] at h; unfold arC; omega
      · split at h
        · simp only [decide_eq_true_eq] at h; unfold arC; omega
        · split at h
          · simp only [decide_eq_true_eq] at h; unfold arC; omega
          · cases h
    · cases h
section
variable {H : Hp}
theorem Sm.num {l : Lab} {cs : List PT} (h : Sm (.mk l cs)) : s6 (numL l) ∧ ∀ t ∈ cs, Sm t := by
  cases h with
  | mk h1 h2 => exact ⟨h1.2, h2⟩
theorem d8z {e : a7} {t : PT} (he : EH H e t) (hf : formT t = true) (hs : Sm t) : Ar t := by
  induction he with
  | @mk e xs ts hsl hb hl hr ih =>
    rw [formT, Bool.and_eq_true] at hf
    refine .mk (e5E hf.1) hs.num.1 fun t ht => ?_
    obtain ⟨i, hi⟩ := List.getElem?_of_mem ht
    obtain ⟨x, hx⟩ := R3 (l := xs) (i := i) (by have := J4 hi; omega)
    exact ih i x t hx hi (b1I hf.2 ht) (hs.num.2 t ht)
theorem e0V {e : d5} {t : PT} (he : CH H e t) (hf : formT t = true) (hs : Sm t) : ArC t := by
  induction he with
  | @mk e xs ts ys us hsl hb hr hc hcb hcl hcr ih =>
    rw [formT, Bool.and_eq_true] at hf
    refine .mk (e5F hf.1) (fun t ht => ?_) fun t ht => ?_
    · obtain ⟨i, hi⟩ := List.getElem?_of_mem ht
      obtain ⟨x, hx⟩ := R3 (l := xs) (i := i) (by have := J4 hi; have := hr.1; omega)
      exact d8z (hr.2 i x t hx hi) (b1I hf.2 (List.mem_append_left _ ht)) (hs.num.2 t (List.mem_append_left _ ht))
    · obtain ⟨i, hi⟩ := List.getElem?_of_mem ht
      obtain ⟨x, hx⟩ := R3 (l := ys) (i := i) (by have := J4 hi; omega)
      exact ih i x t hx hi (b1I hf.2 (List.mem_append_right _ ht)) (hs.num.2 t (List.mem_append_right _ ht))
theorem b4x {t : PT} (h : toldS [t] = 0) : formT t = true := by
  unfold toldS at h
  split at h
  · split at h
    · rename_i hf
      rw [formTs, formTs, Bool.and_true] at hf; exact hf
    · cases h
  · rename_i hb; exact (hb h).elim
theorem d1X (hT : TabsH H) {e : a7} {t : PT} (he : EH H e t) (hs : Sm t) {K : a7 → Int → Hp → Prop} (h0 : ∀ y H', Hle H H' → toldS [t] = 0 → EH H' y (foldT t) → K y 0 H') (h1 : ∀ H', Hle H H' → toldS [t] ≠ 0 → K ⟨0, 0, ⟨#[]⟩, ⟨none, 0, 0⟩⟩ (toldS [t]) H') : a2m e H K := by
  refine b5U _ ?_
  unfold a2s
  refine e9K hT he hs fun H1 l1 => ?_
  rw [d2T]
  refine ⟨fun q => h1 H1 l1 q, fun q => ?_⟩
  exact d3k (d8z he (b4x q) hs) H1 e _ (he.le l1) fun y H2 l2 hy => h0 y H2 (l1.trans l2) q hy
theorem c6z {e : a7} {t : PT} (he : EH H e t) (hs : Sm t) {K : a7 → Int → Hp → Prop} (h0 : ∀ y H', Hle H H' → toldS [t] = 0 → EH H' y (foldT t) → K y 0 H') (h1 : toldS [t] ≠ 0 → K ⟨0, 0, ⟨#[]⟩, ⟨none, 0, 0⟩⟩ (toldS [t]) H) : a2O e H K := by
  refine b1F _ ?_
  unfold a0m
  refine e3z he ⟨fun q => h1 q, fun q => ?_⟩
  exact c6u (d8z he (b4x q) hs) H e _ he fun y H2 l2 hy => h0 y H2 l2 q hy
theorem d1Y (hT : TabsH H) {e : d5} {t : PT} (he : CH H e t) (hs : Sm t) {K : d5 → Int → Hp → Prop} (h0 : ∀ y H', Hle H H' → toldS [t] = 0 → CH H' y (foldT t) → K y 0 H') (h1 : ∀ H', Hle H H' → toldS [t] ≠ 0 → K ⟨0, 0, ⟨none, 0, 0⟩, ⟨none, 0, 0⟩⟩ (toldS [t]) H') : a0d e H K := by
  refine b5Z _ ?_
  unfold a2u
  refine f0F hT he hs fun H1 l1 => ?_
  rw [d2T]
  refine ⟨fun q => h1 H1 l1 q, fun q => ?_⟩
  exact e0U (e0V he (b4x q) hs) H1 e _ (he.le l1) fun y H2 l2 hy => h0 y H2 (l1.trans l2) q hy
theorem c6A {e : d5} {t : PT} (he : CH H e t) (hs : Sm t) {K : d5 → Int → Hp → Prop} (h0 : ∀ y H', Hle H H' → toldS [t] = 0 → CH H' y (foldT t) → K y 0 H') (h1 : toldS [t] ≠ 0 → K ⟨0, 0, ⟨none, 0, 0⟩, ⟨none, 0, 0⟩⟩ (toldS [t]) H) : a0g e H K := by
  refine b1H _ ?_
  unfold a0p
  refine e3A he ⟨fun q => h1 q, fun q => ?_⟩
  exact d8y (e0V he (b4x q) hs) H e _ he fun y H2 l2 hy => h0 y H2 l2 q hy
def kn1 : PT := eN 6 0 ⟨#[]⟩ [eN 1 1 ⟨#[]⟩ [], eN 1 2 ⟨#[]⟩ []]
def kn2 : PT := eN 8 0 ⟨#[]⟩ [kn1, eN 2 0 ⟨#[120]⟩ []]
def kn3 : PT := cN 3 1 [eN 1 1 ⟨#[]⟩ [], eN 1 2 ⟨#[]⟩ []] []
theorem e5G : toldS [kn2] = 0 := by kernel_rfl
theorem e5H : toldS [kn3] = 0 := by kernel_rfl
theorem e5I : foldT kn2 = eN 8 0 ⟨#[]⟩ [eN 1 3 ⟨#[]⟩ [], eN 2 0 ⟨#[120]⟩ []] := by kernel_rfl
theorem e5J : foldT kn3 = cN 1 0 [] [] := by kernel_rfl
theorem d1Z {a b : PT} (ha : Sm a) (hb : Sm b) : ∀ t ∈ [a, b], Sm t := fun t ht => by
  rcases List.mem_cons.1 ht with e | ht
  · rw [e]; exact ha
  · rw [List.mem_singleton.1 ht]; exact hb
theorem c4t (n : Int) (h : s6 n) : Sm (eN 1 n ⟨#[]⟩ []) := .mk ⟨(by decide : (⟨#[]⟩ : ByteArray).size ≤ sml), h⟩ fun t ht => by cases ht
theorem g8G : Sm kn1 := .mk (by decide) (d1Z (c4t 1 (by decide)) (c4t 2 (by decide)))
theorem g8H : Sm kn2 := .mk (by decide) (d1Z g8G (.mk (by decide) fun t ht => by cases ht))
theorem g8I : Sm kn3 := .mk (by decide) (d1Z (c4t 1 (by decide)) (c4t 2 (by decide)))
theorem c0D {n : Int} {K : a7 → Hp → Prop} (h : K ⟨1, n, ⟨#[]⟩, ⟨none, 0, 0⟩⟩ H) : N1 n H K := b3u _ (by unfold a0R; exact h)
theorem d8A (hT : TabsH H) {K : Bool → Hp → Prop} (h : ∀ H', Hle H H' → K true H') : a2y H K := by
  refine b0V ?_
  unfold Y7
  refine c0D (c0D ?_)
  intro s1 H1 l1 hS1 _ s2 H2 l2 hS2 _
  have l12 := l1.trans l2
  have e1 : EH H2 ⟨6, 0, ⟨#[]⟩, s1⟩ kn1 := EH.node (hS1.le l2) (by simp [big]) ((v8.one (EH.leaf _ _ _ _)).app (v8.one (EH.leaf _ _ _ _)))
  have e2 : EH H2 ⟨8, 0, ⟨#[]⟩, s2⟩ kn2 := EH.node hS2 (by simp [big]) ((v8.one e1).app (v8.one (EH.leaf _ _ _ _)))
  refine d1X (hT.le l12) e2 g8H (fun y H3 l3 _ hy => ?_) fun H3 l3 q => (q e5G).elim
  rw [e5I] at hy
  have l13 := l12.trans l3
  refine c0D (c0D ?_)
  intro s4 H4 l4 hS4 _
  have l14 := l13.trans l4
  have e3 : CH H4 ⟨3, 1, s4, ⟨none, 0, 0⟩⟩ kn3 := CH.node hS4 (by simp [big]) ((v8.one (EH.leaf _ _ _ _)).app (v8.one (EH.leaf _ _ _ _))) (SlH.nil _ _ _) (Nat.zero_le _) v8.nil
  refine d1Y (hT.le l14) e3 g8I (fun c H5 l5 _ hc => ?_) fun H5 l5 q => (q e5H).elim
  rw [e5J] at hc
  have hy' := hy.le (l4.trans l5)
  obtain ⟨us, hu, hn⟩ := hy'.inv
  unfold eN at hu
  injection hu with hl hk
  injection hl with q1 q2 q3 q4
  obtain ⟨x, z, hx, hxa, _, _, hl2⟩ := c7x hy'
  obtain ⟨vs, hv, _⟩ := hxa.inv
  unfold eN at hv
  injection hv with hvl _
  injection hvl with w1 w2 _ _
  refine ⟨x, fun _ => ⟨by decide, by omega, hx⟩, x, fun _ => ⟨by decide, by omega, hx⟩, ?_⟩
  have hfin : (((((((decide ((0 : Int) = 0)) && (decide ((0 : Int) = 0))) && (decide (y.b9 = 8))) && (decide ((y.d8.n : Int) = 2))) && (decide (x.b9 = 1))) && (decide (x.g9 = 3))) && (decide (c.b9 = 1))) = true := by
    have c1 : c.b9 = 1 := hc.kind
    have n2 : (y.d8.n : Int) = 2 := by rw [hn, ← hk]; rfl
    simp [← q1, n2, ← w1, ← w2, c1]
  rw [hfin]
  exact h H5 (l14.trans l5)
theorem c4u (hT : TabsH H) {e : a7} {t : PT} (he : EH H e t) (hs : Sm t) {c : d5} {u : PT} (hc : CH H c u) (hu : Sm u) {K : Bool → Hp → Prop} (h : ∀ H', Hle H H' → K true H') : X5 e c H K := by
  refine a7L _ _ ?_
  unfold N6
  refine d8A hT fun H1 l1 => ⟨fun q => (by cases q), fun _ => ?_⟩
  have fin : ∀ (y z : a7) (f : Int) (H3 : Hp), Hle H H3 → (f = 0 → ∃ w, EH H3 y w ∧ EH H3 z w) → (f ≠ 0 → y = ⟨0, 0, ⟨#[]⟩, ⟨none, 0, 0⟩⟩) →
      a0d c H3 (fun (F9 : d5) (b7G : Int) (b5j : Hp) => a0g c b5j (fun (a6k : d5) (a2f : Int) (b3A : Hp) =>
        (((!decide (f = f)) || (!decide (b7G = a2f))) = true → K false b3A) ∧
        (((!decide (f = f)) || (!decide (b7G = a2f))) = false →
        TG ((decide (f = 0)) = true) (E4 y z b3A) false b3A (fun (a5H : Bool) (a3C : Hp) =>
        ((((decide (f = 0)) && (!a5H)) || ((!decide (f = 0)) && ((!decide (y.b9 = 0)) || (decide (0 < (y.d8.n : Int)))))) = true → K false a3C) ∧
        ((((decide (f = 0)) && (!a5H)) || ((!decide (f = 0)) && ((!decide (y.b9 = 0)) || (decide (0 < (y.d8.n : Int)))))) = false →
        TG ((decide (a2f = 0)) = true) (C5 F9 a6k a3C) false a3C (fun (a2F : Bool) (a4B : Hp) =>
        K (((decide (a2f = 0)) && a2F) || ((((!decide (a2f = 0)) && (decide (F9.b9 = 0))) && (decide ((F9.i7.n : Int) = 0))) && (decide ((F9.g5.n : Int) = 0)))) a4B)))))) := by
    intro y z f H3 l3 hf0 hf1
    have tail : ∀ (d b : d5) (g : Int) (H5 : Hp), Hle H3 H5 → (g = 0 → ∃ w, CH H5 d w ∧ CH H5 b w) → (g ≠ 0 → d = ⟨0, 0, ⟨none, 0, 0⟩, ⟨none, 0, 0⟩⟩) →
        (((!decide (f = f)) || (!decide (g = g))) = true → K false H5) ∧
        (((!decide (f = f)) || (!decide (g = g))) = false →
        TG ((decide (f = 0)) = true) (E4 y z H5) false H5 (fun (a5H : Bool) (a3C : Hp) =>
        ((((decide (f = 0)) && (!a5H)) || ((!decide (f = 0)) && ((!decide (y.b9 = 0)) || (decide (0 < (y.d8.n : Int)))))) = true → K false a3C) ∧
        ((((decide (f = 0)) && (!a5H)) || ((!decide (f = 0)) && ((!decide (y.b9 = 0)) || (decide (0 < (y.d8.n : Int)))))) = false →
        TG ((decide (g = 0)) = true) (C5 d b a3C) false a3C (fun (a2F : Bool) (a4B : Hp) =>
        K (((decide (g = 0)) && a2F) || ((((!decide (g = 0)) && (decide (d.b9 = 0))) && (decide ((d.i7.n : Int) = 0))) && (decide ((d.g5.n : Int) = 0)))) a4B)))) := by
      intro d b g H5 l5 hg0 hg1
      have l35 := l3.trans l5
      have last : TG ((decide (g = 0)) = true) (C5 d b H5) false H5 (fun (a2F : Bool) (a4B : Hp) =>
          K (((decide (g = 0)) && a2F) || ((((!decide (g = 0)) && (decide (d.b9 = 0))) && (decide ((d.i7.n : Int) = 0))) && (decide ((d.g5.n : Int) = 0)))) a4B) := by
        by_cases hg : g = 0
        · obtain ⟨w, h1, h2⟩ := hg0 hg
          refine ⟨fun _ => c9L h1 h2 ?_, fun n => (n (decide_eq_true hg)).elim⟩
          rw [b5E.2 rfl, decide_eq_true hg]; exact h H5 l35
        · refine ⟨fun q => (hg (of_decide_eq_true q)).elim, fun _ => ?_⟩
          rw [hg1 hg, decide_eq_false hg]; exact h H5 l35
      refine ⟨fun q => by simp at q, fun _ => ?_⟩
      by_cases hf : f = 0
      · obtain ⟨w, h1, h2⟩ := hf0 hf
        refine ⟨fun _ => b8U (h1.le l5) (h2.le l5) ?_, fun n => (n (decide_eq_true hf)).elim⟩
        rw [b5E.2 rfl, decide_eq_true hf]
        exact ⟨(fun q => by cases q), fun _ => last⟩
      · refine ⟨fun q => (hf (of_decide_eq_true q)).elim, fun _ => ?_⟩
        rw [hf1 hf, decide_eq_false hf]
        exact ⟨(fun q => by cases q), fun _ => last⟩
    refine d1Y (hT.le l3) (hc.le l3) hu (fun d H4 l4 q hd => ?_) fun H4 l4 q => ?_
    · refine c6A (hc.le (l3.trans l4)) hu (fun b H5 l5 _ hb => ?_) fun q' => (q' q).elim
      exact tail d b 0 H5 (l4.trans l5) (fun _ => ⟨_, hd.le l5, hb⟩) fun n => (n rfl).elim
    · refine c6A (hc.le (l3.trans l4)) hu (fun b H5 l5 q' _ => (q q').elim) fun _ => ?_
      exact tail _ _ _ H4 l4 (fun q' => (q q').elim) fun _ => rfl
  refine d1X (hT.le l1) (he.le l1) hs (fun y H2 l2 q hy => ?_) fun H2 l2 q => ?_
  · refine c6z (he.le (l1.trans l2)) hs (fun z H3 l3 _ hz => ?_) fun q' => (q' q).elim
    exact fin y z 0 H3 (l1.trans (l2.trans l3)) (fun _ => ⟨_, hy.le l3, hz⟩) fun n => (n rfl).elim
  · refine c6z (he.le (l1.trans l2)) hs (fun z H3 l3 q' _ => (q q').elim) fun _ => ?_
    exact fin _ _ _ H2 (l1.trans l2) (fun q' => (q q').elim) fun _ => rfl
end
end Go.Proofs.YtnhkdkcgdcgmdaaDoor
