/- One step more, another script: what is told of a program's runs; outcomes held against each other. RunOn's law. -/
import Derived.Test.YtnhkdkcgdcgmdaaDoorzNNl
import Derived.Test.YtnhkdkcgdcgmdaaDoorzNN5
namespace Go.Proofs.YtnhkdkcgdcgmdaaDoor
open Go.RowKit
set_option maxRecDepth 100000
set_option maxHeartbeats 4000000
structure OnL (q : PP) (scr : List Int) (k : Nat) (a b : Oc) : Prop where
  ev : ∃ l, b.events = a.events ++ l
  s1 : a.steps ≤ b.steps
  s2 : b.steps ≤ a.steps + 1
  s3 : a.steps ≤ k
  s0 : 0 ≤ a.steps
  same : a.st ≠ 1 → b = a
  run : a.st = 1 → a.steps = k
  wr : a.st ≠ 3 → a.wr = 0
  ins : ∃ rest, scr = insE a.events ++ rest ∧ (rest ≠ [] → ∀ y, runQ q (scr.dropLast ++ [y]) k = a)
theorem e0g (l : List F7) : (insE l).length ≤ l.length := by unfold insE; rw [List.length_map]; exact List.length_filter_le _ _
theorem g1n {q : PP} {scr : List Int} {k : Nat} (hw : (wellS q).2 = 0) (ha : ∀ t ∈ q.body, ArS t ∧ formT t = true) (hs : ∀ x ∈ scr, m4 x) : OnL q scr k (runQ q scr k) (runQ q scr (k + 1)) := by
  have hnm := c1i hw
  have hok := d1R hw hs k
  have hcm : Cm ((vD q.decls).map (·.1)) ((aD q.decls).map (·.1)) (fun _ => True) (seqM (q.body.map rnT)) := a9F fun m hm => by
    obtain ⟨t, ht, rfl⟩ := List.mem_map.1 hm
    exact cmS (ha t ht).1 (ha t ht).2 (hnm.mem ht)
  have hsafe := hcm.safe _ hok
  have hlat := hcm.later _ hok
  have hsim := hcm.sim _ hok
  have hsafe2 := hcm.safe _ (b9G hok)
  have hchg := fun y => hcm.chg (y := y) _ hok
  have hup : s0 q.decls scr (k + 1) = upS (s0 q.decls scr k) := rfl
  unfold runQ
  rw [hup]
  have hrun : ∀ y, runQ q (scr.dropLast ++ [y]) k = ocS (endS (seqM (q.body.map rnT) (chg y (s0 q.decls scr k)))) := fun y => rfl
  generalize seqM (q.body.map rnT) = m at *
  generalize hst : s0 q.decls scr k = σ0 at *
  have e0 : σ0.events = [] ∧ σ0.script = scr ∧ σ0.left = k ∧ σ0.steps = 0 := by rw [← hst]; exact ⟨rfl, rfl, rfl, rfl⟩
  obtain ⟨e1, e2, e3, e4⟩ := e0
  cases hm : m σ0 with
  | ok u σ1 =>
    rw [hm] at hsafe hlat hsim hchg
    rw [show m (upS σ0) = .ok u (upS σ1) from hsim]
    have hp := hsafe.2.1
    obtain ⟨_, l, l2, l3⟩ := hlat
    have l2' : σ1.events = l := by rw [show σ1.events = (fin (Rs.ok u σ1)).events from rfl, l2, e1]; rfl
    refine ⟨⟨[], by rw [List.append_nil]; rfl⟩, Int.le_refl _, by show σ1.steps ≤ σ1.steps + 1; omega, ?_, hp.pos, fun _ => rfl, (fun h => by cases h), fun _ => rfl, σ1.script, ?_, fun hr y => ?_⟩
    · have := hp.sum
      show σ1.steps ≤ k
      omega
    · show scr = insE σ1.events ++ σ1.script
      rw [l2', ← e2]; exact l3
    · rw [hrun y, hchg y hr]; rfl
  | stop x y σ1 =>
    rw [hm] at hsafe hlat hsim hchg
    obtain ⟨hp, hl, he⟩ := hsafe
    obtain ⟨_, l, l2, l3⟩ := hlat
    have l2' : σ1.events = l := by rw [show σ1.events = (fin (Rs.stop (α := Unit) x y σ1)).events from rfl, l2, e1]; rfl
    have hins : ∃ rest, scr = insE σ1.events ++ rest ∧ (rest ≠ [] → ∀ z, runQ q (scr.dropLast ++ [z]) k = ocS (x, y, σ1)) := by
      refine ⟨σ1.script, ?_, fun hr z => ?_⟩
      · rw [l2', ← e2]; exact l3
      · rw [hrun z, hchg z hr]; rfl
    have hsum := hp.sum
    by_cases hx : x = 1
    · have h1 := hsim.1 hx
      have hleft : σ1.left = 0 ∧ y = 0 := by
        rcases he with h | h | h
        · omega
        · omega
        · exact ⟨h.2.2, h.2.1⟩
      obtain ⟨b1, l', b2, _⟩ := h1
      have hb3 : (fin (m (upS σ0))).steps ≤ k + 1 := by
        cases hm2 : m (upS σ0) with
        | ok u σ2 => rw [hm2] at hsafe2; have := hsafe2.2.1.sum; show σ2.steps ≤ k + 1; omega
        | stop x2 y2 σ2 => rw [hm2] at hsafe2; have := hsafe2.1.sum; show σ2.steps ≤ k + 1; omega
      have hfin : (ocS (endS (m (upS σ0)))).events = (fin (m (upS σ0))).events ∧ (ocS (endS (m (upS σ0)))).steps = (fin (m (upS σ0))).steps := by
        cases m (upS σ0) <;> exact ⟨rfl, rfl⟩
      refine ⟨⟨l', by rw [hfin.1]; exact b2⟩, by rw [hfin.2]; exact b1, ?_, ?_, hp.pos, fun h => (h hx).elim, fun _ => ?_, fun _ => hleft.2, hins⟩
      · rw [hfin.2]; show _ ≤ σ1.steps + 1; omega
      · show σ1.steps ≤ k; omega
      · show σ1.steps = k; omega
    · rw [hsim.2 hx]
      refine ⟨⟨[], by rw [List.append_nil]; rfl⟩, Int.le_refl _, by show σ1.steps ≤ σ1.steps + 1; omega, by show σ1.steps ≤ k; omega, hp.pos, fun _ => rfl, fun h => (hx h).elim, fun h3 => ?_, hins⟩
      rcases he with h | h | h
      · exact h.2
      · exact (h3 h.1).elim
      · exact (hx h.1).elim
section
variable {H : Hp}
theorem d5k {s s' : Sl} {xs l : List F7} (h : SlH H 3 B3 s (xs ++ l)) (h' : SlH H 3 B3 s' xs) (hb : xs.length ≤ big) {K : Bool → Hp → Prop} (hK : K true H) : a0R s s' H K := by
  refine a7G _ _ ?_
  unfold V0
  have n1 := h.1; have n2 := h'.1
  rw [List.length_append] at n1
  simp only [big] at hb
  refine ⟨fun hne => by omega, fun _ => ?_⟩
  refine a1Y (fun (i : Int) H' => 0 ≤ i ∧ i ≤ xs.length ∧ H' = H) (fun i => (xs.length - i).toNat) ⟨Int.le_refl _, by omega, rfl⟩ ?_
  rintro i H1 next ⟨i0, i1, rfl⟩ hn
  unfold R5
  refine ⟨fun hc => ?_, fun hc => ?_⟩
  · obtain ⟨y, hy, hF⟩ := h'.get i0 hc
    obtain ⟨x, hx, hE⟩ := h.get i0 (show i < (s.n : Int) by omega)
    rw [List.getElem?_append_left (C5 hy), hy] at hx
    cases hx
    refine ⟨i0, by omega, y, hE, i0, hc, y, hF, fun hne => (hne ⟨rfl, rfl, rfl⟩).elim, fun _ => ?_⟩
    rw [L3 i0 (by omega)]
    exact hn _ _ ⟨by omega, by omega, rfl⟩ (by omega)
  · unfold R4
    exact hK
end
end Go.Proofs.YtnhkdkcgdcgmdaaDoor
namespace Go.Proofs.YtnhkdkcgdcgmdaaDoor
open Go.RowKit
set_option maxRecDepth 100000
set_option maxHeartbeats 4000000
theorem c7d {y : Int} : ∀ {l : List Int}, l ≠ [] → l.set (l.length - 1) y = l.dropLast ++ [y]
  | [], h => (h rfl).elim
  | [_], _ => rfl
  | a :: b :: l, _ => by
    have ih := c7d (y := y) (l := b :: l) (fun e => by cases e)
    show (a :: b :: l).set (l.length + 1) y = a :: ((b :: l).dropLast ++ [y])
    rw [← ih]
    rfl
theorem c8x {l : List F7} {i : Nat} {x : F7} (h : l[i]? = some x) : insE (l.take (i + 1)) = insE (l.take i) ++ (if x.a0Z = true then [x.C4] else []) := by
  rw [U5 h, b7V]
  congr 1
  unfold insE
  by_cases c : x.a0Z = true <;> simp [c]
theorem e7g {l : List F7} {i : Nat} {x : F7} (h : l[i]? = some x) (c : x.a0Z = true) : (insE l)[(insE (l.take i)).length]? = some x.C4 := by
  have h1 : insE l = insE (l.take (i + 1)) ++ insE (l.drop (i + 1)) := by rw [← b7V, List.take_append_drop]
  rw [h1, c8x h, if_pos c, List.append_assoc, List.getElem?_append_right (Nat.le_refl _), Nat.sub_self]
  rfl
section
variable {H : Hp}
theorem e0h (hT : TabsH H) {p : r9} {q : PP} (hp : PH H p q) (hsm : q.Sm) {sc : Sl} {scr : List Int} (hsc : SlH H 1 ci sc scr) (hcap : sc.n ≤ sc.c) (hin : ∀ x ∈ scr, m4 x) {k more : Int} (hmore : m4 more) {K : Bool → Hp → Prop} (h : ∀ H', Hle H H' → K true H') : V8 p sc k more H K := by
  refine a8i _ _ _ _ ?_
  unfold W5
  refine d5j hT fun H1 l1 => ⟨(fun q => by cases q), fun _ => ⟨fun _ => h H1 l1, fun hn => ?_⟩⟩
  have hln := hsc.1
  have hb : 0 ≤ k ∧ k ≤ 2000 ∧ sc.n ≤ 2000 := by simp at hn; omega
  clear hn
  have hw1 : IntKind.wrap .i64 (k + 1) = k + 1 := b0Y _ (by omega) (by omega)
  have herr : errR q scr (k + 1) = errR q scr k := by
    unfold errR
    by_cases c : (wellS q).2 ≠ 0
    · rw [if_pos c, if_pos c]
    · rw [if_neg c, if_neg c, if_neg (by omega), if_neg (by omega)]
  rw [hw1]
  refine b5j (hT.le l1) (hp.le l1) hsm (hsc.le l1) hcap hin (k := k) (fun hne H2 l2 => ?_) fun he o H2 l2 ho => ?_
  · have l12 := l1.trans l2
    refine b5j (hT.le l12) (hp.le l12) hsm (hsc.le l12) hcap hin (k := k + 1) (fun hne2 H3 l3 => ?_) fun he2 => (hne (herr.symm.trans he2)).elim
    rw [herr]
    exact ⟨fun _ => by rw [decide_eq_true rfl]; exact h H3 (l12.trans l3), fun q => (hne q).elim⟩
  · have l12 := l1.trans l2
    have hw : (wellS q).2 = 0 := by
      unfold errR at he
      by_cases c : (wellS q).2 ≠ 0
      · rw [if_pos c] at he; exact he
      · exact Decidable.not_not.1 c
    have hars := (PH.ars (hp.le l12) hsm ((a9W q).1 hw).1).1
    have hbd := hp.bd
    have hkb : k.toNat ≤ big := by simp only [big]; omega
    have hsm1 := e0f hbd hkb hw hars hin
    have hon := g1n (k := k.toNat) hw hars hin
    refine b5j (hT.le l12) (hp.le l12) hsm (hsc.le l12) hcap hin (k := k + 1) (fun hne2 => (hne2 (herr.trans he)).elim) fun he2 o' H3 l3 ho' => ?_
    have l13 := l12.trans l3
    rw [show (k + 1).toNat = k.toNat + 1 by omega] at ho'
    have ho3 := ho.le l3
    generalize hra : runQ q scr k.toNat = a at ho ho3 hon hsm1
    generalize runQ q scr (k.toNat + 1) = b at ho' hon
    obtain ⟨⟨lev, hev⟩, s1, s2, s3, s0', same, run, wr, rest, hins, hchg⟩ := hon
    refine ⟨fun q => (q rfl).elim, fun _ => ?_⟩
    refine a6Y true (fun _ K' hk => d5k (by rw [← hev]; exact ho'.2.2.2.1) ho3.2.2.2.1 hsm1.1 hk) ?_
    have f1 := ho3.2.2.1
    have f2 := ho'.2.2.1
    have d1 : decide (o'.q9 < o.q9) = false := decide_eq_false (by omega)
    have d2 : decide (IntKind.wrap .i64 (o.q9 + 1) < o'.q9) = false := by
      rw [b0Y _ (by omega) (by omega)]
      exact decide_eq_false (by omega)
    have d3 : decide (k < o.q9) = false := decide_eq_false (by omega)
    rw [d1, d2, d3]
    refine ⟨fun q => by simp at q, fun _ => ?_⟩
    have hst := ho3.1
    refine a6Y true (fun hq K' hk => b9D ho3 (by rw [← same (by rw [← hst]; simpa using hq)]; exact ho') hsm1 hk) ?_
    have g1 : ((!decide (o.q8 = 1)) && (!(if (!decide (o.q8 = 1)) = true then true else false))) = false := by
      by_cases c : o.q8 = 1 <;> simp [c]
    rw [g1]
    refine ⟨(fun q => by cases q), fun _ => ?_⟩
    have hwr := ho3.2.1
    have g2 : (((decide (o.q8 = 1)) && (!decide (o.q9 = k))) || ((!decide (o.q8 = 3)) && (!decide (o.O0 = 0)))) = false := by
      rw [Bool.or_eq_false_iff]
      constructor
      · by_cases c : o.q8 = 1
        · have := run (by rw [← hst]; exact c)
          rw [decide_eq_true (show o.q9 = k by omega)]; simp
        · rw [decide_eq_false c]; rfl
      · by_cases c : o.q8 = 3
        · rw [decide_eq_true c]; rfl
        · have := wr (by rw [← hst]; exact c)
          rw [decide_eq_true (show o.O0 = 0 by omega)]; simp
    rw [g2]
    refine ⟨(fun q => by cases q), fun _ => ?_⟩
    have hevs := ho3.2.2.2.1
    have hen := hevs.1
    have hsm2 := hsm1.1
    simp only [big] at hsm2
    have hsc3 := hsc.le l13
    have htk : ∀ i, (insE (a.events.take i)).length ≤ a.events.length := fun i => Nat.le_trans (e0g _) (by rw [List.length_take]; omega)
    refine a1Y (fun (s : Int × Int) H' => 0 ≤ s.2 ∧ s.2 ≤ a.events.length ∧ s.1 = ((insE (a.events.take s.2.toNat)).length : Int) ∧ H' = H3) (fun s => (a.events.length - s.2).toNat) ⟨Int.le_refl _, by omega, rfl, rfl⟩ ?_
    rintro ⟨tk, i⟩ H4 next ⟨i0, i1, ht, rfl⟩ hn
    dsimp only at i0 i1 ht
    unfold K0
    refine ⟨fun hc => ?_, fun hc => ?_⟩
    · obtain ⟨x, hx, hE⟩ := hevs.get i0 hc
      have hat := c8x hx
      have hti := htk i.toNat
      refine ⟨i0, hc, x, hE, fun hI => ?_, fun hI => ?_⟩
      · have hv : scr[(insE (a.events.take i.toNat)).length]? = some x.C4 := by
          have h1 := e7g hx hI
          rw [hins, List.getElem?_append_left (C5 h1)]
          exact h1
        have hlt := C5 hv
        have hel := hsc3.2 _ _ hv
        rw [← ht] at hel
        refine ⟨x.C4, fun _ => ⟨by omega, by omega, hel⟩, fun q => ?_, fun _ => ?_⟩
        · rw [decide_eq_false (show ¬ (sc.n : Int) ≤ tk by omega)] at q; simp at q
        · unfold J9
          rw [L3 i0 (by omega), L3 (by omega) (by omega)]
          refine hn _ _ ⟨by dsimp only; omega, by dsimp only; omega, ?_, rfl⟩ (by dsimp only; omega)
          dsimp only
          rw [show (i + 1).toNat = i.toNat + 1 by omega, hat, if_pos hI, List.length_append, ht]
          rfl
      · unfold J9
        rw [L3 i0 (by omega)]
        refine hn _ _ ⟨by dsimp only; omega, by dsimp only; omega, ?_, rfl⟩ (by dsimp only; omega)
        dsimp only
        rw [show (i + 1).toNat = i.toNat + 1 by omega, hat, if_neg (by rw [hI]; decide), List.append_nil, ht]
    · unfold T1
      have hie : i.toNat = a.events.length := by omega
      rw [hie, List.take_length] at ht
      refine ⟨fun _ => h H4 l13, fun hne => ?_⟩
      have hrest : rest ≠ [] := by
        intro e
        rw [e, List.append_nil] at hins
        apply hne
        rw [ht, ← hins, hln]
      have hlen : scr.length ≠ 0 := by
        intro e
        have : scr = [] := List.length_eq_zero_iff.1 e
        rw [this] at hins
        have := (List.append_eq_nil_iff.1 hins.symm).2
        exact hrest this
      have hw2 : IntKind.wrap .i64 ((scr.length : Int) - 1) = (scr.length : Int) - 1 := b0Y _ (by omega) (by omega)
      have hnil : scr ≠ [] := fun e => hlen (by rw [e]; rfl)
      obtain ⟨xl, hxl⟩ := t7 (l := scr) (i := scr.length - 1) (by omega)
      refine ⟨scr, hsc3, by show (0 + scr.length) * 9 ≤ _; omega, by rw [hw2]; omega, xl, by rw [hw2, show ((scr.length : Int) - 1).toNat = scr.length - 1 by omega]; exact hxl, ?_⟩
      intro s5 H5 l5 h5 hc5
      rw [hw2, show ((scr.length : Int) - 1).toNat = scr.length - 1 by omega, c7d hnil] at h5
      have l15 := l13.trans l5
      have hl2 : (scr.dropLast ++ [more]).length = scr.length := by rw [List.length_append, List.length_dropLast, List.length_singleton]; omega
      have he3 : errR q (scr.dropLast ++ [more]) k = 0 := e1q hw hb.1 (by omega) (by omega)
      refine b5j (hT.le l15) (hp.le l15) hsm (show SlH H5 1 ci s5 _ from h5) hc5 (fun x hx => ?_) (k := k) (fun hne3 => (hne3 he3).elim) fun _ o6 H6 l6 ho6 => ?_
      · rcases List.mem_append.1 hx with hx | hx
        · exact hin x (List.dropLast_subset _ hx)
        · rw [List.mem_singleton.1 hx]; exact hmore
      · rw [hchg hrest] at ho6
        refine a6Y true (fun _ K' hk => b9D (ho3.le (l5.trans l6)) ho6 hsm1 hk) ?_
        exact h H6 (l15.trans l6)
theorem d5l (hT : TabsH H) {p : r9} {q : PP} (hp : PH H p q) (hsm : q.Sm) {sc : Sl} {scr : List Int} (hsc : SlH H 1 ci sc scr) (hcap : sc.n ≤ sc.c) (hin : ∀ x ∈ scr, m4 x) {k more : Int} (_ : m4 k) (hmore : m4 more) {K : Bool → Hp → Prop} (h : ∀ H', Hle H H' → K true H') : V8 p sc k more H K := e0h hT hp hsm hsc hcap hin hmore h
end
end Go.Proofs.YtnhkdkcgdcgmdaaDoor
