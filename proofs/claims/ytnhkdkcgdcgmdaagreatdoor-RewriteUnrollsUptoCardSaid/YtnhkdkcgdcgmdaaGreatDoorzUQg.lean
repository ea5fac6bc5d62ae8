/- Folding of expressions: the program's and the document's answer the plain law's tree. Contracts off the printed formulas. -/
import Derived.Test.YtnhkdkcgdcgmdaaGreatDoorzUQf
namespace Go.Proofs.YtnhkdkcgdcgmdaaGreatDoor
open Go.RowKit
set_option maxRecDepth 100000
set_option maxHeartbeats 2000000
section
variable {H : Hp}
theorem e9n {α : Type} {l : List α} (h : l.length = 1) : ∃ a, l = [a] := by
  match l, h with
  | [a], _ => exact ⟨a, rfl⟩
theorem c7X {α : Type} {l : List α} (h : l.length = 2) : ∃ a b, l = [a, b] := by
  match l, h with
  | [a, b], _ => exact ⟨a, b, rfl⟩
theorem g6S (r : Int × Int) : ((decide (r.2 = 0)) && (!decide (r.1 = -9223372036854775808))) = (okR r).isSome := by
  unfold okR
  by_cases h1 : r.2 = 0
  · by_cases h2 : r.1 = -9223372036854775808
    · simp [h1, h2]
    · simp [h1, h2]
  · simp [h1]
theorem g6T {r : Int × Int} {v : Int} (h : okR r = some v) : r.1 = v := by
  unfold okR at h
  split at h
  · cases h; rfl
  · cases h
theorem tell {r : Int × Int} {o : Option Int} (e : o = okR r) {K : Int → Bool → Hp → Prop} (h1 : ∀ v, o = some v → K v true H) (h0 : o = none → ∀ v, K v false H) : K r.1 ((decide (r.2 = 0)) && (!decide (r.1 = -9223372036854775808))) H := by
  rw [g6S]
  cases hq : okR r with
  | none => exact h0 (e.trans hq) _
  | some v => rw [g6T hq]; exact h1 v (e.trans hq)
def argV (o : Option Int) : Int := o.getD 0
theorem b3X {t : PT} (h : Ar t) : N5 (argV (cst t)) := by
  unfold argV
  cases hq : cst t with
  | none => exact z64
  | some v => exact c6H h hq
theorem e3o {f : Int → Int → Option Int} {a b : Option Int} (ha : a ≠ none) (hb : b ≠ none) : two f a b = f (argV a) (argV b) := by
  cases a with
  | none => exact (ha rfl).elim
  | some x => cases b with
    | none => exact (hb rfl).elim
    | some y => rfl
theorem d0i {f : Int → Int → Option Int} {a b : Option Int} (h : a = none ∨ b = none) : two f a b = none := by
  rcases h with rfl | rfl
  · rfl
  · cases a <;> rfl
theorem f2E {k : Int} {cs : List PT} {t : PT} (h : t ∈ cs) (hc : cst t = none) : reck k cs = none := by
  unfold reck
  split
  · rw [List.mem_singleton.1 h] at hc
    split
    · exact d0i (.inl hc)
    · rfl
  · split
    · rcases List.mem_cons.1 h with e | h
      · exact d0i (.inl (e ▸ hc))
      · exact d0i (.inr (List.mem_singleton.1 h ▸ hc))
    · rfl
  · rfl
theorem f7w {k : Int} (cs : List PT) (h : k < 5) : reck k cs = none := by
  unfold reck
  split
  · rw [if_neg (by omega)]
  · rw [if_neg (by omega)]
  · rfl
theorem i4v {a : PT} (h : cst a ≠ none) : reck 5 [a] = okR (fit (-(argV (cst a)))) := by
  unfold reck
  show (if (5 : Int) = 5 then _ else _) = _
  rw [if_pos rfl, e3o h (by simp)]; rfl
theorem c6I {k : Int} {a b : PT} (hk : 6 ≤ k ∧ k ≤ 10) (h : cst a ≠ none) (h' : cst b ≠ none) : reck k [a, b] = okR (opS (k - 2) (argV (cst a)) (argV (cst b))) := by
  unfold reck
  show (if 6 ≤ k ∧ k ≤ 10 then _ else _) = _
  rw [if_pos hk, e3o h h']
theorem e2d {e : a8} {t : PT} (he : EH H e t) (ha : Ar t) {K : Int → Bool → Hp → Prop} (h1 : ∀ v, reck e.b6 t.kids = some v → K v true H) (h0 : reck e.b6 t.kids = none → ∀ v, K v false H) : a7p e H K := by
  refine b7O _ ?_
  obtain ⟨ts, rfl, hn⟩ := he.inv
  change ∀ v, reck e.b6 ts = some v → _ at h1
  change reck e.b6 ts = none → _ at h0
  have har : arE e.b6 ts.length ∧ ∀ t ∈ ts, Ar t := by cases ha; exact ⟨by assumption, by assumption⟩
  obtain ⟨⟨k1, k10, kl, k5, k6⟩, hat⟩ := har
  have hlen : ts.length ≤ 2 := by omega
  unfold a4s
  refine U4 (fun (z : Int × _) H' => 0 ≤ z.1 ∧ z.1 ≤ ts.length ∧ H' = H ∧ (∀ t ∈ ts.take z.1.toNat, cst t ≠ none) ∧ z.2.f0 = argV ((ts.take z.1.toNat)[0]?.bind cst) ∧ z.2.f1 = argV ((ts.take z.1.toNat)[1]?.bind cst)) (fun z => (ts.length - z.1).toNat) ⟨Int.le_refl _, by dsimp only; omega, rfl, (fun t ht => by simp at ht), rfl, rfl⟩ ?_
  rintro ⟨i, arr⟩ H1 next ⟨i0, i1, rfl, hc, e0, e1⟩ hk
  dsimp only at i0 i1 hc e0 e1 ⊢
  unfold a3u
  refine ⟨fun q => ?_, fun q => ?_⟩
  · obtain ⟨t, ht⟩ := D9 (l := ts) (i := i.toNat) (by omega)
    obtain ⟨x, hE, hx, hl⟩ := he.kid ht
    rw [show ((i.toNat : Nat) : Int) = i by omega] at hE hl
    have hmem := List.mem_of_getElem? ht
    refine ⟨i0, hl, x, hE, b9V hx (hat t hmem) ⟨fun c => ?_, fun c => ⟨i0, by omega, ?_⟩⟩⟩
    · have : cst t = none := by
        cases hq : cst t with
        | none => rfl
        | some v => rw [a9W hq] at c; cases c
      exact h0 (f2E hmem this) 0
    · have hs : cst t ≠ none := fun hq => by rw [b6M hq] at c; cases c
      have hv : (cstP t).1 = argV (cst t) := by unfold cstP argV; cases cst t <;> rfl
      rw [B5 i0 (by omega)]
      refine hk _ _ ⟨by dsimp only; omega, by dsimp only; omega, rfl, fun u hu => ?_, ?_, ?_⟩ (by dsimp only; omega)
      · dsimp only at hu
        rw [show (i + 1).toNat = i.toNat + 1 by omega, O2 ht] at hu
        rcases List.mem_append.1 hu with hu | hu
        · exact hc u hu
        · rw [List.mem_singleton.1 hu]; exact hs
      · dsimp only
        rw [show (i + 1).toNat = i.toNat + 1 by omega, O2 ht]
        rcases (by omega : i = 0 ∨ i = 1) with e | e
        · subst e; rw [if_pos rfl, hv]; simp
        · subst e
          rw [if_neg (by decide), e0, List.getElem?_append_left (by rw [List.length_take]; simp; have := C1 ht; simp at this; omega)]
      · dsimp only
        rw [show (i + 1).toNat = i.toNat + 1 by omega, O2 ht]
        rcases (by omega : i = 0 ∨ i = 1) with e | e
        · subst e; rw [if_neg (by decide), e1]; simp
        · subst e
          rw [if_pos rfl, hv, List.getElem?_append_right (by rw [List.length_take]; exact Nat.min_le_left 1 _), List.length_take]
          have := C1 ht
          simp at this
          rw [show min (1 : Int).toNat ts.length = 1 by simp; omega]; simp
  · rw [List.take_of_length_le (by omega)] at hc e0 e1
    unfold a3t E9
    have hN : ∀ c : e.b6 = 5, ∃ a, ts = [a] := fun c => e9n (k5 c)
    have hT : ∀ c : 6 ≤ e.b6, ∃ a b, ts = [a, b] := fun c => c7X (k6 c)
    refine ⟨fun c => ?_, fun c5 => ⟨fun c => ?_, fun c6 => ⟨fun c => ?_, fun c7 => ⟨fun c => ?_, fun c8 => ⟨fun c => ?_, fun c9 => ⟨fun c => ?_, fun c10 => ?_⟩⟩⟩⟩⟩⟩
    · obtain ⟨a, rfl⟩ := hN c
      have hs := hc a (by simp)
      refine ⟨Int.le_refl _, by decide, ?_⟩
      show b0g arr.f0 _ _
      rw [show arr.f0 = argV (cst a) from e0]
      refine e7F (b3X (hat a (by simp))) (tell ?_ h1 h0)
      rw [c, i4v hs]
    · obtain ⟨a, b, rfl⟩ := hT (by omega)
      refine ⟨Int.le_refl _, by decide, by decide, by decide, ?_⟩
      show b0h arr.f0 arr.f1 _ _
      rw [show arr.f0 = argV (cst a) from e0, show arr.f1 = argV (cst b) from e1]
      refine e7E (b3X (hat a (by simp))) (b3X (hat b (by simp))) (tell ?_ h1 h0)
      rw [c, c6I (by decide) (hc a (by simp)) (hc b (by simp))]; rfl
    · obtain ⟨a, b, rfl⟩ := hT (by omega)
      refine ⟨Int.le_refl _, by decide, by decide, by decide, ?_⟩
      show a7Z arr.f0 arr.f1 _ _
      rw [show arr.f0 = argV (cst a) from e0, show arr.f1 = argV (cst b) from e1]
      refine d1O (b3X (hat a (by simp))) (b3X (hat b (by simp))) (tell ?_ h1 h0)
      rw [c, c6I (by decide) (hc a (by simp)) (hc b (by simp))]; rfl
    · obtain ⟨a, b, rfl⟩ := hT (by omega)
      refine ⟨Int.le_refl _, by decide, by decide, by decide, ?_⟩
      show b0i arr.f0 arr.f1 _ _
      rw [show arr.f0 = argV (cst a) from e0, show arr.f1 = argV (cst b) from e1]
      refine e7G (b3X (hat a (by simp))) (b3X (hat b (by simp))) (tell ?_ h1 h0)
      rw [c, c6I (by decide) (hc a (by simp)) (hc b (by simp))]; rfl
    · obtain ⟨a, b, rfl⟩ := hT (by omega)
      refine ⟨Int.le_refl _, by decide, by decide, by decide, ?_⟩
      show b0j arr.f0 arr.f1 _ _
      rw [show arr.f0 = argV (cst a) from e0, show arr.f1 = argV (cst b) from e1]
      refine e7H (b3X (hat a (by simp))) (tell ?_ h1 h0)
      rw [c, c6I (by decide) (hc a (by simp)) (hc b (by simp))]; rfl
    · obtain ⟨a, b, rfl⟩ := hT (by omega)
      refine ⟨Int.le_refl _, by decide, by decide, by decide, ?_⟩
      show b0k arr.f0 arr.f1 _ _
      rw [show arr.f0 = argV (cst a) from e0, show arr.f1 = argV (cst b) from e1]
      refine e7I (tell ?_ h1 h0)
      rw [c, c6I (by decide) (hc a (by simp)) (hc b (by simp))]; rfl
    · exact h0 (f7w ts (by omega)) 0
end
def FoldsE (t : PT) : Prop := ∀ (H : Hp) (e : a8) (K : a8 → Hp → Prop), EH H e t → (∀ y H', Hle H H' → EH H' y (foldT t) → K y H') → a6P e H K
section
variable {H : Hp}
theorem d4s {s : Sl} {xs : List a8} {ts : List PT} (hs : SlH H 4 b8 s xs) (hb : xs.length ≤ big) (hr : u4 (EH H) xs ts) (ih : ∀ t ∈ ts, FoldsE t) {K : Sl → Hp → Prop}
    (h : ∀ s' ys H', Hle H H' → SlH H' 4 b8 s' ys → ys.length ≤ big → u4 (EH H') ys (ts.map foldT) → K s' H') : G4 s H K := by
  refine a4C _ ?_
  unfold G5
  have n1 := hs.1
  have hb' := hb
  simp only [big] at hb'
  refine U4 (fun (z : List a8 × Int) H' => 0 ≤ z.2 ∧ z.2 ≤ xs.length ∧ Hle H H' ∧ u4 (EH H') z.1 ((ts.take z.2.toNat).map foldT)) (fun z => (xs.length - z.2).toNat) ⟨Int.le_refl _, by dsimp only; omega, Hle.refl _, u4.nil⟩ ?_
  rintro ⟨cs, i⟩ H1 next ⟨i0, i1, l1, hcs⟩ hn
  dsimp only at i0 i1 l1 hcs ⊢
  unfold D3
  have hlen := hr.1
  have hcl : cs.length ≤ xs.length := by rw [hcs.1, List.length_map, List.length_take]; omega
  refine ⟨fun q => ?_, fun q => ?_⟩
  · obtain ⟨x, hx, hE⟩ := (hs.le l1).get i0 (by omega)
    obtain ⟨t, ht, hxt⟩ := hr.get hx
    refine ⟨i0, by omega, x, hE, ih t (List.mem_of_getElem? ht) H1 x _ (hxt.le l1) fun y H2 l2 hy => ⟨by simp only [List.length_cons, List.length_nil]; omega, ?_⟩⟩
    rw [B5 i0 (by omega)]
    refine hn _ _ ⟨by dsimp only; omega, by dsimp only; omega, l1.trans l2, ?_⟩ (by dsimp only; omega)
    dsimp only
    rw [show (i + 1).toNat = i.toNat + 1 by omega, O2 ht, List.map_append]
    exact (hcs.mono fun _ _ => EH.le l2).app (u4.one hy)
  · unfold D2
    intro s2 H2 l2 hS2 _
    rw [List.take_of_length_le (by omega)] at hcs
    exact h s2 cs H2 (l1.trans l2) hS2 (by omega) (hcs.mono fun _ _ => EH.le l2)
theorem f9H {e : a8} {k n : Int} {s : ByteArray} {a b : PT} (he : EH H e (eN k n s [a, b])) : ∃ x y, EltH H e.k9 0 4 (b8 x) ∧ EH H x a ∧ EltH H e.k9 1 4 (b8 y) ∧ EH H y b ∧ (1 : Int) < e.k9.n := by
  obtain ⟨x, h1, h2, _⟩ := he.kid (i := 0) rfl
  obtain ⟨y, h3, h4, h5⟩ := he.kid (i := 1) rfl
  exact ⟨x, y, h1, h2, h3, h4, h5⟩
theorem g6U {k n : Int} {s : ByteArray} {a b : PT} (hk : ¬ k = 6) (h7 : ¬ k = 7) (h8 : ¬ k = 8) (h9 : ¬ k = 9) : simpN k n s [a, b] = eN k n s [a, b] := by
  show (if k = 6 then _ else _) = _
  rw [if_neg hk, if_neg h7, if_neg h8, if_neg h9]
theorem g6V {k n : Int} {s : ByteArray} {cs : List PT} (h : cs.length < 2) : simpN k n s cs = eN k n s cs := by
  match cs, h with
  | [], _ => rfl
  | [a], _ => rfl
theorem e3p {t : PT} (ha : Ar t) : FoldsE t := by
  induction ha with
  | @mk k0 n0 s0 a0 cs har hn hc ih =>
    intro H e K he h
    refine c2p _ ?_
    unfold a6S
    rw [foldT, foldL, b7S] at h
    cases he with
    | @mk _ xs _ hs hb hl hr =>
      refine d4s hs hb ⟨hl, hr⟩ ih fun r ys H1 l1 hS hyb hrel => ?_
      have hlen : (cs.map foldT).length = cs.length := List.length_map ..
      have hac : ∀ t ∈ cs.map foldT, Ar t := fun t ht => by obtain ⟨u, hu, rfl⟩ := List.mem_map.1 ht; exact e3n (hc u hu)
      generalize hus : cs.map foldT = us at *
      have he' : EH H1 ⟨e.b6, e.o6, e.f6, r⟩ (eN e.b6 e.o6 e.f6 us) := EH.node hS hyb hrel
      have har' : arE e.b6 us.length := by rw [hlen]; exact har
      have ha' : Ar (eN e.b6 e.o6 e.f6 us) := .mk har' hn hac
      unfold foldN at h
      refine b9V he' ha' ⟨fun c => ?_, fun c => ?_⟩
      · cases hq : cst (eN e.b6 e.o6 e.f6 us) with
        | none => rw [b6M hq] at c; cases c
        | some v =>
          rw [hq] at h
          rw [a9W hq]
          exact e1D fun y H2 l2 hy => h y H2 (l1.trans l2) hy
      have hq : cst (eN e.b6 e.o6 e.f6 us) = none := by
        cases hq : cst (eN e.b6 e.o6 e.f6 us) with
        | none => rfl
        | some v => rw [a9W hq] at c; cases c
      rw [hq] at h
      dsimp only at h
      refine e2d he' ha' (fun v hv => ⟨fun _ => ?_, fun q => (by cases q)⟩) fun hv v => ⟨fun q => (by cases q), fun _ => ?_⟩
      · rw [show reck e.b6 us = some v from hv] at h
        exact e1D fun y H2 l2 hy => h y H2 (l1.trans l2) hy
      rw [show reck e.b6 us = none from hv] at h
      dsimp only at h
      have self : ∀ {K'} , K' = K → simpN e.b6 e.o6 e.f6 us = eN e.b6 e.o6 e.f6 us → K' ⟨e.b6, e.o6, e.f6, r⟩ H1 := fun hk hsn => by rw [hk]; exact h _ H1 l1 (by rw [hsn]; exact he')
      unfold a2O a0h a0g
      dsimp only
      by_cases hk6 : 6 ≤ e.b6
      · obtain ⟨a, b, rfl⟩ := c7X (har'.2.2.2.2 hk6)
        obtain ⟨x, y, hx, hxa, hy, hyb', hl2⟩ := f9H he'
        change EltH H1 r 0 4 _ at hx
        change EltH H1 r 1 4 _ at hy
        have hl2' : (1 : Int) < r.n := hl2
        have haa : Ar a := hac a (by simp)
        have hab : Ar b := hac b (by simp)
        refine ⟨fun c6 => ⟨Int.le_refl _, by omega, x, hx, c4r hxa haa ⟨fun q => ⟨by decide, hl2', y, hy, ?_⟩, fun q => ⟨by decide, hl2', y, hy, c4r hyb' hab ⟨fun q2 => ⟨Int.le_refl _, by omega, x, hx, ?_⟩, fun q2 => ?_⟩⟩⟩⟩,
          fun c6 => ⟨fun c7 => ⟨by decide, hl2', y, hy, c4r hyb' hab ⟨fun q2 => ⟨Int.le_refl _, by omega, x, hx, ?_⟩, fun q2 => ?_⟩⟩,
          fun c7 => ⟨fun c8 => ⟨Int.le_refl _, by omega, x, hx, c4r hxa haa ⟨y, fun _ => ⟨by decide, hl2', hy⟩, a8I (isV b 1) (fun _ K' hk => c4r hyb' hab hk) ?_⟩⟩,
          fun c8 => ⟨fun c9 => ⟨by decide, hl2', y, hy, c4r hyb' hab ⟨fun q2 => ⟨Int.le_refl _, by omega, x, hx, ?_⟩, fun q2 => ?_⟩⟩, fun c9 => ?_⟩⟩⟩⟩
        · refine h _ H1 l1 ?_
          show EH H1 y (if e.b6 = 6 then _ else _)
          rw [if_pos c6, if_pos q]; exact hyb'
        · refine h _ H1 l1 ?_
          show EH H1 x (if e.b6 = 6 then _ else _)
          rw [if_pos c6, if_neg (by rw [q]; decide), if_pos q2]; exact hxa
        · refine self rfl ?_
          show (if e.b6 = 6 then _ else _) = _
          rw [if_pos c6, if_neg (by rw [q]; decide), if_neg (by rw [q2]; decide)]
        · refine h _ H1 l1 ?_
          show EH H1 x (if e.b6 = 6 then _ else _)
          rw [if_neg c6, if_pos c7, if_pos q2]; exact hxa
        · refine self rfl ?_
          show (if e.b6 = 6 then _ else _) = _
          rw [if_neg c6, if_pos c7, if_neg (by rw [q2]; decide)]
        · have e8 : simpN e.b6 e.o6 e.f6 [a, b] = if (isV a 1 && !isV b 1) = true then b else if isV b 1 = true then a else eN e.b6 e.o6 e.f6 [a, b] := by
            show (if e.b6 = 6 then _ else _) = _
            rw [if_neg c6, if_neg c7, if_pos c8]
          have hb1 : (if isV a 1 = true then isV b 1 else false) = (isV a 1 && isV b 1) := by cases isV a 1 <;> rfl
          rw [hb1]
          refine ⟨fun q => ⟨by decide, hl2', y, hy, ?_⟩, fun q => ⟨by decide, hl2', y, hy, c4r hyb' hab ⟨fun q2 => ⟨Int.le_refl _, by omega, x, hx, ?_⟩, fun q2 => ?_⟩⟩⟩
          · refine h _ H1 l1 ?_
            rw [e8, if_pos (by revert q; cases isV a 1 <;> cases isV b 1 <;> simp)]; exact hyb'
          · refine h _ H1 l1 ?_
            rw [e8, if_neg (by revert q; rw [q2]; cases isV a 1 <;> simp), if_pos q2]; exact hxa
          · refine self rfl ?_
            rw [e8, if_neg (by revert q; rw [q2]; cases isV a 1 <;> simp), if_neg (by rw [q2]; decide)]
        · refine h _ H1 l1 ?_
          show EH H1 x (if e.b6 = 6 then _ else _)
          rw [if_neg c6, if_neg c7, if_neg c8, if_pos c9, if_pos q2]; exact hxa
        · refine self rfl ?_
          show (if e.b6 = 6 then _ else _) = _
          rw [if_neg c6, if_neg c7, if_neg c8, if_pos c9, if_neg (by rw [q2]; decide)]
        · exact self rfl (g6U c6 c7 c8 c9)
      · have hlo : simpN e.b6 e.o6 e.f6 us = eN e.b6 e.o6 e.f6 us := g6V (by have := har'.2.2.1; have := har'.2.2.2.1; omega)
        exact ⟨fun c => by omega, fun _ => ⟨fun c => by omega, fun _ => ⟨fun c => by omega, fun _ => ⟨fun c => by omega, fun _ => self rfl hlo⟩⟩⟩⟩
end
end Go.Proofs.YtnhkdkcgdcgmdaaGreatDoor
