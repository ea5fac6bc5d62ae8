/- Folding: the document's expressions, both's conditions; the law RewriteParts. Contracts off the printed formulas. -/
import Derived.Test.YtnhkdkcgdcgmdaaGreatDoorzFQg
namespace Go.Proofs.YtnhkdkcgdcgmdaaGreatDoor
open Go.RowKit
set_option maxRecDepth 100000
set_option maxHeartbeats 2000000
def RFoldsE (t : PT) : Prop := ∀ (H : Hp) (e : a8) (K : a8 → Hp → Prop), EH H e t → (∀ y H', Hle H H' → EH H' y (foldT t) → K y H') → a1L e H K
section
variable {H : Hp}
theorem stage {s : Sl} {g : Bool} {i j v : Int} {K : a8 → Hp → Prop} {Rest : Hp → Prop} {x y : a8} {tx : PT}
    (hx : g = true → (0 ≤ i ∧ i < (s.n : Int) ∧ EltH H s i 4 (b7 x)) ∧ EH H x tx ∧ Ar tx) (hy : g = true → isV tx v = true → (0 ≤ j ∧ j < (s.n : Int) ∧ EltH H s j 4 (b7 y)) ∧ K y H) (hr : (g && isV tx v) = false → Rest H) :
    ∃ x : a8, (g = true → (0 : Int) ≤ i ∧ i < (s.n : Int) ∧ EltH H s i 4 (b7 x)) ∧ TG (g = true) (z6 x v H) false H (fun r H1 => ((g && r) = true → (0 : Int) ≤ j ∧ j < (s.n : Int) ∧ ∃ y : a8, EltH H1 s j 4 (b7 y) ∧ K y H1) ∧ ((g && r) = false → Rest H1)) := by
  refine ⟨x, fun q => (hx q).1, fun q => j3s (hx q).2.1 (hx q).2.2 ⟨fun q2 => ?_, fun q2 => hr q2⟩, fun q => ⟨fun q2 => ?_, fun q2 => hr ?_⟩⟩
  · rw [q, Bool.true_and] at q2
    obtain ⟨⟨a, b, c⟩, d⟩ := hy q q2
    exact ⟨a, b, y, c, d⟩
  · rw [Bool.and_false] at q2; cases q2
  · cases g
    · rfl
    · exact (q rfl).elim
theorem f8g {e : a8} {us : List PT} (he : EH H e (eN e.b6 e.m8 e.g7 us)) (ha : ∀ t ∈ us, Ar t) (har : arE e.b6 us.length) (hrk : reck e.b6 us = none) (hk5 : 5 ≤ e.b6) {e6 e1 : a8} {K : a8 → Hp → Prop} (h : ∀ y, EH H y (simpN e.b6 e.m8 e.g7 us) → K y H) : T9 e e6 e1 H K := by
  unfold T9
  obtain ⟨k1, k10, _, k5, k6⟩ := har
  by_cases h5 : e.b6 = 5
  · have hsn : simpN e.b6 e.m8 e.g7 us = eN e.b6 e.m8 e.g7 us := d7L (by have := k5 h5; omega)
    have n6 : decide (e.b6 = 6) = false := decide_eq_false (by omega)
    have n7 : decide (e.b6 = 7) = false := decide_eq_false (by omega)
    have n8 : decide (e.b6 = 8) = false := decide_eq_false (by omega)
    have n9 : decide (e.b6 = 9) = false := decide_eq_false (by omega)
    rw [n6, n7, n8, n9]
    have z : ∀ {q : Prop}, (false = true) → q := fun q => by cases q
    refine stage (x := e) (y := e) (tx := eN 0 0 ⟨#[]⟩ []) z z fun _ => ?_
    refine stage (x := e) (y := e) (tx := eN 0 0 ⟨#[]⟩ []) z z fun _ => ?_
    refine stage (x := e) (y := e) (tx := eN 0 0 ⟨#[]⟩ []) z z fun _ => ?_
    refine stage (x := e) (y := e) (tx := eN 0 0 ⟨#[]⟩ []) z z fun _ => ?_
    refine stage (x := e) (y := e) (tx := eN 0 0 ⟨#[]⟩ []) z z fun _ => ?_
    exact h _ (by rw [hsn]; exact he)
  · obtain ⟨a, b, rfl⟩ := b6x (k6 (by omega))
    obtain ⟨x, y, hx, hxa, hy, hyb, hl2⟩ := d9L he
    have haa : Ar a := ha a (by simp)
    have hab : Ar b := ha b (by simp)
    have X : (0 ≤ (0 : Int) ∧ 0 < (e.i4.n : Int) ∧ EltH H e.i4 0 4 (b7 x)) ∧ EH H x a ∧ Ar a := ⟨⟨by decide, by omega, hx⟩, hxa, haa⟩
    have Y : (0 ≤ (1 : Int) ∧ 1 < (e.i4.n : Int) ∧ EltH H e.i4 1 4 (b7 y)) ∧ EH H y b ∧ Ar b := ⟨⟨by decide, hl2, hy⟩, hyb, hab⟩
    have hsp : simpN e.b6 e.m8 e.g7 [a, b] = if e.b6 = 6 then (if isV a 0 = true then b else if isV b 0 = true then a else eN e.b6 e.m8 e.g7 [a, b])
      else if e.b6 = 7 then (if isV b 0 = true then a else eN e.b6 e.m8 e.g7 [a, b])
      else if e.b6 = 8 then (if (isV a 1 && !isV b 1) = true then b else if isV b 1 = true then a else eN e.b6 e.m8 e.g7 [a, b])
      else if e.b6 = 9 then (if isV b 1 = true then a else eN e.b6 e.m8 e.g7 [a, b]) else eN e.b6 e.m8 e.g7 [a, b] := rfl
    have hx' : EH H x (simpN e.b6 e.m8 e.g7 [a, b]) → K x H := h x
    have hy' : EH H y (simpN e.b6 e.m8 e.g7 [a, b]) → K y H := h y
    have hboth : e.b6 = 6 → ¬ (isV a 0 = true ∧ isV b 0 = true) := by
      rintro c6 ⟨qa, qb⟩
      unfold isV at qa qb
      have qa' := of_decide_eq_true qa
      have qb' := of_decide_eq_true qb
      rw [c6, c2c (by decide) (by rw [qa']; simp) (by rw [qb']; simp), qa', qb'] at hrk
      revert hrk; decide
    refine stage (fun _ => Y) (fun q q2 => ⟨X.1, hx' ?_⟩) fun r1 => ?_
    · have c6 := of_decide_eq_true q
      rw [hsp, if_pos c6, if_neg (fun q3 => hboth c6 ⟨q3, q2⟩), if_pos q2]; exact hxa
    refine stage (fun _ => X) (fun q q2 => ⟨Y.1, hy' ?_⟩) fun r2 => ?_
    · rw [hsp, if_pos (of_decide_eq_true q), if_pos q2]; exact hyb
    refine stage (fun _ => Y) (fun q q2 => ⟨X.1, hx' ?_⟩) fun r3 => ?_
    · have c7 := of_decide_eq_true q
      rw [hsp, if_neg (by omega), if_pos c7, if_pos q2]; exact hxa
    refine stage (fun _ => Y) (fun q q2 => ⟨X.1, hx' ?_⟩) fun r4 => ?_
    · simp only [Bool.or_eq_true, decide_eq_true_eq] at q
      rw [hsp, if_neg (by omega), if_neg (by omega)]
      rcases q with c8 | c9
      · rw [if_pos c8, if_neg (by rw [q2]; simp), if_pos q2]; exact hxa
      · rw [if_neg (by omega), if_pos c9, if_pos q2]; exact hxa
    refine stage (fun _ => X) (fun q q2 => ⟨Y.1, hy' ?_⟩) fun r5 => ?_
    · have c8 := of_decide_eq_true q
      have : isV b 1 = false := by rw [decide_eq_true c8, Bool.true_or, Bool.true_and] at r4; exact r4
      rw [hsp, if_neg (by omega), if_neg (by omega), if_pos c8, if_pos (by rw [q2, this]; rfl)]; exact hyb
    refine h e ?_
    rw [hsp]
    by_cases c6 : e.b6 = 6
    · rw [decide_eq_true c6, Bool.true_and] at r1 r2
      rw [if_pos c6, if_neg (by rw [r2]; decide), if_neg (by rw [r1]; decide)]; exact he
    · rw [if_neg c6]
      by_cases c7 : e.b6 = 7
      · rw [decide_eq_true c7, Bool.true_and] at r3
        rw [if_pos c7, if_neg (by rw [r3]; decide)]; exact he
      · rw [if_neg c7]
        by_cases c8 : e.b6 = 8
        · rw [decide_eq_true c8] at r4 r5
          rw [Bool.true_or, Bool.true_and] at r4
          rw [Bool.true_and] at r5
          rw [if_pos c8, if_neg (by rw [r5]; simp), if_neg (by rw [r4]; decide)]; exact he
        · rw [if_neg c8]
          by_cases c9 : e.b6 = 9
          · rw [decide_eq_true c9, Bool.or_true, Bool.true_and] at r4
            rw [if_pos c9, if_neg (by rw [r4]; decide)]; exact he
          · rw [if_neg c9]; exact he
theorem c2d (t : PT) : (cstP t).2 = true ↔ cst t ≠ none := by
  unfold cstP; cases cst t <;> simp
theorem b0U (t : PT) : (cstP t).1 = argV (cst t) := by unfold cstP argV; cases cst t <;> rfl
theorem d8f {t : PT} (ha : Ar t) : RFoldsE t := by
  induction ha with
  | @mk k0 n0 s0 a0 cs har hn hc ih =>
    intro H e K he h
    refine b9Q _ ?_
    unfold a4v
    rw [foldT, foldL, b3v] at h
    cases he with
    | @mk _ xs _ hs hb hl hr =>
      have n1 := hs.1
      have hb' := hb
      simp only [big] at hb'
      refine Y6 (fun (z : Int × Int × Int × ByteArray × List a8 × a8) H' => 0 ≤ z.1 ∧ z.1 ≤ xs.length ∧ Hle H H' ∧ z.2.1 = e.b6 ∧ z.2.2.1 = e.m8 ∧ z.2.2.2.1 = e.g7 ∧ u6 (EH H') z.2.2.2.2.1 ((cs.take z.1.toNat).map foldT)) (fun z => (xs.length - z.1).toNat) ⟨Int.le_refl _, by dsimp only; omega, Hle.refl _, rfl, rfl, rfl, u6.nil⟩ ?_
      rintro ⟨i, a0, a1, a2, ys, e6⟩ H1 next ⟨i0, i1, l1, rfl, rfl, rfl, hcs⟩ hk
      dsimp only at i0 i1 l1 hcs ⊢
      unfold a2Z
      have hcl : ys.length ≤ xs.length := by rw [hcs.1, List.length_map, List.length_take]; omega
      refine ⟨fun q => ?_, fun q => ?_⟩
      · obtain ⟨x, hx, hE⟩ := (hs.le l1).get i0 (by omega)
        obtain ⟨t, ht⟩ := C5 (l := cs) (i := i.toNat) (by have := C0 hx; omega)
        have hxt := hr _ x t hx ht
        refine ⟨i0, by omega, x, hE, ih t (List.mem_of_getElem? ht) H1 x _ (hxt.le l1) fun y H2 l2 hy => ⟨by simp only [List.length_cons, List.length_nil]; omega, ?_⟩⟩
        rw [B9 i0 (by omega)]
        refine hk _ _ ⟨by dsimp only; omega, by dsimp only; omega, l1.trans l2, rfl, rfl, rfl, ?_⟩ (by dsimp only; omega)
        dsimp only
        rw [show (i + 1).toNat = i.toNat + 1 by omega, N3 ht, List.map_append]
        exact (hcs.mono fun _ _ => EH.le l2).app (u6.one hy)
      · unfold a2Y
        intro r H2 l2 hS _
        rw [List.take_of_length_le (by omega)] at hcs
        have hlen : (cs.map foldT).length = cs.length := List.length_map ..
        have hac : ∀ t ∈ cs.map foldT, Ar t := fun t ht => by obtain ⟨u, hu, rfl⟩ := List.mem_map.1 ht; exact d1l (hc u hu)
        generalize hus : cs.map foldT = us at *
        have l12 := l1.trans l2
        have he' : EH H2 ⟨e.b6, e.m8, e.g7, r⟩ (eN e.b6 e.m8 e.g7 us) := EH.node hS (by omega) (hcs.mono fun _ _ => EH.le l2)
        have har' : arE e.b6 us.length := by rw [hlen]; exact har
        have ha' : Ar (eN e.b6 e.m8 e.g7 us) := .mk har' hn hac
        have hrn : (r.n : Int) = us.length := by have := hS.1; have := hcs.1; omega
        unfold foldN at h
        refine b2X he' ha' ⟨fun c => ?_, fun c => ?_⟩
        · cases hq : cst (eN e.b6 e.m8 e.g7 us) with
          | none => rw [b5r hq] at c; cases c
          | some v =>
            rw [hq] at h
            rw [a4i hq]
            exact d8e fun y H3 l3 hy => h y H3 (l12.trans l3) hy
        have hq : cst (eN e.b6 e.m8 e.g7 us) = none := by
          cases hq : cst (eN e.b6 e.m8 e.g7 us) with
          | none => rfl
          | some v => rw [a4i hq] at c; cases c
        rw [hq] at h
        dsimp only at h
        refine ⟨fun c5 => ?_, fun c5 => ?_⟩
        · rw [e5I us c5] at h
          dsimp only at h
          rw [d7L (by have := har'.2.2.1 c5; omega)] at h
          exact h _ H2 l12 he'
        · have fin : ∀ {v w : Int} {all : Bool}, (all = true → (v, w) = (argV ((us[0]?).bind cst), argV ((us[1]?).bind cst)) ∧ reck e.b6 us = okR (opS (e.b6 - 2) v w) ∧ A8 v ∧ A8 w) → (all = false → reck e.b6 us = none) → U0 v all w ⟨e.b6, e.m8, e.g7, r⟩ e6 e H2 K := by
            intro v w all hy hno
            unfold U0
            refine ⟨fun q => ?_, fun q => ?_⟩
            · obtain ⟨_, e1, v1, w1⟩ := hy q
              dsimp only
              rw [show e.b6 = (e.b6 - 2) + 2 by omega]
              refine f7x (by omega) (by have := har'.2.1; omega) v1 w1 ?_
              rw [e7A, ← e1]
              refine ⟨fun q2 => ?_, fun q2 => ?_⟩
              · cases hv : reck e.b6 us with
                | none => rw [hv] at q2; cases q2
                | some x =>
                  rw [hv] at h
                  rw [e7B (e1.symm.trans hv)]
                  exact d8e fun y H3 l3 hy => h y H3 (l12.trans l3) hy
              · have hv : reck e.b6 us = none := by
                  cases hv : reck e.b6 us with
                  | none => rfl
                  | some x => rw [hv] at q2; cases q2
                rw [hv] at h
                rw [show (e.b6 - 2) + 2 = e.b6 by omega]
                exact f8g he' hac har' hv (show 5 ≤ e.b6 by omega) fun y hy => h y H2 l12 hy
            · have hv := hno q
              rw [hv] at h
              exact f8g he' hac har' hv (show 5 ≤ e.b6 by omega) fun y hy => h y H2 l12 hy
          by_cases h5 : e.b6 = 5
          · obtain ⟨a, rfl⟩ := d5X (har'.2.2.2.1 h5)
            obtain ⟨x, hx, hxa, hl1⟩ := he'.kid (i := 0) rfl
            have haa := hac a (by simp)
            refine ⟨Int.le_refl _, hl1, x, hx, b2X hxa haa ⟨fun q2 => ?_, fun _ => ?_⟩⟩
            · simp at hrn; omega
            · refine fin (fun q => ?_) fun q => ?_
              · have hs := (c2d a).1 q
                refine ⟨by rw [b0U]; rfl, ?_, by rw [b0U]; exact b0T haa, z64⟩
                rw [h5, f8f hs, b0U]; rfl
              · refine c3m (List.mem_singleton_self a) ?_
                cases hz : cst a with
                | none => rfl
                | some v => rw [a4i hz] at q; cases q
          · obtain ⟨a, b, rfl⟩ := b6x (har'.2.2.2.2 (by omega))
            obtain ⟨x, y, hx, hxa, hy, hyb, hl2⟩ := d9L he'
            have haa := hac a (by simp)
            have hab := hac b (by simp)
            have hl2' : (1 : Int) < r.n := hl2
            refine ⟨Int.le_refl _, by omega, x, hx, b2X hxa haa ⟨fun q2 => ⟨by decide, hl2', y, hy, b2X hyb hab ?_⟩, fun q2 => ?_⟩⟩
            · refine fin (fun q => ?_) fun q => ?_
              · rw [Bool.and_eq_true] at q
                have hs := (c2d a).1 q.1
                have hs' := (c2d b).1 q.2
                refine ⟨by rw [b0U, b0U]; rfl, ?_, by rw [b0U]; exact b0T haa, by rw [b0U]; exact b0T hab⟩
                rw [c2c ⟨by omega, har'.2.1⟩ hs hs', b0U, b0U]
              · by_cases qa : (cstP a).2 = true
                · rw [qa, Bool.true_and] at q
                  refine c3m (t := b) (by simp) ?_
                  cases hz : cst b with
                  | none => rfl
                  | some v => rw [a4i hz] at q; cases q
                · refine c3m (t := a) (by simp) ?_
                  cases hz : cst a with
                  | none => rfl
                  | some v => rw [a4i hz] at qa; exact (qa rfl).elim
            · simp at hrn; omega
end
end Go.Proofs.YtnhkdkcgdcgmdaaGreatDoor
