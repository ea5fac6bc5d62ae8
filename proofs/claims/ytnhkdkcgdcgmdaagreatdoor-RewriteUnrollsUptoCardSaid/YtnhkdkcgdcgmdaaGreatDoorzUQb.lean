/- Unrolling: the document's, which lays as many nodes as there is room for; the law RewriteUnrolls. Contracts off the printed formulas. -/
import Derived.Test.YtnhkdkcgdcgmdaaGreatDoorzUQa
namespace Go.Proofs.YtnhkdkcgdcgmdaaGreatDoor
open Go.RowKit
set_option maxRecDepth 100000
set_option maxHeartbeats 2000000
def Good (s : W) (L : Int) : Prop := wok s ∧ s.fbad = 0 ∧ L = 4096 - s.fn
def Laid (L L' : Int) (r full : List PT) : Prop := ∀ (d : Int) (s : W), Good s L → wTs r d s = wTs full d s ∧ ((wTs full d s).fbad = 0 → r = full ∧ L' = 4096 - (wTs full d s).fn)
theorem Laid.nil (L : Int) : Laid L L [] [] := fun d s g => ⟨rfl, fun _ => ⟨rfl, by rw [wTs]; exact g.2.2⟩⟩
theorem Laid.stop {L : Int} (h : L < 0) (L' : Int) (r full : List PT) : Laid L L' r full := fun d s g => by
  have := g.1.2
  have := g.2.2
  omega
theorem Laid.app {L L1 L2 : Int} {a a' b b' : List PT} (h1 : Laid L L1 a a') (h2 : Laid L1 L2 b b') : Laid L L2 (a ++ b) (a' ++ b') := by
  intro d s g
  obtain ⟨e1, k1⟩ := h1 d s g
  rw [a8F, a8F, e1]
  by_cases hb : (wTs a' d s).fbad = 0
  · obtain ⟨ea, eL⟩ := k1 hb
    obtain ⟨e2, k2⟩ := h2 d _ ⟨b4J a' d s g.1, hb, eL⟩
    refine ⟨e2, fun hf => ?_⟩
    obtain ⟨eb, eL2⟩ := k2 hf
    exact ⟨by rw [ea, eb], eL2⟩
  · rw [a3m _ _ _ hb, a3m _ _ _ hb]
    exact ⟨rfl, fun hf => (hb hf).elim⟩
theorem Laid.node {L L' : Int} {l l' : Lab} {r full : List PT} (h : Laid (L - 1) L' r full) (hl : r = full → l = l') : Laid L L' [.mk l r] [.mk l' full] := by
  intro d s g
  rw [wTs, wTs, wTs, wTs, wT, wT]
  by_cases hb : (wStep s d).fbad = 0
  · have hfn : (wStep s d).fn = s.fn + 1 := by
      unfold wStep at hb ⊢
      rw [if_pos g.2.1] at hb ⊢
      split at hb
      · cases hb
      · rename_i h2
        rw [if_neg h2]
        split at hb
        · cases hb
        · rename_i h3
          rw [if_neg h3]
    obtain ⟨e1, k1⟩ := h (d + 1) (wStep s d) ⟨b9t g.1, hb, by rw [hfn]; have := g.2.2; omega⟩
    refine ⟨e1, fun hf => ?_⟩
    obtain ⟨e2, e3⟩ := k1 hf
    exact ⟨by rw [hl e2, e2], e3⟩
  · rw [a3m _ _ _ hb, a3m _ _ _ hb]
    exact ⟨rfl, fun hf => (hb hf).elim⟩
theorem Laid.full (L : Int) (ts : List PT) : Laid L (L - cTs ts) ts ts := fun d s g => ⟨rfl, fun hf => ⟨rfl, by rw [c7Z _ _ _ hf]; have := g.2.2; omega⟩⟩
theorem Laid.rest {L L1 : Int} {a a' b : List PT} (h1 : Laid L L1 a a') (hL : L1 < 0) : Laid L L1 a (a' ++ b) := by
  have := h1.app (Laid.stop hL L1 [] b)
  rwa [List.append_nil] at this
def CntE (t : PT) : Prop := ∀ (H : Hp) (e : a8) (K : Int → Hp → Prop), EH H e t → K (cT t) H → a1u e H K
def CntC (t : PT) : Prop := ∀ (H : Hp) (e : b7) (K : Int → Hp → Prop), CH H e t → K (cT t) H → a2d e H K
theorem c6N {ts : List PT} {i : Nat} {t : PT} (h : ts[i]? = some t) : cTs (ts.take (i + 1)) = cTs (ts.take i) + cT t := by rw [O2 h, a9U, cTs, cTs, Nat.add_zero]
theorem cntE {t : PT} (ht : Tr t) : cT t ≤ a4f → CntE t := by
  induction ht with
  | @mk l cs _ ih =>
    intro hc H e K he h
    refine b7s _ ?_
    unfold a3Y
    rw [cT] at hc h
    simp only [a4f] at hc
    cases he with
    | @mk _ xs _ hs hb hl hr =>
      have n1 := hs.1
      have lc := a7P cs
      refine U4 (fun (z : Int × Int) H' => 0 ≤ z.2 ∧ z.2 ≤ xs.length ∧ H' = H ∧ z.1 = 1 + (cTs (cs.take z.2.toNat) : Int)) (fun z => (xs.length - z.2).toNat) ⟨Int.le_refl _, by dsimp only; omega, rfl, by simp [cTs]⟩ ?_
      rintro ⟨a, i⟩ H1 next ⟨i0, i1, rfl, ea⟩ hk
      dsimp only at i0 i1 ea ⊢
      unfold a2K
      refine ⟨fun q => ?_, fun q => ?_⟩
      · obtain ⟨x, hx, hE⟩ := hs.get i0 q
        obtain ⟨t, ht⟩ := D9 (l := cs) (i := i.toNat) (by have := C1 hx; omega)
        have hm := List.mem_of_getElem? ht
        have hcm := b1P hm
        have hat := c6N ht
        have htk := b9X cs (i.toNat + 1)
        refine ⟨i0, q, x, hE, ih t hm (by simp only [a4f]; omega) H1 x _ (hr _ x t hx ht) ?_⟩
        rw [B5 i0 (by omega), O9 (a := a + (cT t : Int)) ⟨by omega, by omega⟩]
        refine hk _ _ ⟨by dsimp only; omega, by dsimp only; omega, rfl, ?_⟩ (by dsimp only; omega)
        dsimp only
        rw [show (i + 1).toNat = i.toNat + 1 by omega, hat]; omega
      · unfold a2J
        rw [List.take_of_length_le (by omega)] at ea
        rw [ea]
        rw [show ((1 + cTs cs : Nat) : Int) = 1 + (cTs cs : Int) by omega] at h
        exact h
theorem cntC {t : PT} (ht : Tr t) : cT t ≤ a4f → CntC t := by
  induction ht with
  | @mk l cs _ ih =>
    intro hc H e K he h
    refine b4W _ ?_
    unfold a2h
    rw [cT] at hc h
    simp only [a4f] at hc
    cases he with
    | @mk _ xs ts ys us hs hb hr hcs hcb hcl hcr =>
      have n1 := hs.1
      have n2 := hcs.1
      have hlen := hr.1
      rw [a9U] at hc h
      have lt' := a7P ts
      have lu := a7P us
      refine U4 (fun (z : Int × Int) H' => 0 ≤ z.2 ∧ z.2 ≤ xs.length ∧ H' = H ∧ z.1 = 1 + (cTs (ts.take z.2.toNat) : Int)) (fun z => (xs.length - z.2).toNat) ⟨Int.le_refl _, by dsimp only; omega, rfl, by simp [cTs]⟩ ?_
      rintro ⟨a, i⟩ H1 next ⟨i0, i1, rfl, ea⟩ hk
      dsimp only at i0 i1 ea ⊢
      unfold a0q
      refine ⟨fun q => ?_, fun q => ?_⟩
      · obtain ⟨x, hx, hE⟩ := hs.get i0 q
        obtain ⟨t, ht, hxt⟩ := hr.get hx
        have hm := List.mem_of_getElem? ht
        have hcm := b1P hm
        have hat := c6N ht
        have htk := b9X ts (i.toNat + 1)
        refine ⟨i0, q, x, hE, cntE (tr t) (by simp only [a4f]; omega) H1 x _ hxt ?_⟩
        rw [B5 i0 (by omega), O9 (a := a + (cT t : Int)) ⟨by omega, by omega⟩]
        refine hk _ _ ⟨by dsimp only; omega, by dsimp only; omega, rfl, ?_⟩ (by dsimp only; omega)
        dsimp only
        rw [show (i + 1).toNat = i.toNat + 1 by omega, hat]; omega
      · rw [List.take_of_length_le (by omega)] at ea
        clear hk next
        unfold a0p
        refine U4 (fun (z : Int × Int) H' => 0 ≤ z.2 ∧ z.2 ≤ ys.length ∧ H' = H1 ∧ z.1 = 1 + (cTs ts : Int) + (cTs (us.take z.2.toNat) : Int)) (fun z => (ys.length - z.2).toNat) ⟨Int.le_refl _, by dsimp only; omega, rfl, by simp [cTs, ea]⟩ ?_
        rintro ⟨b, j⟩ H2 next ⟨j0, j1, rfl, eb⟩ hk
        dsimp only at j0 j1 eb ⊢
        unfold a0o
        refine ⟨fun q2 => ?_, fun q2 => ?_⟩
        · obtain ⟨x, hx, hE⟩ := hcs.get j0 q2
          obtain ⟨t, ht⟩ := D9 (l := us) (i := j.toNat) (by have := C1 hx; omega)
          have hm := List.mem_of_getElem? ht
          have hcm := b1P hm
          have hat := c6N ht
          have htk := b9X us (j.toNat + 1)
          refine ⟨j0, q2, x, hE, ih t (List.mem_append_right _ hm) (by simp only [a4f]; omega) H2 x _ (hcr _ x t hx ht) ?_⟩
          rw [B5 j0 (by omega), O9 (a := b + (cT t : Int)) ⟨by omega, by omega⟩]
          refine hk _ _ ⟨by dsimp only; omega, by dsimp only; omega, rfl, ?_⟩ (by dsimp only; omega)
          dsimp only
          rw [show (j + 1).toNat = j.toNat + 1 by omega, hat]; omega
        · unfold a0m
          rw [List.take_of_length_le (by omega)] at eb
          rw [eb]
          rw [show ((1 + (cTs ts + cTs us) : Nat) : Int) = 1 + (cTs ts : Int) + (cTs us : Int) by omega] at h
          exact h
def RCopE (t : PT) : Prop := ∀ (H : Hp) (e : a8) (K : a8 → Hp → Prop), EH H e t → (∀ y H', Hle H H' → EH H' y t → K y H') → a0d e H K
def RCopC (t : PT) : Prop := ∀ (H : Hp) (e : b7) (K : b7 → Hp → Prop), CH H e t → (∀ y H', Hle H H' → CH H' y t → K y H') → a3f e H K
theorem rcopE {t : PT} (ht : Tr t) : RCopE t := by
  induction ht with
  | @mk l cs _ ih =>
    intro H e K he h
    refine b6f _ ?_
    unfold a3z
    cases he with
    | @mk _ xs _ hs hb hl hr =>
      have n1 := hs.1
      have hb' := hb
      simp only [big] at hb'
      refine U4 (fun (z : Int × Int × Int × ByteArray × List a8 × a8) H' => 0 ≤ z.1 ∧ z.1 ≤ xs.length ∧ Hle H H' ∧ z.2.1 = e.b6 ∧ z.2.2.1 = e.o6 ∧ z.2.2.2.1 = e.f6 ∧ u4 (EH H') z.2.2.2.2.1 (cs.take z.1.toNat)) (fun z => (xs.length - z.1).toNat) ⟨Int.le_refl _, by dsimp only; omega, Hle.refl _, rfl, rfl, rfl, u4.nil⟩ ?_
      rintro ⟨i, a0, a1, a2, ys, e6⟩ H1 next ⟨i0, i1, l1, e0, e1, e2, hcs⟩ hk
      dsimp only at i0 i1 l1 e0 e1 e2 hcs ⊢
      subst e0; subst e1; subst e2
      unfold a1H
      have hcl : ys.length ≤ xs.length := by rw [hcs.1, List.length_take]; omega
      refine ⟨fun q => ?_, fun q => ?_⟩
      · obtain ⟨x, hx, hE⟩ := (hs.le l1).get i0 (by omega)
        obtain ⟨t, ht⟩ := D9 (l := cs) (i := i.toNat) (by have := C1 hx; omega)
        refine ⟨i0, by omega, x, hE, ih t (List.mem_of_getElem? ht) H1 x _ ((hr _ x t hx ht).le l1) fun y H2 l2 hy => ⟨by simp only [List.length_cons, List.length_nil]; omega, ?_⟩⟩
        rw [B5 i0 (by omega)]
        refine hk _ _ ⟨by dsimp only; omega, by dsimp only; omega, l1.trans l2, rfl, rfl, rfl, ?_⟩ (by dsimp only; omega)
        dsimp only
        rw [show (i + 1).toNat = i.toNat + 1 by omega, O2 ht]
        exact (hcs.mono fun _ _ => EH.le l2).app (u4.one hy)
      · unfold a1G
        intro r H2 l2 hS _
        rw [List.take_of_length_le (by omega)] at hcs
        exact h _ H2 (l1.trans l2) (EH.node hS (by omega) (hcs.mono fun _ _ => EH.le l2))
theorem rcopC {t : PT} (ht : Tr t) : RCopC t := by
  induction ht with
  | @mk l cs _ ih =>
    intro H e K he h
    refine b6g _ ?_
    unfold a3A
    cases he with
    | @mk _ xs es ys ps hs hb hr hc hcb hcl hcr =>
      have n1 := hs.1
      have n2 := hc.1
      have hb' := hb
      have hcb' := hcb
      simp only [big] at hb' hcb'
      have hlen := hr.1
      refine U4 (fun (z : Int × Int × Int × List a8 × List b7 × b7) H' => 0 ≤ z.1 ∧ z.1 ≤ xs.length ∧ Hle H H' ∧ z.2.1 = e.b6 ∧ z.2.2.1 = e.fOp ∧ u4 (EH H') z.2.2.2.1 (es.take z.1.toNat) ∧ z.2.2.2.2.1 = []) (fun z => (xs.length - z.1).toNat) ⟨Int.le_refl _, by dsimp only; omega, Hle.refl _, rfl, rfl, u4.nil, rfl⟩ ?_
      rintro ⟨i, a0, a1, xs1, ys0, e6⟩ H1 next ⟨i0, i1, l1, e0, e1, hcs, e2⟩ hk
      dsimp only at i0 i1 l1 e0 e1 hcs e2 ⊢
      subst e0; subst e1; subst e2
      unfold a1L
      have hcl1 : xs1.length ≤ xs.length := by rw [hcs.1, List.length_take]; omega
      refine ⟨fun q => ?_, fun q => ?_⟩
      · obtain ⟨x, hx, hE⟩ := (hs.le l1).get i0 (by omega)
        obtain ⟨t, ht, hxt⟩ := hr.get hx
        refine ⟨i0, by omega, x, hE, rcopE (tr t) H1 x _ (hxt.le l1) fun y H2 l2 hy => ⟨by simp only [List.length_cons, List.length_nil]; omega, ?_⟩⟩
        rw [B5 i0 (by omega)]
        refine hk _ _ ⟨by dsimp only; omega, by dsimp only; omega, l1.trans l2, rfl, rfl, ?_, rfl⟩ (by dsimp only; omega)
        dsimp only
        rw [show (i + 1).toNat = i.toNat + 1 by omega, O2 ht]
        exact (hcs.mono fun _ _ => EH.le l2).app (u4.one hy)
      · rw [List.take_of_length_le (by omega)] at hcs
        clear hk next
        unfold a1K
        refine U4 (fun (z : Int × Int × Int × List b7 × b7) H' => 0 ≤ z.1 ∧ z.1 ≤ ys.length ∧ Hle H1 H' ∧ z.2.1 = e.b6 ∧ z.2.2.1 = e.fOp ∧ u4 (CH H') z.2.2.2.1 (ps.take z.1.toNat)) (fun z => (ys.length - z.1).toNat) ⟨Int.le_refl _, by dsimp only; omega, Hle.refl _, rfl, rfl, u4.nil⟩ ?_
        rintro ⟨j, a0, a1, ys1, e7⟩ H2 next ⟨j0, j1, l2, e0, e1, hds⟩ hk
        dsimp only at j0 j1 l2 e0 e1 hds ⊢
        subst e0; subst e1
        have l12 := l1.trans l2
        unfold a1J
        have hcl2 : ys1.length ≤ ys.length := by rw [hds.1, List.length_take]; omega
        refine ⟨fun q2 => ?_, fun q2 => ?_⟩
        · obtain ⟨x, hx, hE⟩ := (hc.le l12).get j0 (by omega)
          obtain ⟨t, ht⟩ := D9 (l := ps) (i := j.toNat) (by have := C1 hx; omega)
          refine ⟨j0, by omega, x, hE, ih t (List.mem_append_right _ (List.mem_of_getElem? ht)) H2 x _ ((hcr _ x t hx ht).le l12) fun y H3 l3 hy => ⟨by simp only [List.length_cons, List.length_nil]; omega, ?_⟩⟩
          rw [B5 j0 (by omega)]
          refine hk _ _ ⟨by dsimp only; omega, by dsimp only; omega, l2.trans l3, rfl, rfl, ?_⟩ (by dsimp only; omega)
          dsimp only
          rw [show (j + 1).toNat = j.toNat + 1 by omega, O2 ht]
          exact (hds.mono fun _ _ => CH.le l3).app (u4.one hy)
        · rw [List.take_of_length_le (by omega)] at hds
          unfold a1I
          intro s3 H3 l3 hS3 _ s4 H4 l4 hS4 _
          have l34 := l3.trans l4
          exact h _ H4 (l12.trans l34) (CH.node (hS3.le l4) (by omega) (hcs.mono fun _ _ => EH.le (l2.trans l34)) hS4 (by omega) (hds.mono fun _ _ => CH.le l34))
end Go.Proofs.YtnhkdkcgdcgmdaaGreatDoor
