/- Copies of trees: the program's and the document's. Contracts off the printed formulas. -/
import Derived.Test.YtnhkdkcgdcgmdaaGreatDoorzUQu
import Derived.Test.YtnhkdkcgdcgmdaaGreatDoorzUV1x
namespace Go.Proofs.YtnhkdkcgdcgmdaaGreatDoor
open Go.RowKit
set_option maxRecDepth 100000
set_option maxHeartbeats 2000000
inductive Tr : PT → Prop
  | mk {l : Lab} {cs : List PT} : (∀ t ∈ cs, Tr t) → Tr (.mk l cs)
mutual
theorem tr : ∀ t : PT, Tr t
  | .mk l cs => .mk (trs cs)
theorem trs : ∀ (ts : List PT) (t : PT), t ∈ ts → Tr t
  | [], t, h => by cases h
  | x :: ts, t, h => by
    cases List.mem_cons.1 h with
    | inl e => rw [e]; exact tr x
    | inr h => exact trs ts t h
end
def CopE (t : PT) : Prop := ∀ (H : Hp) (e : a8) (K : a8 → Hp → Prop), EH H e t → (∀ y H', Hle H H' → EH H' y t → K y H') → a9f e H K
def CopC (t : PT) : Prop := ∀ (H : Hp) (e : b7) (K : b7 → Hp → Prop), CH H e t → (∀ y H', Hle H H' → CH H' y t → K y H') → a9g e H K
def CopS (t : PT) : Prop := ∀ (H : Hp) (e : d6) (K : d6 → Hp → Prop), SH H e t → (∀ y H', Hle H H' → SH H' y t → K y H') → a9h e H K
section
variable {H : Hp}
theorem c4x {s : Sl} {xs : List a8} {ts : List PT} (hs : SlH H 4 b8 s xs) (hb : xs.length ≤ big) (hr : u4 (EH H) xs ts) (ih : ∀ t ∈ ts, CopE t) {K : Sl → Hp → Prop}
    (h : ∀ s' ys H', Hle H H' → SlH H' 4 b8 s' ys → ys.length ≤ big → u4 (EH H') ys ts → K s' H') : B6 s H K := by
  refine a5l _ ?_
  unfold I2
  have n1 := hs.1
  have hb' := hb
  simp only [big] at hb'
  have hlen := hr.1
  refine U4 (fun (z : List a8 × Int) H' => 0 ≤ z.2 ∧ z.2 ≤ xs.length ∧ Hle H H' ∧ u4 (EH H') z.1 (ts.take z.2.toNat)) (fun z => (xs.length - z.2).toNat) ⟨Int.le_refl _, by dsimp only; omega, Hle.refl _, u4.nil⟩ ?_
  rintro ⟨cs, i⟩ H1 next ⟨i0, i1, l1, hcs⟩ hn
  dsimp only at i0 i1 l1 hcs ⊢
  unfold E3
  have hcl : cs.length ≤ xs.length := by rw [hcs.1, List.length_take]; omega
  refine ⟨fun q => ?_, fun q => ?_⟩
  · obtain ⟨x, hx, hE⟩ := (hs.le l1).get i0 (by omega)
    obtain ⟨t, ht, hxt⟩ := hr.get hx
    refine ⟨i0, by omega, x, hE, ih t (List.mem_of_getElem? ht) H1 x _ (hxt.le l1) fun y H2 l2 hy => ⟨by simp only [List.length_cons, List.length_nil]; omega, ?_⟩⟩
    rw [B5 i0 (by omega)]
    refine hn _ _ ⟨by dsimp only; omega, by dsimp only; omega, l1.trans l2, ?_⟩ (by dsimp only; omega)
    dsimp only
    rw [show (i + 1).toNat = i.toNat + 1 by omega, O2 ht]
    exact (hcs.mono fun _ _ => EH.le l2).app (u4.one hy)
  · unfold E2
    intro s2 H2 l2 hS2 _
    rw [List.take_of_length_le (by omega)] at hcs
    exact h s2 cs H2 (l1.trans l2) hS2 (by omega) (hcs.mono fun _ _ => EH.le l2)
theorem copE {t : PT} (ht : Tr t) : CopE t := by
  induction ht with
  | @mk l cs _ ih =>
    intro H e K he h
    refine c1z _ ?_
    unfold a6B
    cases he with
    | @mk _ xs _ hs hb hl hr =>
      refine c4x hs hb ⟨hl, hr⟩ ih fun s1 ys H1 l1 hS1 hb1 hr1 => ?_
      exact h _ H1 l1 (EH.mk (e := ⟨e.b6, e.o6, e.f6, s1⟩) hS1 hb1 hr1.1 hr1.2)
theorem d2I {s : Sl} {xs : List b7} {ts : List PT} (hs : SlH H 4 d8 s xs) (hb : xs.length ≤ big) (hr : u4 (CH H) xs ts) (ih : ∀ t ∈ ts, CopC t) {K : Sl → Hp → Prop}
    (h : ∀ s' ys H', Hle H H' → SlH H' 4 d8 s' ys → ys.length ≤ big → u4 (CH H') ys ts → K s' H') : G9 s H K := by
  refine a5m _ ?_
  unfold I3
  have n1 := hs.1
  have hb' := hb
  simp only [big] at hb'
  have hlen := hr.1
  refine U4 (fun (z : List b7 × Int) H' => 0 ≤ z.2 ∧ z.2 ≤ xs.length ∧ Hle H H' ∧ u4 (CH H') z.1 (ts.take z.2.toNat)) (fun z => (xs.length - z.2).toNat) ⟨Int.le_refl _, by dsimp only; omega, Hle.refl _, u4.nil⟩ ?_
  rintro ⟨cs, i⟩ H1 next ⟨i0, i1, l1, hcs⟩ hn
  dsimp only at i0 i1 l1 hcs ⊢
  unfold E5
  have hcl : cs.length ≤ xs.length := by rw [hcs.1, List.length_take]; omega
  refine ⟨fun q => ?_, fun q => ?_⟩
  · obtain ⟨x, hx, hE⟩ := (hs.le l1).get i0 (by omega)
    obtain ⟨t, ht, hxt⟩ := hr.get hx
    refine ⟨i0, by omega, x, hE, ih t (List.mem_of_getElem? ht) H1 x _ (hxt.le l1) fun y H2 l2 hy => ⟨by simp only [List.length_cons, List.length_nil]; omega, ?_⟩⟩
    rw [B5 i0 (by omega)]
    refine hn _ _ ⟨by dsimp only; omega, by dsimp only; omega, l1.trans l2, ?_⟩ (by dsimp only; omega)
    dsimp only
    rw [show (i + 1).toNat = i.toNat + 1 by omega, O2 ht]
    exact (hcs.mono fun _ _ => CH.le l2).app (u4.one hy)
  · unfold E4
    intro s2 H2 l2 hS2 _
    rw [List.take_of_length_le (by omega)] at hcs
    exact h s2 cs H2 (l1.trans l2) hS2 (by omega) (hcs.mono fun _ _ => CH.le l2)
theorem copC {t : PT} (ht : Tr t) : CopC t := by
  induction ht with
  | @mk l cs hk ih =>
    intro H e K he h
    refine c1A _ ?_
    unfold a6C
    cases he with
    | @mk _ xs ts ys us hs hb hr hc hcb hcl hcr =>
      refine c4x hs hb hr (fun t _ => copE (tr t)) fun s1 xs1 H1 l1 hS1 hb1 hr1 => ?_
      refine d2I (hc.le l1) hcb ⟨hcl, fun i x t a b => CH.le l1 (hcr i x t a b)⟩ (fun t ht => ih t (List.mem_append_right _ ht)) fun s2 ys2 H2 l2 hS2 hb2 hr2 => ?_
      exact h _ H2 (l1.trans l2) (CH.mk (c := ⟨e.b6, e.fOp, s1, s2⟩) (hS1.le l2) hb1 (hr1.mono fun _ _ => EH.le l2) hS2 hb2 hr2.1 hr2.2)
theorem c4y {s : Sl} {xs : List d6} {ts : List PT} (hs : SlH H 6 d9 s xs) (hb : xs.length ≤ big) (hr : u4 (SH H) xs ts) (ih : ∀ t ∈ ts, CopS t) {K : Sl → Hp → Prop}
    (h : ∀ s' ys H', Hle H H' → SlH H' 6 d9 s' ys → ys.length ≤ big → u4 (SH H') ys ts → K s' H') : B7 s H K := by
  refine a5n _ ?_
  unfold I4
  have n1 := hs.1
  have hb' := hb
  simp only [big] at hb'
  have hlen := hr.1
  refine U4 (fun (z : List d6 × Int) H' => 0 ≤ z.2 ∧ z.2 ≤ xs.length ∧ Hle H H' ∧ u4 (SH H') z.1 (ts.take z.2.toNat)) (fun z => (xs.length - z.2).toNat) ⟨Int.le_refl _, by dsimp only; omega, Hle.refl _, u4.nil⟩ ?_
  rintro ⟨cs, i⟩ H1 next ⟨i0, i1, l1, hcs⟩ hn
  dsimp only at i0 i1 l1 hcs ⊢
  unfold E7
  have hcl : cs.length ≤ xs.length := by rw [hcs.1, List.length_take]; omega
  refine ⟨fun q => ?_, fun q => ?_⟩
  · obtain ⟨x, hx, hE⟩ := (hs.le l1).get i0 (by omega)
    obtain ⟨t, ht, hxt⟩ := hr.get hx
    refine ⟨i0, by omega, x, hE, ih t (List.mem_of_getElem? ht) H1 x _ (hxt.le l1) fun y H2 l2 hy => ⟨by simp only [List.length_cons, List.length_nil]; omega, ?_⟩⟩
    rw [B5 i0 (by omega)]
    refine hn _ _ ⟨by dsimp only; omega, by dsimp only; omega, l1.trans l2, ?_⟩ (by dsimp only; omega)
    dsimp only
    rw [show (i + 1).toNat = i.toNat + 1 by omega, O2 ht]
    exact (hcs.mono fun _ _ => SH.le l2).app (u4.one hy)
  · unfold E6
    intro s2 H2 l2 hS2 _
    rw [List.take_of_length_le (by omega)] at hcs
    exact h s2 cs H2 (l1.trans l2) hS2 (by omega) (hcs.mono fun _ _ => SH.le l2)
theorem copS {t : PT} (ht : Tr t) : CopS t := by
  induction ht with
  | @mk l cs hk ih =>
    intro H e K he h
    refine c1B _ ?_
    unfold a6D
    cases he with
    | @mk _ xs ts ys us zs bs vs ws hs hb hr hc hcb hcr ha hab hal har hbs hbb hbl hbr =>
      refine c4x hs hb hr (fun t _ => copE (tr t)) fun s1 xs1 H1 l1 hS1 hb1 hr1 => ?_
      refine d2I (hc.le l1) hcb (hcr.mono fun _ _ => CH.le l1) (fun t _ => copC (tr t)) fun s2 ys2 H2 l2 hS2 hb2 hr2 => ?_
      have l12 := l1.trans l2
      refine c4y (ha.le l12) hab ⟨hal, fun i x t a b => SH.le l12 (har i x t a b)⟩ (fun t ht => ih t (List.mem_append_right _ (List.mem_append_right _ (List.mem_append_left _ ht)))) fun s3 zs3 H3 l3 hS3 hb3 hr3 => ?_
      have l13 := l12.trans l3
      refine c4y (hbs.le l13) hbb ⟨hbl, fun i x t a b => SH.le l13 (hbr i x t a b)⟩ (fun t ht => ih t (List.mem_append_right _ (List.mem_append_right _ (List.mem_append_right _ ht)))) fun s4 bs4 H4 l4 hS4 hb4 hr4 => ?_
      have l34 := l3.trans l4
      exact h _ H4 (l13.trans l4) (SH.mk (s := ⟨e.b6, e.f6, s1, s2, s3, s4⟩) (hS1.le (l2.trans l34)) hb1 (hr1.mono fun _ _ => EH.le (l2.trans l34)) (hS2.le l34) hb2 (hr2.mono fun _ _ => CH.le l34) (hS3.le l4) hb3 hr3.1 (fun i x t a b => SH.le l4 (hr3.2 i x t a b)) hS4 hb4 hr4.1 hr4.2)
theorem f7L {s : Sl} {ds : List E0} (hs : SlH H 2 w6 s ds) (hb : ds.length ≤ big) {K : Sl → Hp → Prop} (h : ∀ s' H', Hle H H' → SlH H' 2 w6 s' ds → K s' H') : V9 s H K := by
  refine a8B _ ?_
  unfold P8
  simp only [big] at hb
  refine ⟨fun c => h _ H (Hle.refl _) ?_, fun _ => ⟨ds, hs, by simp only [List.length_nil]; omega, fun s' H' l hS _ => h s' H' l hS⟩⟩
  cases ds with
  | nil => exact SlH.nil _ _ _
  | cons d ds =>
    obtain ⟨g, o, ha, _⟩ := hs.2 0 d rfl
    rw [ha] at c; cases c
theorem g6Y (hT : TabsH H) {p : g7} {q : PP} (hp : PH H p q) (hsm : q.Sm) {K : g7 → Int → Hp → Prop} (h0 : ∀ y H', Hle H H' → toldS q.nodes = 0 → PH H' y q → K y 0 H') (h1 : ∀ H', Hle H H' → toldS q.nodes ≠ 0 → K ⟨⟨none, 0, 0⟩, ⟨none, 0, 0⟩⟩ (toldS q.nodes) H') : b1s p H K := by
  refine c6J _ ?_
  unfold a9a
  refine d9d hT hp hsm fun H1 l1 => ?_
  rw [show vEnd (allV q) = toldS q.nodes from c7x _]
  refine ⟨fun c => h1 H1 l1 c, fun c => ?_⟩
  obtain ⟨hd, hbd, xs, hsl, hxb, hr⟩ := hp.le l1
  refine f7L hd hbd fun s2 H2 l2 hS2 => ?_
  refine c4y (hsl.le l2) hxb (hr.mono fun _ _ => SH.le l2) (fun t _ => copS (tr t)) fun s3 zs H3 l3 hS3 hb3 hr3 => ?_
  exact h0 _ H3 (l1.trans (l2.trans l3)) c ⟨hS2.le l3, hbd, zs, hS3, hb3, hr3⟩
end
end Go.Proofs.YtnhkdkcgdcgmdaaGreatDoor
