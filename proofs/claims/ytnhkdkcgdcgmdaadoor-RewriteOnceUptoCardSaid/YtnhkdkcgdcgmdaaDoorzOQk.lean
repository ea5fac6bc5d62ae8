/- Copies of trees: the program's and the document's. Contracts off the printed formulas. -/
import Derived.Test.YtnhkdkcgdcgmdaaDoorzOQu
import Derived.Test.YtnhkdkcgdcgmdaaDoorzOV1x
namespace Go.Proofs.YtnhkdkcgdcgmdaaDoor
open Go.RowKit
set_option maxRecDepth 100000
set_option maxHeartbeats 2000000
inductive Tr : PT → Prop
  | mk {l : Lab} {cs : List PT} : (∀ t ∈ cs, Tr t) → Tr (.mk l cs)
mutual
theorem tr : ∀ t : PT, Tr t
  | .mk l cs => .mk (trs cs)
theorem trs : ∀ (ts : List PT) (t : PT), t ∈ ts → Tr t
  | [], t, h => by cases h
  | x :: ts, t, h => by
    cases List.mem_cons.1 h with
    | inl e => rw [e]; exact tr x
    | inr h => exact trs ts t h
end
def CopE (t : PT) : Prop := ∀ (H : Hp) (e : b5) (K : b5 → Hp → Prop), EH H e t → (∀ y H', Hle H H' → EH H' y t → K y H') → a5e e H K
def CopC (t : PT) : Prop := ∀ (H : Hp) (e : b8) (K : b8 → Hp → Prop), CH H e t → (∀ y H', Hle H H' → CH H' y t → K y H') → a5f e H K
def CopS (t : PT) : Prop := ∀ (H : Hp) (e : b9) (K : b9 → Hp → Prop), SH H e t → (∀ y H', Hle H H' → SH H' y t → K y H') → a5g e H K
section
variable {H : Hp}
theorem b7u {s : Sl} {xs : List b5} {ts : List PT} (hs : SlH H 4 b6 s xs) (hb : xs.length ≤ big) (hr : u4 (EH H) xs ts) (ih : ∀ t ∈ ts, CopE t) {K : Sl → Hp → Prop}
    (h : ∀ s' ys H', Hle H H' → SlH H' 4 b6 s' ys → ys.length ≤ big → u4 (EH H') ys ts → K s' H') : z7 s H K := by
  refine a1m _ ?_
  unfold C7
  have n1 := hs.1
  have hb' := hb
  simp only [big] at hb'
  have hlen := hr.1
  refine a0O (fun (z : List b5 × Int) H' => 0 ≤ z.2 ∧ z.2 ≤ xs.length ∧ Hle H H' ∧ u4 (EH H') z.1 (ts.take z.2.toNat)) (fun z => (xs.length - z.2).toNat) ⟨Int.le_refl _, by dsimp only; omega, Hle.refl _, u4.nil⟩ ?_
  rintro ⟨cs, i⟩ H1 next ⟨i0, i1, l1, hcs⟩ hn
  dsimp only at i0 i1 l1 hcs ⊢
  unfold B5
  have hcl : cs.length ≤ xs.length := by rw [hcs.1, List.length_take]; omega
  refine ⟨fun q => ?_, fun q => ?_⟩
  · obtain ⟨x, hx, hE⟩ := (hs.le l1).get i0 (by omega)
    obtain ⟨t, ht, hxt⟩ := hr.get hx
    refine ⟨i0, by omega, x, hE, ih t (List.mem_of_getElem? ht) H1 x _ (hxt.le l1) fun y H2 l2 hy => ⟨by simp only [List.length_cons, List.length_nil]; omega, ?_⟩⟩
    rw [P6 i0 (by omega)]
    refine hn _ _ ⟨by dsimp only; omega, by dsimp only; omega, l1.trans l2, ?_⟩ (by dsimp only; omega)
    dsimp only
    rw [show (i + 1).toNat = i.toNat + 1 by omega, P7 ht]
    exact (hcs.mono fun _ _ => EH.le l2).app (u4.one hy)
  · unfold B4
    intro s2 H2 l2 hS2 _
    rw [List.take_of_length_le (by omega)] at hcs
    exact h s2 cs H2 (l1.trans l2) hS2 (by omega) (hcs.mono fun _ _ => EH.le l2)
theorem copE {t : PT} (ht : Tr t) : CopE t := by
  induction ht with
  | @mk l cs _ ih =>
    intro H e K he h
    refine b5g _ ?_
    unfold a2D
    cases he with
    | @mk _ xs _ hs hb hl hr =>
      refine b7u hs hb ⟨hl, hr⟩ ih fun s1 ys H1 l1 hS1 hb1 hr1 => ?_
      exact h _ H1 l1 (EH.mk (e := ⟨e.a8, e.o2, e.b7, s1⟩) hS1 hb1 hr1.1 hr1.2)
theorem c4f {s : Sl} {xs : List b8} {ts : List PT} (hs : SlH H 4 d5 s xs) (hb : xs.length ≤ big) (hr : u4 (CH H) xs ts) (ih : ∀ t ∈ ts, CopC t) {K : Sl → Hp → Prop}
    (h : ∀ s' ys H', Hle H H' → SlH H' 4 d5 s' ys → ys.length ≤ big → u4 (CH H') ys ts → K s' H') : C5 s H K := by
  refine a1o _ ?_
  unfold C8
  have n1 := hs.1
  have hb' := hb
  simp only [big] at hb'
  have hlen := hr.1
  refine a0O (fun (z : List b8 × Int) H' => 0 ≤ z.2 ∧ z.2 ≤ xs.length ∧ Hle H H' ∧ u4 (CH H') z.1 (ts.take z.2.toNat)) (fun z => (xs.length - z.2).toNat) ⟨Int.le_refl _, by dsimp only; omega, Hle.refl _, u4.nil⟩ ?_
  rintro ⟨cs, i⟩ H1 next ⟨i0, i1, l1, hcs⟩ hn
  dsimp only at i0 i1 l1 hcs ⊢
  unfold B7
  have hcl : cs.length ≤ xs.length := by rw [hcs.1, List.length_take]; omega
  refine ⟨fun q => ?_, fun q => ?_⟩
  · obtain ⟨x, hx, hE⟩ := (hs.le l1).get i0 (by omega)
    obtain ⟨t, ht, hxt⟩ := hr.get hx
    refine ⟨i0, by omega, x, hE, ih t (List.mem_of_getElem? ht) H1 x _ (hxt.le l1) fun y H2 l2 hy => ⟨by simp only [List.length_cons, List.length_nil]; omega, ?_⟩⟩
    rw [P6 i0 (by omega)]
    refine hn _ _ ⟨by dsimp only; omega, by dsimp only; omega, l1.trans l2, ?_⟩ (by dsimp only; omega)
    dsimp only
    rw [show (i + 1).toNat = i.toNat + 1 by omega, P7 ht]
    exact (hcs.mono fun _ _ => CH.le l2).app (u4.one hy)
  · unfold B6
    intro s2 H2 l2 hS2 _
    rw [List.take_of_length_le (by omega)] at hcs
    exact h s2 cs H2 (l1.trans l2) hS2 (by omega) (hcs.mono fun _ _ => CH.le l2)
theorem copC {t : PT} (ht : Tr t) : CopC t := by
  induction ht with
  | @mk l cs hk ih =>
    intro H e K he h
    refine b5h _ ?_
    unfold a2E
    cases he with
    | @mk _ xs ts ys us hs hb hr hc hcb hcl hcr =>
      refine b7u hs hb hr (fun t _ => copE (tr t)) fun s1 xs1 H1 l1 hS1 hb1 hr1 => ?_
      refine c4f (hc.le l1) hcb ⟨hcl, fun i x t a b => CH.le l1 (hcr i x t a b)⟩ (fun t ht => ih t (List.mem_append_right _ ht)) fun s2 ys2 H2 l2 hS2 hb2 hr2 => ?_
      exact h _ H2 (l1.trans l2) (CH.mk (c := ⟨e.a8, e.fOp, s1, s2⟩) (hS1.le l2) hb1 (hr1.mono fun _ _ => EH.le l2) hS2 hb2 hr2.1 hr2.2)
theorem b7v {s : Sl} {xs : List b9} {ts : List PT} (hs : SlH H 6 d8 s xs) (hb : xs.length ≤ big) (hr : u4 (SH H) xs ts) (ih : ∀ t ∈ ts, CopS t) {K : Sl → Hp → Prop}
    (h : ∀ s' ys H', Hle H H' → SlH H' 6 d8 s' ys → ys.length ≤ big → u4 (SH H') ys ts → K s' H') : z8 s H K := by
  refine a1p _ ?_
  unfold C9
  have n1 := hs.1
  have hb' := hb
  simp only [big] at hb'
  have hlen := hr.1
  refine a0O (fun (z : List b9 × Int) H' => 0 ≤ z.2 ∧ z.2 ≤ xs.length ∧ Hle H H' ∧ u4 (SH H') z.1 (ts.take z.2.toNat)) (fun z => (xs.length - z.2).toNat) ⟨Int.le_refl _, by dsimp only; omega, Hle.refl _, u4.nil⟩ ?_
  rintro ⟨cs, i⟩ H1 next ⟨i0, i1, l1, hcs⟩ hn
  dsimp only at i0 i1 l1 hcs ⊢
  unfold B9
  have hcl : cs.length ≤ xs.length := by rw [hcs.1, List.length_take]; omega
  refine ⟨fun q => ?_, fun q => ?_⟩
  · obtain ⟨x, hx, hE⟩ := (hs.le l1).get i0 (by omega)
    obtain ⟨t, ht, hxt⟩ := hr.get hx
    refine ⟨i0, by omega, x, hE, ih t (List.mem_of_getElem? ht) H1 x _ (hxt.le l1) fun y H2 l2 hy => ⟨by simp only [List.length_cons, List.length_nil]; omega, ?_⟩⟩
    rw [P6 i0 (by omega)]
    refine hn _ _ ⟨by dsimp only; omega, by dsimp only; omega, l1.trans l2, ?_⟩ (by dsimp only; omega)
    dsimp only
    rw [show (i + 1).toNat = i.toNat + 1 by omega, P7 ht]
    exact (hcs.mono fun _ _ => SH.le l2).app (u4.one hy)
  · unfold B8
    intro s2 H2 l2 hS2 _
    rw [List.take_of_length_le (by omega)] at hcs
    exact h s2 cs H2 (l1.trans l2) hS2 (by omega) (hcs.mono fun _ _ => SH.le l2)
theorem copS {t : PT} (ht : Tr t) : CopS t := by
  induction ht with
  | @mk l cs hk ih =>
    intro H e K he h
    refine b5i _ ?_
    unfold a2F
    cases he with
    | @mk _ xs ts ys us zs bs vs ws hs hb hr hc hcb hcr ha hab hal har hbs hbb hbl hbr =>
      refine b7u hs hb hr (fun t _ => copE (tr t)) fun s1 xs1 H1 l1 hS1 hb1 hr1 => ?_
      refine c4f (hc.le l1) hcb (hcr.mono fun _ _ => CH.le l1) (fun t _ => copC (tr t)) fun s2 ys2 H2 l2 hS2 hb2 hr2 => ?_
      have l12 := l1.trans l2
      refine b7v (ha.le l12) hab ⟨hal, fun i x t a b => SH.le l12 (har i x t a b)⟩ (fun t ht => ih t (List.mem_append_right _ (List.mem_append_right _ (List.mem_append_left _ ht)))) fun s3 zs3 H3 l3 hS3 hb3 hr3 => ?_
      have l13 := l12.trans l3
      refine b7v (hbs.le l13) hbb ⟨hbl, fun i x t a b => SH.le l13 (hbr i x t a b)⟩ (fun t ht => ih t (List.mem_append_right _ (List.mem_append_right _ (List.mem_append_right _ ht)))) fun s4 bs4 H4 l4 hS4 hb4 hr4 => ?_
      have l34 := l3.trans l4
      exact h _ H4 (l13.trans l4) (SH.mk (s := ⟨e.a8, e.b7, s1, s2, s3, s4⟩) (hS1.le (l2.trans l34)) hb1 (hr1.mono fun _ _ => EH.le (l2.trans l34)) (hS2.le l34) hb2 (hr2.mono fun _ _ => CH.le l34) (hS3.le l4) hb3 hr3.1 (fun i x t a b => SH.le l4 (hr3.2 i x t a b)) hS4 hb4 hr4.1 hr4.2)
theorem e2e {s : Sl} {ds : List t1} (hs : SlH H 2 p6 s ds) (hb : ds.length ≤ big) {K : Sl → Hp → Prop} (h : ∀ s' H', Hle H H' → SlH H' 2 p6 s' ds → K s' H') : O9 s H K := by
  refine a4H _ ?_
  unfold L0
  simp only [big] at hb
  refine ⟨fun c => h _ H (Hle.refl _) ?_, fun _ => ⟨ds, hs, by simp only [List.length_nil]; omega, fun s' H' l hS _ => h s' H' l hS⟩⟩
  cases ds with
  | nil => exact SlH.nil _ _ _
  | cons d ds =>
    obtain ⟨g, o, ha, _⟩ := hs.2 0 d rfl
    rw [ha] at c; cases c
theorem e7X (hT : TabsH H) {p : j6} {q : PP} (hp : PH H p q) (hsm : q.Sm) {K : j6 → Int → Hp → Prop} (h0 : ∀ y H', Hle H H' → toldS q.nodes = 0 → PH H' y q → K y 0 H') (h1 : ∀ H', Hle H H' → toldS q.nodes ≠ 0 → K ⟨⟨none, 0, 0⟩, ⟨none, 0, 0⟩⟩ (toldS q.nodes) H') : a7s p H K := by
  refine b9q _ ?_
  unfold a4Y
  refine c1Q hT hp hsm fun H1 l1 => ?_
  rw [show vEnd (allV q) = toldS q.nodes from b1P _]
  refine ⟨fun c => h1 H1 l1 c, fun c => ?_⟩
  obtain ⟨hd, hbd, xs, hsl, hxb, hr⟩ := hp.le l1
  refine e2e hd hbd fun s2 H2 l2 hS2 => ?_
  refine b7v (hsl.le l2) hxb (hr.mono fun _ _ => SH.le l2) (fun t _ => copS (tr t)) fun s3 zs H3 l3 hS3 hb3 hr3 => ?_
  exact h0 _ H3 (l1.trans (l2.trans l3)) c ⟨hS2.le l3, hbd, zs, hS3, hb3, hr3⟩
end
end Go.Proofs.YtnhkdkcgdcgmdaaDoor
