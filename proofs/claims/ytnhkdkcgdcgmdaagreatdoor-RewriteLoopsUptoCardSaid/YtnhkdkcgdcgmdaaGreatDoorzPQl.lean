/- Copies of trees: the program's and the document's. Contracts off the printed formulas. -/
import Derived.Test.YtnhkdkcgdcgmdaaGreatDoorzPG1x
import Derived.Test.YtnhkdkcgdcgmdaaGreatDoorzPV1x
import Derived.Test.YtnhkdkcgdcgmdaaGreatDoorzPQi
namespace Go.Proofs.YtnhkdkcgdcgmdaaGreatDoor
open Go.RowKit
set_option maxRecDepth 100000
set_option maxHeartbeats 2000000
inductive Tr : PT → Prop
  | mk {l : Lab} {cs : List PT} : (∀ t ∈ cs, Tr t) → Tr (.mk l cs)
mutual
theorem tr : ∀ t : PT, Tr t
  | .mk l cs => .mk (trs cs)
theorem trs : ∀ (ts : List PT) (t : PT), t ∈ ts → Tr t
  | [], t, h => by cases h
  | x :: ts, t, h => by
    cases List.mem_cons.1 h with
    | inl e => rw [e]; exact tr x
    | inr h => exact trs ts t h
end
def CopE (t : PT) : Prop := ∀ (H : Hp) (e : b6) (K : b6 → Hp → Prop), EH H e t → (∀ y H', Hle H H' → EH H' y t → K y H') → a5q e H K
def CopC (t : PT) : Prop := ∀ (H : Hp) (e : b9) (K : b9 → Hp → Prop), CH H e t → (∀ y H', Hle H H' → CH H' y t → K y H') → a5r e H K
def CopS (t : PT) : Prop := ∀ (H : Hp) (e : d7) (K : d7 → Hp → Prop), SH H e t → (∀ y H', Hle H H' → SH H' y t → K y H') → a5s e H K
section
variable {H : Hp}
theorem b7W {s : Sl} {xs : List b6} {ts : List PT} (hs : SlH H 4 b7 s xs) (hb : xs.length ≤ big) (hr : u0 (EH H) xs ts) (ih : ∀ t ∈ ts, CopE t) {K : Sl → Hp → Prop}
    (h : ∀ s' ys H', Hle H H' → SlH H' 4 b7 s' ys → ys.length ≤ big → u0 (EH H') ys ts → K s' H') : y9 s H K := by
  refine a1T _ ?_
  unfold E2
  have n1 := hs.1
  have hb' := hb
  simp only [big] at hb'
  have hlen := hr.1
  refine a1x (fun (z : List b6 × Int) H' => 0 ≤ z.2 ∧ z.2 ≤ xs.length ∧ Hle H H' ∧ u0 (EH H') z.1 (ts.take z.2.toNat)) (fun z => (xs.length - z.2).toNat) ⟨Int.le_refl _, by dsimp only; omega, Hle.refl _, u0.nil⟩ ?_
  rintro ⟨cs, i⟩ H1 next ⟨i0, i1, l1, hcs⟩ hn
  dsimp only at i0 i1 l1 hcs ⊢
  unfold B7
  have hcl : cs.length ≤ xs.length := by rw [hcs.1, List.length_take]; omega
  refine ⟨fun q => ?_, fun q => ?_⟩
  · obtain ⟨x, hx, hE⟩ := (hs.le l1).get i0 (by omega)
    obtain ⟨t, ht, hxt⟩ := hr.get hx
    refine ⟨i0, by omega, x, hE, ih t (List.mem_of_getElem? ht) H1 x _ (hxt.le l1) fun y H2 l2 hy => ⟨by simp only [List.length_cons, List.length_nil]; omega, ?_⟩⟩
    rw [P4 i0 (by omega)]
    refine hn _ _ ⟨by dsimp only; omega, by dsimp only; omega, l1.trans l2, ?_⟩ (by dsimp only; omega)
    dsimp only
    rw [show (i + 1).toNat = i.toNat + 1 by omega, O2 ht]
    exact (hcs.mono fun _ _ => EH.le l2).app (u0.one hy)
  · unfold B6
    intro s2 H2 l2 hS2 _
    rw [List.take_of_length_le (by omega)] at hcs
    exact h s2 cs H2 (l1.trans l2) hS2 (by omega) (hcs.mono fun _ _ => EH.le l2)
theorem copE {t : PT} (ht : Tr t) : CopE t := by
  induction ht with
  | @mk l cs _ ih =>
    intro H e K he h
    refine b5v _ ?_
    unfold a3l
    cases he with
    | @mk _ xs _ hs hb hl hr =>
      refine b7W hs hb ⟨hl, hr⟩ ih fun s1 ys H1 l1 hS1 hb1 hr1 => ?_
      exact h _ H1 l1 (EH.mk (e := ⟨e.a8, e.o2, e.b8, s1⟩) hS1 hb1 hr1.1 hr1.2)
theorem c4Y {s : Sl} {xs : List b9} {ts : List PT} (hs : SlH H 4 d5 s xs) (hb : xs.length ≤ big) (hr : u0 (CH H) xs ts) (ih : ∀ t ∈ ts, CopC t) {K : Sl → Hp → Prop}
    (h : ∀ s' ys H', Hle H H' → SlH H' 4 d5 s' ys → ys.length ≤ big → u0 (CH H') ys ts → K s' H') : D7 s H K := by
  refine a1U _ ?_
  unfold E3
  have n1 := hs.1
  have hb' := hb
  simp only [big] at hb'
  have hlen := hr.1
  refine a1x (fun (z : List b9 × Int) H' => 0 ≤ z.2 ∧ z.2 ≤ xs.length ∧ Hle H H' ∧ u0 (CH H') z.1 (ts.take z.2.toNat)) (fun z => (xs.length - z.2).toNat) ⟨Int.le_refl _, by dsimp only; omega, Hle.refl _, u0.nil⟩ ?_
  rintro ⟨cs, i⟩ H1 next ⟨i0, i1, l1, hcs⟩ hn
  dsimp only at i0 i1 l1 hcs ⊢
  unfold B9
  have hcl : cs.length ≤ xs.length := by rw [hcs.1, List.length_take]; omega
  refine ⟨fun q => ?_, fun q => ?_⟩
  · obtain ⟨x, hx, hE⟩ := (hs.le l1).get i0 (by omega)
    obtain ⟨t, ht, hxt⟩ := hr.get hx
    refine ⟨i0, by omega, x, hE, ih t (List.mem_of_getElem? ht) H1 x _ (hxt.le l1) fun y H2 l2 hy => ⟨by simp only [List.length_cons, List.length_nil]; omega, ?_⟩⟩
    rw [P4 i0 (by omega)]
    refine hn _ _ ⟨by dsimp only; omega, by dsimp only; omega, l1.trans l2, ?_⟩ (by dsimp only; omega)
    dsimp only
    rw [show (i + 1).toNat = i.toNat + 1 by omega, O2 ht]
    exact (hcs.mono fun _ _ => CH.le l2).app (u0.one hy)
  · unfold B8
    intro s2 H2 l2 hS2 _
    rw [List.take_of_length_le (by omega)] at hcs
    exact h s2 cs H2 (l1.trans l2) hS2 (by omega) (hcs.mono fun _ _ => CH.le l2)
theorem copC {t : PT} (ht : Tr t) : CopC t := by
  induction ht with
  | @mk l cs hk ih =>
    intro H e K he h
    refine b5w _ ?_
    unfold a3m
    cases he with
    | @mk _ xs ts ys us hs hb hr hc hcb hcl hcr =>
      refine b7W hs hb hr (fun t _ => copE (tr t)) fun s1 xs1 H1 l1 hS1 hb1 hr1 => ?_
      refine c4Y (hc.le l1) hcb ⟨hcl, fun i x t a b => CH.le l1 (hcr i x t a b)⟩ (fun t ht => ih t (List.mem_append_right _ ht)) fun s2 ys2 H2 l2 hS2 hb2 hr2 => ?_
      exact h _ H2 (l1.trans l2) (CH.mk (c := ⟨e.a8, e.fOp, s1, s2⟩) (hS1.le l2) hb1 (hr1.mono fun _ _ => EH.le l2) hS2 hb2 hr2.1 hr2.2)
theorem b7X {s : Sl} {xs : List d7} {ts : List PT} (hs : SlH H 6 g7 s xs) (hb : xs.length ≤ big) (hr : u0 (SH H) xs ts) (ih : ∀ t ∈ ts, CopS t) {K : Sl → Hp → Prop}
    (h : ∀ s' ys H', Hle H H' → SlH H' 6 g7 s' ys → ys.length ≤ big → u0 (SH H') ys ts → K s' H') : z6 s H K := by
  refine a1V _ ?_
  unfold E4
  have n1 := hs.1
  have hb' := hb
  simp only [big] at hb'
  have hlen := hr.1
  refine a1x (fun (z : List d7 × Int) H' => 0 ≤ z.2 ∧ z.2 ≤ xs.length ∧ Hle H H' ∧ u0 (SH H') z.1 (ts.take z.2.toNat)) (fun z => (xs.length - z.2).toNat) ⟨Int.le_refl _, by dsimp only; omega, Hle.refl _, u0.nil⟩ ?_
  rintro ⟨cs, i⟩ H1 next ⟨i0, i1, l1, hcs⟩ hn
  dsimp only at i0 i1 l1 hcs ⊢
  unfold C1
  have hcl : cs.length ≤ xs.length := by rw [hcs.1, List.length_take]; omega
  refine ⟨fun q => ?_, fun q => ?_⟩
  · obtain ⟨x, hx, hE⟩ := (hs.le l1).get i0 (by omega)
    obtain ⟨t, ht, hxt⟩ := hr.get hx
    refine ⟨i0, by omega, x, hE, ih t (List.mem_of_getElem? ht) H1 x _ (hxt.le l1) fun y H2 l2 hy => ⟨by simp only [List.length_cons, List.length_nil]; omega, ?_⟩⟩
    rw [P4 i0 (by omega)]
    refine hn _ _ ⟨by dsimp only; omega, by dsimp only; omega, l1.trans l2, ?_⟩ (by dsimp only; omega)
    dsimp only
    rw [show (i + 1).toNat = i.toNat + 1 by omega, O2 ht]
    exact (hcs.mono fun _ _ => SH.le l2).app (u0.one hy)
  · unfold C0
    intro s2 H2 l2 hS2 _
    rw [List.take_of_length_le (by omega)] at hcs
    exact h s2 cs H2 (l1.trans l2) hS2 (by omega) (hcs.mono fun _ _ => SH.le l2)
theorem copS {t : PT} (ht : Tr t) : CopS t := by
  induction ht with
  | @mk l cs hk ih =>
    intro H e K he h
    refine b5x _ ?_
    unfold a3o
    cases he with
    | @mk _ xs ts ys us zs bs vs ws hs hb hr hc hcb hcr ha hab hal har hbs hbb hbl hbr =>
      refine b7W hs hb hr (fun t _ => copE (tr t)) fun s1 xs1 H1 l1 hS1 hb1 hr1 => ?_
      refine c4Y (hc.le l1) hcb (hcr.mono fun _ _ => CH.le l1) (fun t _ => copC (tr t)) fun s2 ys2 H2 l2 hS2 hb2 hr2 => ?_
      have l12 := l1.trans l2
      refine b7X (ha.le l12) hab ⟨hal, fun i x t a b => SH.le l12 (har i x t a b)⟩ (fun t ht => ih t (List.mem_append_right _ (List.mem_append_right _ (List.mem_append_left _ ht)))) fun s3 zs3 H3 l3 hS3 hb3 hr3 => ?_
      have l13 := l12.trans l3
      refine b7X (hbs.le l13) hbb ⟨hbl, fun i x t a b => SH.le l13 (hbr i x t a b)⟩ (fun t ht => ih t (List.mem_append_right _ (List.mem_append_right _ (List.mem_append_right _ ht)))) fun s4 bs4 H4 l4 hS4 hb4 hr4 => ?_
      have l34 := l3.trans l4
      exact h _ H4 (l13.trans l4) (SH.mk (s := ⟨e.a8, e.b8, s1, s2, s3, s4⟩) (hS1.le (l2.trans l34)) hb1 (hr1.mono fun _ _ => EH.le (l2.trans l34)) (hS2.le l34) hb2 (hr2.mono fun _ _ => CH.le l34) (hS3.le l4) hb3 hr3.1 (fun i x t a b => SH.le l4 (hr3.2 i x t a b)) hS4 hb4 hr4.1 hr4.2)
theorem e5Z {s : Sl} {ds : List p5} (hs : SlH H 2 p8 s ds) (hb : ds.length ≤ big) {K : Sl → Hp → Prop} (h : ∀ s' H', Hle H H' → SlH H' 2 p8 s' ds → K s' H') : Q7 s H K := by
  refine a4V _ ?_
  unfold M7
  simp only [big] at hb
  refine ⟨fun c => h _ H (Hle.refl _) ?_, fun _ => ⟨ds, hs, by simp only [List.length_nil]; omega, fun s' H' l hS _ => h s' H' l hS⟩⟩
  cases ds with
  | nil => exact SlH.nil _ _ _
  | cons d ds =>
    obtain ⟨g, o, ha, _⟩ := hs.2 0 d rfl
    rw [ha] at c; cases c
theorem f3j (hT : TabsH H) {p : o9} {q : PP} (hp : PH H p q) (hsm : q.Sm) {K : o9 → Int → Hp → Prop} (h0 : ∀ y H', Hle H H' → toldS q.nodes = 0 → PH H' y q → K y 0 H') (h1 : ∀ H', Hle H H' → toldS q.nodes ≠ 0 → K ⟨⟨none, 0, 0⟩, ⟨none, 0, 0⟩⟩ (toldS q.nodes) H') : a7v p H K := by
  refine c0e _ ?_
  unfold a5k
  refine c2I hT hp hsm fun H1 l1 => ?_
  rw [show vEnd (allV q) = toldS q.nodes from b5U _]
  refine ⟨fun c => h1 H1 l1 c, fun c => ?_⟩
  obtain ⟨hd, hbd, xs, hsl, hxb, hr⟩ := hp.le l1
  refine e5Z hd hbd fun s2 H2 l2 hS2 => ?_
  refine b7X (hsl.le l2) hxb (hr.mono fun _ _ => SH.le l2) (fun t _ => copS (tr t)) fun s3 zs H3 l3 hS3 hb3 hr3 => ?_
  exact h0 _ H3 (l1.trans (l2.trans l3)) c ⟨hS2.le l3, hbd, zs, hS3, hb3, hr3⟩
end
end Go.Proofs.YtnhkdkcgdcgmdaaGreatDoor
namespace Go.Proofs.YtnhkdkcgdcgmdaaGreatDoor
open Go.RowKit
set_option maxRecDepth 100000
set_option maxHeartbeats 2000000
def sN (k : Int) (s : ByteArray) (ts us vs ws : List PT) : PT := .mk (.stmt k s ts.length us.length vs.length ws.length) (us ++ (ts ++ (vs ++ ws)))
inductive ArS : PT → Prop
  | mk {k : Int} {s : ByteArray} {ts us vs ws : List PT} : (∀ t ∈ ts, Ar t) → (∀ t ∈ us, ArC t) → (∀ t ∈ vs, ArS t) → (∀ t ∈ ws, ArS t) → ArS (sN k s ts us vs ws)
section
variable {B : Int}
theorem g6x (t : PT) : 1 ≤ cT t := by cases t; rw [cT]; omega
theorem b6l : ∀ ts : List PT, ts.length ≤ cTs ts
  | [] => Nat.zero_le _
  | t :: ts => by rw [cTs, List.length_cons]; have := g6x t; have := b6l ts; omega
end
section
variable {H : Hp}
theorem g6y {e : d7} {t : PT} (he : SH H e t) (hf : formT t = true) (hs : Sm t) : ArS t := by
  induction he with
  | @mk e xs ts ys us zs bs vs ws hsl hb hr hc hcb hcr ha hab hal har hbs hbb hbl hbr iha ihb =>
    rw [formT, Bool.and_eq_true] at hf
    have m : ∀ t ∈ us ++ (ts ++ (vs ++ ws)), formT t = true ∧ Sm t := fun t ht => ⟨E1 hf.2 ht, hs.num.2 t ht⟩
    refine .mk (fun t ht => ?_) (fun t ht => ?_) (fun t ht => ?_) fun t ht => ?_
    · obtain ⟨i, hi⟩ := List.getElem?_of_mem ht
      obtain ⟨x, hx⟩ := z7 (l := xs) (i := i) (by have := K3 hi; have := hr.1; omega)
      have := m t (by simp [ht])
      exact d8t (hr.2 i x t hx hi) this.1 this.2
    · obtain ⟨i, hi⟩ := List.getElem?_of_mem ht
      obtain ⟨x, hx⟩ := z7 (l := ys) (i := i) (by have := K3 hi; have := hcr.1; omega)
      have := m t (by simp [ht])
      exact e1z (hcr.2 i x t hx hi) this.1 this.2
    · obtain ⟨i, hi⟩ := List.getElem?_of_mem ht
      obtain ⟨x, hx⟩ := z7 (l := zs) (i := i) (by have := K3 hi; omega)
      have := m t (by simp [ht])
      exact iha i x t hx hi this.1 this.2
    · obtain ⟨i, hi⟩ := List.getElem?_of_mem ht
      obtain ⟨x, hx⟩ := z7 (l := bs) (i := i) (by have := K3 hi; omega)
      have := m t (by simp [ht])
      exact ihb i x t hx hi this.1 this.2
end
end Go.Proofs.YtnhkdkcgdcgmdaaGreatDoor
