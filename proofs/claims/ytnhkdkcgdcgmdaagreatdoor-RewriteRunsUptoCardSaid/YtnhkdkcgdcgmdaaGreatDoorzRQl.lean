/- Copies of trees: the program's and the document's. Contracts off the printed formulas. -/
import Derived.Test.YtnhkdkcgdcgmdaaGreatDoorzRG1x
import Derived.Test.YtnhkdkcgdcgmdaaGreatDoorzRV1x
import Derived.Test.YtnhkdkcgdcgmdaaGreatDoorzRQi
namespace Go.Proofs.YtnhkdkcgdcgmdaaGreatDoor
open Go.RowKit
set_option maxRecDepth 100000
set_option maxHeartbeats 2000000
inductive Tr : PT → Prop
  | mk {l : Lab} {cs : List PT} : (∀ t ∈ cs, Tr t) → Tr (.mk l cs)
mutual
theorem tr : ∀ t : PT, Tr t
  | .mk l cs => .mk (trs cs)
theorem trs : ∀ (ts : List PT) (t : PT), t ∈ ts → Tr t
  | [], t, h => by cases h
  | x :: ts, t, h => by
    cases List.mem_cons.1 h with
    | inl e => rw [e]; exact tr x
    | inr h => exact trs ts t h
end
def CopE (t : PT) : Prop := ∀ (H : Hp) (e : b6) (K : b6 → Hp → Prop), EH H e t → (∀ y H', Hle H H' → EH H' y t → K y H') → a5w e H K
def CopC (t : PT) : Prop := ∀ (H : Hp) (e : b9) (K : b9 → Hp → Prop), CH H e t → (∀ y H', Hle H H' → CH H' y t → K y H') → a5x e H K
def CopS (t : PT) : Prop := ∀ (H : Hp) (e : d5) (K : d5 → Hp → Prop), SH H e t → (∀ y H', Hle H H' → SH H' y t → K y H') → a5y e H K
section
variable {H : Hp}
theorem b8v {s : Sl} {xs : List b6} {ts : List PT} (hs : SlH H 4 b8 s xs) (hb : xs.length ≤ big) (hr : y8 (EH H) xs ts) (ih : ∀ t ∈ ts, CopE t) {K : Sl → Hp → Prop}
    (h : ∀ s' ys H', Hle H H' → SlH H' 4 b8 s' ys → ys.length ≤ big → y8 (EH H') ys ts → K s' H') : B0 s H K := by
  refine a2f _ ?_
  unfold E0
  have n1 := hs.1
  have hb' := hb
  simp only [big] at hb'
  have hlen := hr.1
  refine a2q (fun (z : List b6 × Int) H' => 0 ≤ z.2 ∧ z.2 ≤ xs.length ∧ Hle H H' ∧ y8 (EH H') z.1 (ts.take z.2.toNat)) (fun z => (xs.length - z.2).toNat) ⟨Int.le_refl _, by dsimp only; omega, Hle.refl _, y8.nil⟩ ?_
  rintro ⟨cs, i⟩ H1 next ⟨i0, i1, l1, hcs⟩ hn
  dsimp only at i0 i1 l1 hcs ⊢
  unfold C5
  have hcl : cs.length ≤ xs.length := by rw [hcs.1, List.length_take]; omega
  refine ⟨fun q => ?_, fun q => ?_⟩
  · obtain ⟨x, hx, hE⟩ := (hs.le l1).get i0 (by omega)
    obtain ⟨t, ht, hxt⟩ := hr.get hx
    refine ⟨i0, by omega, x, hE, ih t (List.mem_of_getElem? ht) H1 x _ (hxt.le l1) fun y H2 l2 hy => ⟨by simp only [List.length_cons, List.length_nil]; omega, ?_⟩⟩
    rw [Q1 i0 (by omega)]
    refine hn _ _ ⟨by dsimp only; omega, by dsimp only; omega, l1.trans l2, ?_⟩ (by dsimp only; omega)
    dsimp only
    rw [show (i + 1).toNat = i.toNat + 1 by omega, O9 ht]
    exact (hcs.mono fun _ _ => EH.le l2).app (y8.one hy)
  · unfold C4
    intro s2 H2 l2 hS2 _
    rw [List.take_of_length_le (by omega)] at hcs
    exact h s2 cs H2 (l1.trans l2) hS2 (by omega) (hcs.mono fun _ _ => EH.le l2)
theorem copE {t : PT} (ht : Tr t) : CopE t := by
  induction ht with
  | @mk l cs _ ih =>
    intro H e K he h
    refine b6h _ ?_
    unfold a3x
    cases he with
    | @mk _ xs _ hs hb hl hr =>
      refine b8v hs hb ⟨hl, hr⟩ ih fun s1 ys H1 l1 hS1 hb1 hr1 => ?_
      exact h _ H1 l1 (EH.mk (e := ⟨e.a8, e.p5, e.b7, s1⟩) hS1 hb1 hr1.1 hr1.2)
theorem c5K {s : Sl} {xs : List b9} {ts : List PT} (hs : SlH H 4 d6 s xs) (hb : xs.length ≤ big) (hr : y8 (CH H) xs ts) (ih : ∀ t ∈ ts, CopC t) {K : Sl → Hp → Prop}
    (h : ∀ s' ys H', Hle H H' → SlH H' 4 d6 s' ys → ys.length ≤ big → y8 (CH H') ys ts → K s' H') : D9 s H K := by
  refine a2g _ ?_
  unfold E1
  have n1 := hs.1
  have hb' := hb
  simp only [big] at hb'
  have hlen := hr.1
  refine a2q (fun (z : List b9 × Int) H' => 0 ≤ z.2 ∧ z.2 ≤ xs.length ∧ Hle H H' ∧ y8 (CH H') z.1 (ts.take z.2.toNat)) (fun z => (xs.length - z.2).toNat) ⟨Int.le_refl _, by dsimp only; omega, Hle.refl _, y8.nil⟩ ?_
  rintro ⟨cs, i⟩ H1 next ⟨i0, i1, l1, hcs⟩ hn
  dsimp only at i0 i1 l1 hcs ⊢
  unfold C7
  have hcl : cs.length ≤ xs.length := by rw [hcs.1, List.length_take]; omega
  refine ⟨fun q => ?_, fun q => ?_⟩
  · obtain ⟨x, hx, hE⟩ := (hs.le l1).get i0 (by omega)
    obtain ⟨t, ht, hxt⟩ := hr.get hx
    refine ⟨i0, by omega, x, hE, ih t (List.mem_of_getElem? ht) H1 x _ (hxt.le l1) fun y H2 l2 hy => ⟨by simp only [List.length_cons, List.length_nil]; omega, ?_⟩⟩
    rw [Q1 i0 (by omega)]
    refine hn _ _ ⟨by dsimp only; omega, by dsimp only; omega, l1.trans l2, ?_⟩ (by dsimp only; omega)
    dsimp only
    rw [show (i + 1).toNat = i.toNat + 1 by omega, O9 ht]
    exact (hcs.mono fun _ _ => CH.le l2).app (y8.one hy)
  · unfold C6
    intro s2 H2 l2 hS2 _
    rw [List.take_of_length_le (by omega)] at hcs
    exact h s2 cs H2 (l1.trans l2) hS2 (by omega) (hcs.mono fun _ _ => CH.le l2)
theorem copC {t : PT} (ht : Tr t) : CopC t := by
  induction ht with
  | @mk l cs hk ih =>
    intro H e K he h
    refine b6i _ ?_
    unfold a3y
    cases he with
    | @mk _ xs ts ys us hs hb hr hc hcb hcl hcr =>
      refine b8v hs hb hr (fun t _ => copE (tr t)) fun s1 xs1 H1 l1 hS1 hb1 hr1 => ?_
      refine c5K (hc.le l1) hcb ⟨hcl, fun i x t a b => CH.le l1 (hcr i x t a b)⟩ (fun t ht => ih t (List.mem_append_right _ ht)) fun s2 ys2 H2 l2 hS2 hb2 hr2 => ?_
      exact h _ H2 (l1.trans l2) (CH.mk (c := ⟨e.a8, e.fOp, s1, s2⟩) (hS1.le l2) hb1 (hr1.mono fun _ _ => EH.le l2) hS2 hb2 hr2.1 hr2.2)
theorem b8w {s : Sl} {xs : List d5} {ts : List PT} (hs : SlH H 6 g7 s xs) (hb : xs.length ≤ big) (hr : y8 (SH H) xs ts) (ih : ∀ t ∈ ts, CopS t) {K : Sl → Hp → Prop}
    (h : ∀ s' ys H', Hle H H' → SlH H' 6 g7 s' ys → ys.length ≤ big → y8 (SH H') ys ts → K s' H') : B1 s H K := by
  refine a2h _ ?_
  unfold E2
  have n1 := hs.1
  have hb' := hb
  simp only [big] at hb'
  have hlen := hr.1
  refine a2q (fun (z : List d5 × Int) H' => 0 ≤ z.2 ∧ z.2 ≤ xs.length ∧ Hle H H' ∧ y8 (SH H') z.1 (ts.take z.2.toNat)) (fun z => (xs.length - z.2).toNat) ⟨Int.le_refl _, by dsimp only; omega, Hle.refl _, y8.nil⟩ ?_
  rintro ⟨cs, i⟩ H1 next ⟨i0, i1, l1, hcs⟩ hn
  dsimp only at i0 i1 l1 hcs ⊢
  unfold C9
  have hcl : cs.length ≤ xs.length := by rw [hcs.1, List.length_take]; omega
  refine ⟨fun q => ?_, fun q => ?_⟩
  · obtain ⟨x, hx, hE⟩ := (hs.le l1).get i0 (by omega)
    obtain ⟨t, ht, hxt⟩ := hr.get hx
    refine ⟨i0, by omega, x, hE, ih t (List.mem_of_getElem? ht) H1 x _ (hxt.le l1) fun y H2 l2 hy => ⟨by simp only [List.length_cons, List.length_nil]; omega, ?_⟩⟩
    rw [Q1 i0 (by omega)]
    refine hn _ _ ⟨by dsimp only; omega, by dsimp only; omega, l1.trans l2, ?_⟩ (by dsimp only; omega)
    dsimp only
    rw [show (i + 1).toNat = i.toNat + 1 by omega, O9 ht]
    exact (hcs.mono fun _ _ => SH.le l2).app (y8.one hy)
  · unfold C8
    intro s2 H2 l2 hS2 _
    rw [List.take_of_length_le (by omega)] at hcs
    exact h s2 cs H2 (l1.trans l2) hS2 (by omega) (hcs.mono fun _ _ => SH.le l2)
theorem copS {t : PT} (ht : Tr t) : CopS t := by
  induction ht with
  | @mk l cs hk ih =>
    intro H e K he h
    refine b6j _ ?_
    unfold a3z
    cases he with
    | @mk _ xs ts ys us zs bs vs ws hs hb hr hc hcb hcr ha hab hal har hbs hbb hbl hbr =>
      refine b8v hs hb hr (fun t _ => copE (tr t)) fun s1 xs1 H1 l1 hS1 hb1 hr1 => ?_
      refine c5K (hc.le l1) hcb (hcr.mono fun _ _ => CH.le l1) (fun t _ => copC (tr t)) fun s2 ys2 H2 l2 hS2 hb2 hr2 => ?_
      have l12 := l1.trans l2
      refine b8w (ha.le l12) hab ⟨hal, fun i x t a b => SH.le l12 (har i x t a b)⟩ (fun t ht => ih t (List.mem_append_right _ (List.mem_append_right _ (List.mem_append_left _ ht)))) fun s3 zs3 H3 l3 hS3 hb3 hr3 => ?_
      have l13 := l12.trans l3
      refine b8w (hbs.le l13) hbb ⟨hbl, fun i x t a b => SH.le l13 (hbr i x t a b)⟩ (fun t ht => ih t (List.mem_append_right _ (List.mem_append_right _ (List.mem_append_right _ ht)))) fun s4 bs4 H4 l4 hS4 hb4 hr4 => ?_
      have l34 := l3.trans l4
      exact h _ H4 (l13.trans l4) (SH.mk (s := ⟨e.a8, e.b7, s1, s2, s3, s4⟩) (hS1.le (l2.trans l34)) hb1 (hr1.mono fun _ _ => EH.le (l2.trans l34)) (hS2.le l34) hb2 (hr2.mono fun _ _ => CH.le l34) (hS3.le l4) hb3 hr3.1 (fun i x t a b => SH.le l4 (hr3.2 i x t a b)) hS4 hb4 hr4.1 hr4.2)
theorem e7G {s : Sl} {ds : List r6} (hs : SlH H 2 r9 s ds) (hb : ds.length ≤ big) {K : Sl → Hp → Prop} (h : ∀ s' H', Hle H H' → SlH H' 2 r9 s' ds → K s' H') : R4 s H K := by
  refine a5a _ ?_
  unfold N4
  simp only [big] at hb
  refine ⟨fun c => h _ H (Hle.refl _) ?_, fun _ => ⟨ds, hs, by simp only [List.length_nil]; omega, fun s' H' l hS _ => h s' H' l hS⟩⟩
  cases ds with
  | nil => exact SlH.nil _ _ _
  | cons d ds =>
    obtain ⟨g, o, ha, _⟩ := hs.2 0 d rfl
    rw [ha] at c; cases c
theorem f4M (hT : TabsH H) {p : r7} {q : PP} (hp : PH H p q) (hsm : q.Sm) {K : r7 → Int → Hp → Prop} (h0 : ∀ y H', Hle H H' → toldS q.nodes = 0 → PH H' y q → K y 0 H') (h1 : ∀ H', Hle H H' → toldS q.nodes ≠ 0 → K ⟨⟨none, 0, 0⟩, ⟨none, 0, 0⟩⟩ (toldS q.nodes) H') : a7J p H K := by
  refine c0D _ ?_
  unfold a5o
  refine d1O hT hp hsm fun H1 l1 => ?_
  rw [show vEnd (allV q) = toldS q.nodes from c1u _]
  refine ⟨fun c => h1 H1 l1 c, fun c => ?_⟩
  obtain ⟨hd, hbd, xs, hsl, hxb, hr⟩ := hp.le l1
  refine e7G hd hbd fun s2 H2 l2 hS2 => ?_
  refine b8w (hsl.le l2) hxb (hr.mono fun _ _ => SH.le l2) (fun t _ => copS (tr t)) fun s3 zs H3 l3 hS3 hb3 hr3 => ?_
  exact h0 _ H3 (l1.trans (l2.trans l3)) c ⟨hS2.le l3, hbd, zs, hS3, hb3, hr3⟩
end
end Go.Proofs.YtnhkdkcgdcgmdaaGreatDoor
namespace Go.Proofs.YtnhkdkcgdcgmdaaGreatDoor
open Go.RowKit
set_option maxRecDepth 100000
set_option maxHeartbeats 2000000
def sN (k : Int) (s : ByteArray) (ts us vs ws : List PT) : PT := .mk (.stmt k s ts.length us.length vs.length ws.length) (us ++ (ts ++ (vs ++ ws)))
def asked (kind : Int) : List PT → Bool
  | a :: _ => decide (kindC a = kind)
  | [] => false
def foldStm (k : Int) (s : ByteArray) (ts us vs ws : List PT) : List PT :=
  if k = 7 ∨ (k = 6 ∧ asked 1 us = true) ∨ (k = 4 ∧ asked 2 us = true) then []
  else if k = 3 ∧ asked 1 us = true then vs
  else if k = 3 ∧ asked 2 us = true then ws
  else [sN k s ts us vs ws]
def foldX (cs : List PT) (L : List (List PT)) : Lab → List PT
  | .stmt k s e c t _ => foldStm k s (((cs.drop c).take e).map foldT) ((cs.take c).map foldT) (((L.drop c).drop e).take t).flatten (((L.drop c).drop e).drop t).flatten
  | l => [.mk l cs]
mutual
def foldA : PT → List PT
  | .mk l cs => foldX cs (foldAs cs) l
def foldAs : List PT → List (List PT)
  | [] => []
  | t :: ts => foldA t :: foldAs ts
end
theorem c5L : ∀ ts : List PT, foldAs ts = ts.map foldA
  | [] => by rw [foldAs]; rfl
  | t :: ts => by rw [foldAs, c5L ts]; rfl
def foldSs (ts : List PT) : List PT := (ts.map foldA).flatten
theorem c5M (a b : List PT) : foldSs (a ++ b) = foldSs a ++ foldSs b := by unfold foldSs; rw [List.map_append, List.flatten_append]
theorem c5N (t : PT) : foldSs [t] = foldA t := by unfold foldSs; simp
theorem a8q (k : Int) (s : ByteArray) (ts us vs ws : List PT) : foldA (sN k s ts us vs ws) = foldStm k s (ts.map foldT) (us.map foldT) (foldSs vs) (foldSs ws) := by
  unfold sN
  rw [foldA, foldX, c5L]
  simp only [List.map_append]
  have h1 : (us.map foldA).length = us.length := List.length_map ..
  have h2 : (ts.map foldA).length = ts.length := List.length_map ..
  have h3 : (vs.map foldA).length = vs.length := List.length_map ..
  rw [List.take_left, List.drop_left, List.take_left]
  have e1 : (us.map foldA ++ (ts.map foldA ++ (vs.map foldA ++ ws.map foldA))).drop us.length = ts.map foldA ++ (vs.map foldA ++ ws.map foldA) := by rw [← h1, List.drop_left]
  have e2 : (ts.map foldA ++ (vs.map foldA ++ ws.map foldA)).drop ts.length = vs.map foldA ++ ws.map foldA := by rw [← h2, List.drop_left]
  have e3 : (vs.map foldA ++ ws.map foldA).take vs.length = vs.map foldA := by rw [← h3, List.take_left]
  have e4 : (vs.map foldA ++ ws.map foldA).drop vs.length = ws.map foldA := by rw [← h3, List.drop_left]
  rw [e1, e2, e3, e4]; rfl
inductive ArS : PT → Prop
  | mk {k : Int} {s : ByteArray} {ts us vs ws : List PT} : (∀ t ∈ ts, Ar t) → (∀ t ∈ us, ArC t) → (∀ t ∈ vs, ArS t) → (∀ t ∈ ws, ArS t) → ArS (sN k s ts us vs ws)
section
variable {B : Int}
theorem g8d (t : PT) : 1 ≤ cT t := by cases t; rw [cT]; omega
theorem c1K : ∀ ts : List PT, ts.length ≤ cTs ts
  | [] => Nat.zero_le _
  | t :: ts => by rw [cTs, List.length_cons]; have := g8d t; have := c1K ts; omega
theorem d6g {f : PT → PT} : ∀ {ts : List PT} (_ : ∀ t ∈ ts, cT (f t) ≤ cT t), cTs (ts.map f) ≤ cTs ts
  | [], _ => Nat.le_refl _
  | t :: ts, h => by
    rw [List.map_cons, cTs, cTs]
    have := h t List.mem_cons_self
    have := d6g (ts := ts) fun u hu => h u (List.mem_cons_of_mem _ hu)
    omega
theorem d3t {f : PT → List PT} : ∀ {ts : List PT} (_ : ∀ t ∈ ts, cTs (f t) ≤ cT t), cTs (ts.map f).flatten ≤ cTs ts
  | [], _ => Nat.le_refl _
  | t :: ts, h => by
    rw [List.map_cons, List.flatten_cons, a0A, cTs]
    have := h t List.mem_cons_self
    have := d3t (ts := ts) fun u hu => h u (List.mem_cons_of_mem _ hu)
    omega
theorem a7W : ∀ (ts : List PT) (d : Int), dpTs B ts d ↔ ∀ t ∈ ts, dpT B t d
  | [], d => by rw [dpTs]; exact ⟨(fun _ t h => by cases h), fun _ => trivial⟩
  | t :: ts, d => by
    rw [dpTs, a7W ts d]
    constructor
    · rintro ⟨a, b⟩ u hu
      rcases List.mem_cons.1 hu with e | hu
      · rw [e]; exact a
      · exact b u hu
    · exact fun h => ⟨h t List.mem_cons_self, fun u hu => h u (List.mem_cons_of_mem _ hu)⟩
mutual
theorem e3j : ∀ (t : PT) (d : Int), dpT B t (d + 1) → dpT B t d
  | .mk l cs, d, h => by
    rw [dpT] at h ⊢
    exact ⟨by omega, c1L cs _ h.2⟩
theorem c1L : ∀ (ts : List PT) (d : Int), dpTs B ts (d + 1) → dpTs B ts d
  | [], _, _ => trivial
  | t :: ts, d, h => by
    rw [dpTs] at h ⊢
    exact ⟨e3j t d h.1, c1L ts d h.2⟩
end
theorem g8e {t : PT} {d : Int} (h : dpT B t d) : d ≤ B := by cases t; rw [dpT] at h; exact h.1
end
def a5V (t : PT) (cs : List PT) : Prop := cT t ≤ 1 + cTs cs ∧ ∀ B d, d ≤ B → dpTs B cs (d + 1) → dpT B t d
theorem d6h (l : Lab) (cs : List PT) : a5V (.mk l cs) cs := ⟨by rw [cT]; omega, fun B d h1 h2 => by rw [dpT]; exact ⟨h1, h2⟩⟩
theorem b8x {t : PT} {cs : List PT} (h : t ∈ cs) : a5V t cs := by
  refine ⟨?_, fun B d _ h2 => e3j _ _ ((a7W _ _).1 h2 t h)⟩
  induction cs with
  | nil => cases h
  | cons u cs ih =>
    rw [cTs]
    rcases List.mem_cons.1 h with e | h
    · rw [e]; omega
    · have := ih h; omega
theorem e7H (v : Int) : cT (plainT v) ≤ 2 := by unfold plainT eN; split <;> simp [cT, cTs]
theorem e3k {v : Int} (h : 0 ≤ v) : cT (plainT v) = 1 := by unfold plainT eN; rw [if_neg (by omega)]; simp [cT, cTs]
theorem c5O {v : Int} {cs : List PT} (h : 0 ≤ v ∨ cs ≠ []) : a5V (plainT v) cs := by
  refine ⟨?_, fun B d h1 h2 => ?_⟩
  · rcases h with h | h
    · rw [e3k h]; omega
    · have := e7H v
      have : cs.length ≤ cTs cs := c1K cs
      have : 0 < cs.length := List.length_pos_iff.2 h
      omega
  · by_cases hv : 0 ≤ v
    · unfold plainT eN; rw [if_neg (by omega), dpT, dpTs]; exact ⟨h1, trivial⟩
    · unfold plainT eN; rw [if_pos (by omega), dpT, dpTs, dpT, dpTs, dpTs]
      refine ⟨h1, ⟨?_, trivial⟩, trivial⟩
      rcases h with h | h
      · exact (hv h).elim
      · cases cs with
        | nil => exact (h rfl).elim
        | cons u cs => exact g8e ((a7W _ _).1 h2 u List.mem_cons_self)
theorem e3l (k n : Int) (s : ByteArray) (cs : List PT) : a5V (simpN k n s cs) cs := by
  have self : a5V (eN k n s cs) cs := d6h _ _
  unfold simpN
  split
  · rename_i a b
    have ha : a5V a [a, b] := b8x (by simp)
    have hb : a5V b [a, b] := b8x (by simp)
    repeat' split
    all_goals assumption
  · exact self
theorem f4N {k : Int} {cs : List PT} {v : Int} (h : reck k cs = some v) : cs ≠ [] := by
  rintro rfl
  cases h
theorem d9Z {k n : Int} (s : ByteArray) (cs : List PT) (h : k = 1 → 0 ≤ n) : a5V (foldN k n s cs) cs := by
  unfold foldN
  split
  · rename_i v hv
    refine c5O ?_
    unfold eN at hv
    rw [cst] at hv
    split at hv
    · rename_i h1; cases hv; exact .inl (h h1)
    · split at hv
      · refine .inr ?_
        rintro rfl
        cases hv
      · cases hv
  · split
    · rename_i v hv; exact c5O (.inr (f4N hv))
    · exact e3l k n s cs
theorem d3u (b : Bool) (cs : List PT) : a5V (truT b) cs := by
  unfold truT
  exact ⟨by rw [cT, cTs]; omega, fun B d h1 _ => by rw [dpT, dpTs]; exact ⟨h1, trivial⟩⟩
theorem c8f {l d : Int} {self : PT} {xs ps : List PT} (h : a5V self (xs ++ ps)) : a5V (joinT l d self ps) (xs ++ ps) := by
  unfold joinT
  split
  · rename_i a b
    have ha : a5V a (xs ++ [a, b]) := b8x (by simp)
    have hb : a5V b (xs ++ [a, b]) := b8x (by simp)
    repeat' split
    all_goals assumption
  · exact h
theorem e0a (k op : Int) (xs ps : List PT) : a5V (foldC k op xs ps) (xs ++ ps) := by
  have self : a5V (cN k op xs ps) (xs ++ ps) := d6h _ _
  unfold foldC
  repeat' split
  · unfold cmpT
    repeat' split
    all_goals first | exact d3u _ _ | exact self
  · unfold notT
    repeat' split
    all_goals first | exact d3u _ _ | exact self
  · exact c8f self
  · exact c8f self
  · exact self
def Slim (t u : PT) : Prop := cT u ≤ cT t ∧ ∀ B d, dpT B t d → dpT B u d
theorem d6i {l : Lab} {cs cs' : List PT} {u : PT} (h : a5V u cs') (hc : cTs cs' ≤ cTs cs) (hd : ∀ B d, dpTs B cs d → dpTs B cs' d) : Slim (.mk l cs) u := by
  refine ⟨by rw [cT]; have := h.1; omega, fun B d hd' => ?_⟩
  rw [dpT] at hd'
  exact h.2 B d hd'.1 (hd B _ hd'.2)
theorem slims {f : PT → PT} {ts : List PT} (h : ∀ t ∈ ts, Slim t (f t)) : cTs (ts.map f) ≤ cTs ts ∧ ∀ B d, dpTs B ts d → dpTs B (ts.map f) d := by
  refine ⟨d6g fun t ht => (h t ht).1, fun B d hd => (a7W _ _).2 fun u hu => ?_⟩
  obtain ⟨t, ht, rfl⟩ := List.mem_map.1 hu
  exact (h t ht).2 B d ((a7W _ _).1 hd t ht)
theorem slimE {t : PT} (ha : Ar t) : formT t = true → Slim t (foldT t) := by
  induction ha with
  | @mk k n s a cs h1 h2 h3 ih =>
    intro hf
    rw [formT, Bool.and_eq_true] at hf
    have hk := slims fun t ht => ih t ht (A8 hf.2 ht)
    rw [foldT, foldL, a3w]
    refine d6i (d9Z s _ fun e => ?_) hk.1 hk.2
    have hF := hf.1
    change formE k n s a = true at hF
    unfold formE at hF
    split at hF
    · cases hF
    · first
      | (rw [if_pos e, Bool.and_eq_true] at hF; exact of_decide_eq_true hF.1)
      | (rw [Bool.and_eq_true] at hF; exact of_decide_eq_true hF.1)
theorem slimC {t : PT} (ha : ArC t) : formT t = true → Slim t (foldT t) := by
  induction ha with
  | @mk k op xs ps h1 h2 h3 ih =>
    intro hf
    rw [formT, Bool.and_eq_true] at hf
    rw [a8p]
    have e1 := slims (f := foldT) fun t ht => slimE (h2 t ht) (A8 hf.2 (List.mem_append_left _ ht))
    have e2 := slims (f := foldT) fun t ht => ih t ht (A8 hf.2 (List.mem_append_right _ ht))
    refine d6i (e0a k op _ _) (by rw [a0A, a0A]; omega) fun B d hd => ?_
    rw [a7a] at hd ⊢
    exact ⟨e1.2 B d hd.1, e2.2 B d hd.2⟩
def SlimS (t : PT) (us : List PT) : Prop := cTs us ≤ cT t ∧ ∀ B d, dpT B t d → dpTs B us d
theorem slimSs {ts : List PT} (h : ∀ t ∈ ts, SlimS t (foldA t)) : cTs (foldSs ts) ≤ cTs ts ∧ ∀ B d, dpTs B ts d → dpTs B (foldSs ts) d := by
  refine ⟨d3t fun t ht => (h t ht).1, fun B d hd => (a7W _ _).2 fun u hu => ?_⟩
  unfold foldSs at hu
  obtain ⟨l, hl, hul⟩ := List.mem_flatten.1 hu
  obtain ⟨t, ht, rfl⟩ := List.mem_map.1 hl
  exact (a7W _ _).1 ((h t ht).2 B d ((a7W _ _).1 hd t ht)) u hul
theorem slimS {t : PT} (ha : ArS t) : formT t = true → SlimS t (foldA t) := by
  induction ha with
  | @mk k s ts us vs ws h1 h2 h3 h4 ih1 ih2 =>
    intro hf
    unfold sN at hf
    rw [formT, Bool.and_eq_true] at hf
    have m1 : ∀ t ∈ us, formT t = true := fun t ht => A8 hf.2 (by simp [ht])
    have m2 : ∀ t ∈ ts, formT t = true := fun t ht => A8 hf.2 (by simp [ht])
    have m3 : ∀ t ∈ vs, formT t = true := fun t ht => A8 hf.2 (by simp [ht])
    have m4 : ∀ t ∈ ws, formT t = true := fun t ht => A8 hf.2 (by simp [ht])
    have e1 := slims (f := foldT) fun t ht => slimC (h2 t ht) (m1 t ht)
    have e2 := slims (f := foldT) fun t ht => slimE (h1 t ht) (m2 t ht)
    have e3 := slimSs fun t ht => ih1 t ht (m3 t ht)
    have e4 := slimSs fun t ht => ih2 t ht (m4 t ht)
    rw [a8q]
    unfold foldStm
    have hc : cT (sN k s ts us vs ws) = 1 + (cTs us + (cTs ts + (cTs vs + cTs ws))) := by
      unfold sN; rw [cT, a0A, a0A, a0A]
    have hd : ∀ B d, dpT B (sN k s ts us vs ws) d ↔ d ≤ B ∧ dpTs B us (d + 1) ∧ dpTs B ts (d + 1) ∧ dpTs B vs (d + 1) ∧ dpTs B ws (d + 1) := fun B d => by
      unfold sN; rw [dpT, a7a, a7a, a7a]
    unfold SlimS
    rw [hc]
    split
    · exact ⟨Nat.zero_le _, fun B d _ => trivial⟩
    · split
      · exact ⟨by omega, fun B d h => c1L _ _ (e3.2 B _ ((hd B d).1 h).2.2.2.1)⟩
      · split
        · exact ⟨by omega, fun B d h => c1L _ _ (e4.2 B _ ((hd B d).1 h).2.2.2.2)⟩
        · refine ⟨?_, fun B d h => ?_⟩
          · rw [cTs, cTs]; unfold sN; rw [cT, a0A, a0A, a0A]; omega
          · obtain ⟨q0, q1, q2, q3, q4⟩ := (hd B d).1 h
            rw [dpTs, dpTs]; unfold sN; rw [dpT, a7a, a7a, a7a]
            exact ⟨⟨q0, e1.2 B _ q1, e2.2 B _ q2, e3.2 B _ q3, e4.2 B _ q4⟩, trivial⟩
section
variable {H : Hp}
theorem g8f {e : d5} {t : PT} (he : SH H e t) (hf : formT t = true) (hs : Sm t) : ArS t := by
  induction he with
  | @mk e xs ts ys us zs bs vs ws hsl hb hr hc hcb hcr ha hab hal har hbs hbb hbl hbr iha ihb =>
    rw [formT, Bool.and_eq_true] at hf
    have m : ∀ t ∈ us ++ (ts ++ (vs ++ ws)), formT t = true ∧ Sm t := fun t ht => ⟨A8 hf.2 ht, hs.num.2 t ht⟩
    refine .mk (fun t ht => ?_) (fun t ht => ?_) (fun t ht => ?_) fun t ht => ?_
    · obtain ⟨i, hi⟩ := List.getElem?_of_mem ht
      obtain ⟨x, hx⟩ := B2 (l := xs) (i := i) (by have := M1 hi; have := hr.1; omega)
      have := m t (by simp [ht])
      exact d9T (hr.2 i x t hx hi) this.1 this.2
    · obtain ⟨i, hi⟩ := List.getElem?_of_mem ht
      obtain ⟨x, hx⟩ := B2 (l := ys) (i := i) (by have := M1 hi; have := hcr.1; omega)
      have := m t (by simp [ht])
      exact e3c (hcr.2 i x t hx hi) this.1 this.2
    · obtain ⟨i, hi⟩ := List.getElem?_of_mem ht
      obtain ⟨x, hx⟩ := B2 (l := zs) (i := i) (by have := M1 hi; omega)
      have := m t (by simp [ht])
      exact iha i x t hx hi this.1 this.2
    · obtain ⟨i, hi⟩ := List.getElem?_of_mem ht
      obtain ⟨x, hx⟩ := B2 (l := bs) (i := i) (by have := M1 hi; omega)
      have := m t (by simp [ht])
      exact ihb i x t hx hi this.1 this.2
end
end Go.Proofs.YtnhkdkcgdcgmdaaGreatDoor
