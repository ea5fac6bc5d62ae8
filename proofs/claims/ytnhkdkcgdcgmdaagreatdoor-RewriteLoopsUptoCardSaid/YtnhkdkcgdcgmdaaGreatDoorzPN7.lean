/- Unrolling: the plain law; the program's. Contracts off the printed formulas. -/
import Derived.Test.YtnhkdkcgdcgmdaaGreatDoorzPQm
namespace Go.Proofs.YtnhkdkcgdcgmdaaGreatDoor
open Go.RowKit
set_option maxRecDepth 100000
set_option maxHeartbeats 2000000
def unrW (us body : List PT) (w0 : PT) : Nat → PT
  | 0 => w0
  | j + 1 => sN 3 ⟨#[]⟩ [] us (body ++ [unrW us body w0 j]) []
def unrN (n : Nat) (k : Int) (s : ByteArray) (ts us vs ws : List PT) : PT := if k = 4 then unrW us vs (sN k s ts us vs ws) n else sN k s ts us vs ws
def unrX (n : Nat) (cs cs' : List PT) : Lab → PT
  | .stmt k s e c t _ => unrN n k s ((cs.drop c).take e) (cs.take c) (((cs'.drop c).drop e).take t) (((cs'.drop c).drop e).drop t)
  | l => .mk l cs
mutual
def unrT (n : Nat) : PT → PT
  | .mk l cs => unrX n cs (unrTs n cs) l
def unrTs (n : Nat) : List PT → List PT
  | [] => []
  | t :: ts => unrT n t :: unrTs n ts
end
theorem c7i (n : Nat) : ∀ ts : List PT, unrTs n ts = ts.map (unrT n)
  | [] => by rw [unrTs]; rfl
  | t :: ts => by rw [unrTs, c7i n ts]; rfl
theorem b4D (n : Nat) (k : Int) (s : ByteArray) (ts us vs ws : List PT) : unrT n (sN k s ts us vs ws) = unrN n k s ts us (vs.map (unrT n)) (ws.map (unrT n)) := by
  unfold sN
  rw [unrT, unrX, c7i]
  simp only [List.map_append]
  have h1 : (us.map (unrT n)).length = us.length := List.length_map ..
  have h2 : (ts.map (unrT n)).length = ts.length := List.length_map ..
  have h3 : (vs.map (unrT n)).length = vs.length := List.length_map ..
  rw [List.take_left, List.drop_left, List.take_left]
  have e1 : (us.map (unrT n) ++ (ts.map (unrT n) ++ (vs.map (unrT n) ++ ws.map (unrT n)))).drop us.length = ts.map (unrT n) ++ (vs.map (unrT n) ++ ws.map (unrT n)) := by rw [← h1, List.drop_left]
  have e2 : (ts.map (unrT n) ++ (vs.map (unrT n) ++ ws.map (unrT n))).drop ts.length = vs.map (unrT n) ++ ws.map (unrT n) := by rw [← h2, List.drop_left]
  have e3 : (vs.map (unrT n) ++ ws.map (unrT n)).take vs.length = vs.map (unrT n) := by rw [← h3, List.take_left]
  have e4 : (vs.map (unrT n) ++ ws.map (unrT n)).drop vs.length = ws.map (unrT n) := by rw [← h3, List.drop_left]
  rw [e1, e2, e3, e4]
inductive StF : PT → Prop
  | mk {k : Int} {s : ByteArray} {ts us vs ws : List PT} : (k = 4 → s = ⟨#[]⟩ ∧ ts = [] ∧ ws = []) → (∀ t ∈ ts, Sm t) → (∀ t ∈ us, Sm t) → s.size ≤ sml → (∀ t ∈ vs, StF t) → (∀ t ∈ ws, StF t) → StF (sN k s ts us vs ws)
theorem e1J {k : Int} {s : ByteArray} {e c t f : Nat} (h : formL (.stmt k s e c t f) = true) (hk : k = 4) : s = ⟨#[]⟩ ∧ e = 0 ∧ f = 0 := by
  have h' : formS k s e c t f = true := h
  unfold formS at h'
  rw [if_neg (by omega), if_neg (by omega), if_neg (by omega), if_pos hk, Bool.and_eq_true, Bool.and_eq_true] at h'
  have q1 := of_decide_eq_true h'.1.1
  have q2 := of_decide_eq_true h'.1.2
  have q3 := of_decide_eq_true h'.2
  exact ⟨q1, by omega, by omega⟩
section
variable {H : Hp}
theorem g6A {e : d7} {t : PT} (he : SH H e t) (hf : formT t = true) (hs : Sm t) : StF t := by
  induction he with
  | @mk e xs ts ys us zs bs vs ws hsl hb hr hc hcb hcr ha hab hal har hbs hbb hbl hbr iha ihb =>
    rw [formT, Bool.and_eq_true] at hf
    have m : ∀ t ∈ us ++ (ts ++ (vs ++ ws)), formT t = true ∧ Sm t := fun t ht => ⟨E1 hf.2 ht, hs.num.2 t ht⟩
    have hz : e.b8.size ≤ sml := by cases hs with | mk q _ => exact q.1
    refine .mk (fun hk => ?_) (fun t ht => (m t (by simp [ht])).2) (fun t ht => (m t (by simp [ht])).2) hz (fun t ht => ?_) fun t ht => ?_
    · obtain ⟨q1, q2, q3⟩ := e1J hf.1 hk
      exact ⟨q1, List.length_eq_zero_iff.1 q2, List.length_eq_zero_iff.1 q3⟩
    · obtain ⟨i, hi⟩ := List.getElem?_of_mem ht
      obtain ⟨x, hx⟩ := z7 (l := zs) (i := i) (by have := K3 hi; omega)
      have := m t (by simp [ht])
      exact iha i x t hx hi this.1 this.2
    · obtain ⟨i, hi⟩ := List.getElem?_of_mem ht
      obtain ⟨x, hx⟩ := z7 (l := bs) (i := i) (by have := K3 hi; omega)
      have := m t (by simp [ht])
      exact ihb i x t hx hi this.1 this.2
end
theorem e8Q {k : Int} {s : ByteArray} {ts us vs ws : List PT} (hs : s.size ≤ sml) (h : ∀ t ∈ us ++ (ts ++ (vs ++ ws)), Sm t) : Sm (sN k s ts us vs ws) := .mk ⟨hs, z64⟩ h
theorem g6B (n : Nat) {t : PT} (h : StF t) : Sm (unrT n t) := by
  induction h with
  | @mk k s ts us vs ws h0 h1 h2 hz _ _ ih1 ih2 =>
    rw [b4D]
    have hv : ∀ t ∈ vs.map (unrT n), Sm t := fun t ht => by obtain ⟨u, hu, rfl⟩ := List.mem_map.1 ht; exact ih1 u hu
    have hw : ∀ t ∈ ws.map (unrT n), Sm t := fun t ht => by obtain ⟨u, hu, rfl⟩ := List.mem_map.1 ht; exact ih2 u hu
    have self : Sm (sN k s ts us (vs.map (unrT n)) (ws.map (unrT n))) := e8Q hz fun t ht => by
      rcases List.mem_append.1 ht with q | q
      · exact h2 t q
      · rcases List.mem_append.1 q with q | q
        · exact h1 t q
        · exact (List.mem_append.1 q).elim (hv t) (hw t)
    unfold unrN
    split
    · generalize vs.map (unrT n) = body at *
      generalize sN k s ts us body (ws.map (unrT n)) = w0 at *
      clear h0
      induction n with
      | zero => exact self
      | succ j ih =>
        have hj : ∀ j, Sm (unrW us body w0 j) := by
          intro j
          induction j with
          | zero => exact self
          | succ j ihj =>
            refine e8Q (by decide) fun t ht => ?_
            rcases List.mem_append.1 ht with q | q
            · exact h2 t q
            · rw [List.nil_append, List.append_nil] at q
              rcases List.mem_append.1 q with q | q
              · exact hv t q
              · rw [List.mem_singleton.1 q]; exact ihj
        exact hj _
    · exact self
def PP.unr (q : PP) (n : Nat) : PP := ⟨q.decls, q.body.map (unrT n)⟩
def UnrS (n : Nat) (t : PT) : Prop := ∀ (H : Hp) (x : d7) (s11 : Sl) (s12 i : Int) (cs : List d7) (n2 : List d7 × Int → Hp → Prop) (K : Sl → Hp → Prop), SH H x t → cs.length ≤ a9V → (∀ y H', Hle H H' → SH H' y (unrT n t) → n2 (cs ++ [y], IntKind.wrap .i64 (i + 1)) H') →
  P6 x.E5 (n : Int) H (fun (r0 : Sl) (H1 : Hp) => P6 x.B5 (n : Int) H1 (fun (r1 : Sl) (H2 : Hp) =>
 (¬ (x.a8 = 4) →
 (cs.length + ([(d7.mk x.a8 x.b8 x.f2 x.j7 r0 r1)] : List d7).length) * 121 ≤ 140737488355328 ∧
 N4 (n : Int) (cs ++ [(d7.mk x.a8 x.b8 x.f2 x.j7 r0 r1)]) s11 s12 i H2 n2 K) ∧
 (x.a8 = 4 →
 TL ((0, x.a8, x.b8, x.f2, x.j7, r0, r1) : Int × Int × ByteArray × Sl × Sl × Sl × Sl) H2 fun (s : Int × Int × ByteArray × Sl × Sl × Sl × Sl) H n5 => U0 (n : Int) cs r0 s11 s12 i (n : Int) (d7.mk x.a8 x.b8 x.f2 x.j7 r0 r1) s.1 s.2.1 s.2.2.1 s.2.2.2.1 s.2.2.2.2.1 s.2.2.2.2.2.1 s.2.2.2.2.2.2 H n2 n5 K)))
section
variable {H : Hp}
theorem b5y {n : Nat} {s : Sl} {xs : List d7} {ts : List PT} (hs : SlH H 6 g7 s xs) (hr : u0 (SH H) xs ts) (hc : ts.length ≤ a9V) (ih : ∀ t ∈ ts, UnrS n t) {K : Sl → Hp → Prop}
    (h : ∀ s' ys H', Hle H H' → SlH H' 6 g7 s' ys → u0 (SH H') ys (ts.map (unrT n)) → K s' H') : P6 s (n : Int) H K := by
  refine b2h _ _ ?_
  unfold a1g
  have n1 := hs.1
  have hlen := hr.1
  have hc' := hc
  simp only [a9V] at hc'
  refine a1x (fun (z : List d7 × Int) H' => 0 ≤ z.2 ∧ z.2 ≤ xs.length ∧ Hle H H' ∧ u0 (SH H') z.1 ((ts.take z.2.toNat).map (unrT n))) (fun z => (xs.length - z.2).toNat) ⟨Int.le_refl _, by dsimp only; omega, Hle.refl _, u0.nil⟩ ?_
  rintro ⟨cs, i⟩ H1 next ⟨i0, i1, l1, hcs⟩ hn
  dsimp only at i0 i1 l1 hcs ⊢
  unfold a0e
  have hcl : cs.length ≤ a9V := by rw [hcs.1, List.length_map, List.length_take]; omega
  refine ⟨fun q => ?_, fun q => ?_⟩
  · obtain ⟨x, hx, hE⟩ := (hs.le l1).get i0 (by omega)
    obtain ⟨t, ht, hxt⟩ := hr.get hx
    refine ⟨i0, by omega, x, hE, ih t (List.mem_of_getElem? ht) H1 x s _ i cs _ _ (hxt.le l1) hcl fun y H2 l2 hy => ?_⟩
    rw [P4 i0 (by omega)]
    refine hn _ _ ⟨by dsimp only; omega, by dsimp only; omega, l1.trans l2, ?_⟩ (by dsimp only; omega)
    dsimp only
    rw [show (i + 1).toNat = i.toNat + 1 by omega, O2 ht, List.map_append]
    exact (hcs.mono fun _ _ => SH.le l2).app (u0.one hy)
  · unfold a0d
    intro s2 H2 l2 hS2 _
    rw [List.take_of_length_le (by omega)] at hcs
    exact h s2 cs H2 (l1.trans l2) hS2 (hcs.mono fun _ _ => SH.le l2)
theorem f3o {n : Nat} (hn8 : n ≤ 8) {t : PT} (ha : StF t) : cT t ≤ a9V → UnrS n t := by
  induction ha with
  | @mk k s ts us vs ws h0 h1 h2 hz _ _ ih1 ih2 =>
    intro hcT H e s11 s12 i cs n2 K he hcl h
    have hcnt : cT (sN k s ts us vs ws) = 1 + (cTs us + (cTs ts + (cTs vs + cTs ws))) := by
      unfold sN; rw [cT, b0C, b0C, b0C]
    rw [hcnt] at hcT
    rw [b4D] at h
    generalize htt : sN k s ts us vs ws = tt at he
    cases he with
    | @mk _ xs ts' ys us' zs bs vs' ws' hs hb hr hc hcb hcr ha hab hal har hbs hbb hbl hbr =>
      unfold sN at htt
      injection htt with hl hk
      injection hl with q1 q2 q3 q4 q5 q6
      subst q1; subst q2
      obtain ⟨w1, hk1⟩ := List.append_inj hk q4
      obtain ⟨w2, hk2⟩ := List.append_inj hk1 q3
      obtain ⟨w3, w4⟩ := List.append_inj hk2 q5
      subst w1; subst w2; subst w3; subst w4
      have lv := b6l vs
      have lw := b6l ws
      have hcl' := hcl
      simp only [a9V] at hcl' hcT
      refine b5y ha ⟨hal, har⟩ (by simp only [a9V]; omega) (fun t ht => ih1 t ht (by have := d2q ht; simp only [a9V]; omega)) fun r3 zs2 H1 l1 hS3 hr3 => ?_
      refine b5y (hbs.le l1) ⟨hbl, fun i x t a b => SH.le l1 (hbr i x t a b)⟩ (by simp only [a9V]; omega) (fun t ht => ih2 t ht (by have := d2q ht; simp only [a9V]; omega)) fun r4 bs2 H2 l2 hS4 hr4 => ?_
      have l12 := l1.trans l2
      have z3 := hr3.1
      have z4 := hr4.1
      rw [List.length_map] at z3 z4
      have B3 : zs2.length ≤ big := by simp only [big]; omega
      have B4 : bs2.length ≤ big := by simp only [big]; omega
      have self : ∀ {H3 : Hp}, Hle H2 H3 → SH H3 ⟨e.a8, e.b8, e.f2, e.j7, r3, r4⟩ (sN e.a8 e.b8 ts us (vs.map (unrT n)) (ws.map (unrT n))) := fun {H3} l3 =>
        SH.node (hs.le (l12.trans l3)) hb (hr.mono fun _ _ => EH.le (l12.trans l3)) (hc.le (l12.trans l3)) hcb (hcr.mono fun _ _ => CH.le (l12.trans l3)) (hS3.le (l2.trans l3)) B3 (hr3.mono fun _ _ => SH.le (l2.trans l3)) (hS4.le l3) B4 (hr4.mono fun _ _ => SH.le l3)
      refine ⟨fun c4 => ⟨by simp only [List.length_cons, List.length_nil]; omega, ?_⟩, fun c4 => ?_⟩
      · unfold N4
        refine h _ H2 l12 ?_
        unfold unrN; rw [if_neg c4]
        exact self (Hle.refl _)
      · unfold unrN at h
        rw [if_pos c4] at h
        refine a1x (fun (z : Int × Int × ByteArray × Sl × Sl × Sl × Sl) H' => 0 ≤ z.1 ∧ z.1 ≤ n ∧ Hle H2 H' ∧ SH H' ⟨z.2.1, z.2.2.1, z.2.2.2.1, z.2.2.2.2.1, z.2.2.2.2.2.1, z.2.2.2.2.2.2⟩ (unrW us (vs.map (unrT n)) (sN e.a8 e.b8 ts us (vs.map (unrT n)) (ws.map (unrT n))) z.1.toNat)) (fun z => ((n : Int) - z.1).toNat) ⟨Int.le_refl _, by dsimp only; omega, Hle.refl _, self (Hle.refl _)⟩ ?_
        rintro ⟨j, a0, a1, a2, a3, a4, a5⟩ H3 next ⟨j0, j1, l3, hw⟩ hk'
        dsimp only at j0 j1 l3 hw ⊢
        unfold U0
        refine ⟨fun q => ⟨zs2, hS3.le (l2.trans l3), by simp only [List.length_nil]; omega, by simp only [List.length_cons, List.length_nil]; omega, ?_⟩, fun q => ?_⟩
        · unfold Z9
          intro s5 H4 l4 hS5 _
          rw [P4 j0 (by omega)]
          refine hk' _ _ ⟨by dsimp only; omega, by dsimp only; omega, l3.trans l4, ?_⟩ (by dsimp only; omega)
          dsimp only
          rw [show (j + 1).toNat = j.toNat + 1 by omega, unrW]
          have l24 := l2.trans (l3.trans l4)
          have l14 := l12.trans (l3.trans l4)
          exact SH.node (SlH.nil _ _ _) (Nat.zero_le _) u0.nil (hc.le l14) hcb (hcr.mono fun _ _ => CH.le l14) hS5 (by rw [List.length_append, List.length_singleton]; simp only [big]; omega) ((hr3.mono fun _ _ => SH.le l24).app (u0.one (hw.le l4))) (SlH.nil _ _ _) (Nat.zero_le _) u0.nil
        · unfold a0b N4
          have : j.toNat = n := by omega
          rw [this] at hw
          exact ⟨by simp only [List.length_cons, List.length_nil]; omega, h _ H3 (l12.trans l3) hw⟩
theorem PH.stf {p : o9} {q : PP} (hp : PH H p q) (hsm : q.Sm) (h : toldS q.nodes = 0) : (∀ t ∈ q.body, StF t) ∧ cTs q.body + q.decls.length ≤ 4096 := by
  have hi := (d2d _).1 h
  have hf := hi.2.2.1
  unfold PP.nodes at hf
  rw [b7x, Bool.and_eq_true] at hf
  obtain ⟨_, _, xs, hsl, hxb, hr⟩ := hp
  refine ⟨fun t ht => ?_, ?_⟩
  · obtain ⟨i, hi⟩ := List.getElem?_of_mem ht
    obtain ⟨x, hx⟩ := z7 (l := xs) (i := i) (by have := K3 hi; have := hr.1; omega)
    exact g6A (hr.2 i x t hx hi) (E1 hf.2 ht) (hsm t (List.mem_append_right _ ht))
  · have q1 := hi.1
    unfold PP.nodes at q1
    rw [b0C] at q1
    have := b6l (q.decls.map dT)
    rw [List.length_map] at this; omega
theorem e1K {q : PP} (hst : ∀ t ∈ q.body, StF t) (hsm : q.Sm) (n : Nat) : (q.unr n).Sm := by
  intro t ht
  unfold PP.nodes PP.unr at ht
  rcases List.mem_append.1 ht with ht | ht
  · exact hsm t (List.mem_append_left _ ht)
  · obtain ⟨u, hu, rfl⟩ := List.mem_map.1 ht
    exact g6B n (hst u hu)
theorem e1L (hT : TabsH H) {p : o9} {q : PP} (hp : PH H p q) (hsm : q.Sm) {n : Int} {K : o9 → Int → Hp → Prop} (h1 : ∀ H', Hle H H' → toldS q.nodes ≠ 0 → K ⟨⟨none, 0, 0⟩, ⟨none, 0, 0⟩⟩ (toldS q.nodes) H')
    (h2 : ∀ H', Hle H H' → toldS q.nodes = 0 → (n < 0 ∨ 8 < n) → K ⟨⟨none, 0, 0⟩, ⟨none, 0, 0⟩⟩ 290 H')
    (h3 : ∀ H', Hle H H' → toldS q.nodes = 0 → ¬ (n < 0 ∨ 8 < n) → toldS (q.unr n.toNat).nodes ≠ 0 → K ⟨⟨none, 0, 0⟩, ⟨none, 0, 0⟩⟩ (toldS (q.unr n.toNat).nodes) H')
    (h0 : ∀ y H', Hle H H' → toldS q.nodes = 0 → ¬ (n < 0 ∨ 8 < n) → toldS (q.unr n.toNat).nodes = 0 → PH H' y (q.unr n.toNat) → K y 0 H') : a4N p n H K := by
  refine b4i _ _ ?_
  unfold a2v
  refine c2I hT hp hsm fun H1 l1 => ?_
  rw [show vEnd (allV q) = toldS q.nodes from b5U _]
  refine ⟨fun c => h1 H1 l1 c, fun c => ⟨fun b => h2 H1 l1 c (by simpa using b), fun b => ?_⟩⟩
  have hb : ¬ (n < 0 ∨ 8 < n) := by simp only [Bool.or_eq_false_iff, decide_eq_false_iff_not] at b; omega
  have hst := (hp.le l1).stf hsm c
  obtain ⟨hd, hbd, xs, hsl, hxb, hr⟩ := hp.le l1
  obtain ⟨m, rfl⟩ : ∃ m : Nat, n = m := ⟨n.toNat, by omega⟩
  rw [Int.toNat_natCast] at h0 h3
  have lb := b6l q.body
  refine b5y hsl hr (by simp only [a9V]; omega) (fun t ht => f3o (by omega) (hst.1 t ht) (by have := d2q ht; simp only [a9V]; omega)) fun s2 ys H2 l2 hS2 hr2 => ?_
  have l12 := l1.trans l2
  have hp2 : PH H2 ⟨p.a3s, s2⟩ (q.unr m) := ⟨hd.le l2, hbd, ys, hS2, by rw [hr2.1, List.length_map]; simp only [big]; omega, hr2⟩
  refine f3j (hT.le l12) hp2 (e1K hst.1 hsm m) (fun y H3 l3 c' hy => h0 y H3 (l12.trans l3) c hb c' hy) fun H3 l3 c' => h3 H3 (l12.trans l3) c hb c'
end
end Go.Proofs.YtnhkdkcgdcgmdaaGreatDoor
namespace Go.Proofs.YtnhkdkcgdcgmdaaGreatDoor
open Go.RowKit
set_option maxRecDepth 100000
set_option maxHeartbeats 2000000
section
variable {ns ars : List ByteArray}
def Eqm (ns ars : List ByteArray) {α : Type} (m m' : M α) : Prop := ∀ k0 ev0 s, Okst k0 ev0 ns ars s → m s = m' s
theorem Eqm.refl {α : Type} (m : M α) : Eqm ns ars m m := fun _ _ _ _ => rfl
theorem Eqm.trans {α : Type} {a b c : M α} (h : Eqm ns ars a b) (k : Eqm ns ars b c) : Eqm ns ars a c := fun k0 ev0 s hs => (h k0 ev0 s hs).trans (k k0 ev0 s hs)
theorem Eqm.symm {α : Type} {a b : M α} (h : Eqm ns ars a b) : Eqm ns ars b a := fun k0 ev0 s hs => (h k0 ev0 s hs).symm
theorem Eqm.bnd {α β : Type} {F : α → Prop} {m m' : M α} {k k' : α → M β} (hm : Cm ns ars F m) (h1 : Eqm ns ars m m') (h2 : ∀ a, F a → Eqm ns ars (k a) (k' a)) : Eqm ns ars (bnd m k) (bnd m' k') := by
  intro k0 ev0 s hs
  have hp := hm.safe s hs
  unfold Go.Proofs.YtnhkdkcgdcgmdaaGreatDoor.bnd
  rw [← h1 k0 ev0 s hs]
  cases e : m s with
  | ok a s1 => rw [e] at hp; exact h2 a hp.1 k0 ev0 s1 hp.2.1
  | stop x y s1 => rfl
theorem c1q {f g : PT → M Unit} : ∀ {ts : List PT}, (∀ t ∈ ts, Cm ns ars (fun _ => True) (f t) ∧ Eqm ns ars (f t) (g t)) → Eqm ns ars (seqM (ts.map f)) (seqM (ts.map g))
  | [], _ => Eqm.refl _
  | t :: ts, h => by
    simp only [List.map_cons, seqM]
    exact Eqm.bnd (h t List.mem_cons_self).1 (h t List.mem_cons_self).2 fun _ _ => c1q fun u hu => h u (List.mem_cons_of_mem _ hu)
theorem d2r : ∀ (a b : List (M Unit)), seqM (a ++ b) = bnd (seqM a) fun _ => seqM b
  | [], b => rfl
  | m :: a, b => by rw [List.cons_append, seqM, seqM, b6n]; congr 1; funext _; exact d2r a b
theorem c7j {c : M Bool} {b b' : M Unit} (hc : Cm ns ars (fun _ => True) c) (hb : Cm ns ars (fun _ => True) b) (h : Eqm ns ars b b') : ∀ n, Cm ns ars (fun _ => True) (loopM c b n) ∧ Eqm ns ars (loopM c b n) (loopM c b' n)
  | 0 => ⟨.ret trivial, Eqm.refl _⟩
  | n + 1 => by
    have ih := c7j hc hb h n
    refine ⟨.bnd hc fun x _ => ?_, Eqm.bnd hc (Eqm.refl _) fun x _ => ?_⟩
    · cases x
      · exact .ret trivial
      · exact .bnd hb fun _ _ => ih.1
    · cases x
      · exact Eqm.refl _
      · exact Eqm.bnd hb h fun _ _ => ih.2
theorem e1M {c : M Bool} {b b' : M Unit} (hc : Cm ns ars (fun _ => True) c) (hb : Cm ns ars (fun _ => True) b) (h : Eqm ns ars b b') : Eqm ns ars (loopW c b) (loopW c b') := fun k0 ev0 s hs => (c7j hc hb h (s.left + 1)).2 k0 ev0 s hs
theorem d2s {us body : List PT} {w0 : PT} {c : M Bool} {b : M Unit} {u : PT} (hus : us = [u]) (hu : cvT u = c) (hbody : Eqm ns ars b (seqM (body.map rnT))) (hc : Cm ns ars (fun _ => True) c) (hB : Cm ns ars (fun _ => True) b) (hd : Dec ns ars c) (h0 : Eqm ns ars (loopW c b) (rnT w0)) : ∀ n, Eqm ns ars (loopW c b) (rnT (unrW us body w0 n))
  | 0 => by rw [unrW]; exact h0
  | n + 1 => by
    have ih := d2s hus hu hbody hc hB hd h0 n
    subst hus
    rw [unrW, g6z, hu, List.map_append, d2r]
    intro k0 ev0 s hs
    rw [d2m hc hB hd hs]
    refine Eqm.bnd hc (Eqm.refl _) (fun x _ => ?_) k0 ev0 s hs
    cases x
    · exact Eqm.refl _
    · refine Eqm.bnd hB hbody fun _ _ => ?_
      show Eqm ns ars _ (Go.Proofs.YtnhkdkcgdcgmdaaGreatDoor.bnd (rnT (unrW [u] body w0 n)) ret)
      rw [d4J]
      exact ih
theorem f3p (n : Nat) {t : PT} (ha : ArS t) : formT t = true → Nm ns ars (uT t) → Eqm ns ars (rnT t) (rnT (unrT n t)) := by
  induction ha with
  | @mk k s ts us vs ws hts hus hvs hws ih1 ih2 =>
    intro hf hu
    have hcm := cmS (ArS.mk hts hus hvs hws) hf hu
    have hu' := hu
    unfold sN at hf hu
    obtain ⟨_, h2⟩ := hu.own
    rw [formT, Bool.and_eq_true] at hf
    obtain ⟨hfl, hfs⟩ := hf
    have hV : ∀ t ∈ vs, Cm ns ars (fun _ => True) (rnT t) ∧ Eqm ns ars (rnT t) (rnT (unrT n t)) := fun t ht => by
      have hin : t ∈ us ++ (ts ++ (vs ++ ws)) := List.mem_append_right _ (List.mem_append_right _ (List.mem_append_left _ ht))
      exact ⟨cmS (hvs t ht) (E1 hfs hin) (h2.mem hin), ih1 t ht (E1 hfs hin) (h2.mem hin)⟩
    have hW : ∀ t ∈ ws, Cm ns ars (fun _ => True) (rnT t) ∧ Eqm ns ars (rnT t) (rnT (unrT n t)) := fun t ht => by
      have hin : t ∈ us ++ (ts ++ (vs ++ ws)) := List.mem_append_right _ (List.mem_append_right _ (List.mem_append_right _ ht))
      exact ⟨cmS (hws t ht) (E1 hfs hin) (h2.mem hin), ih2 t ht (E1 hfs hin) (h2.mem hin)⟩
    have hC : ∀ t ∈ us, Cm ns ars (fun _ => True) (cvT t) ∧ Dec ns ars (cvT t) := fun t ht => cmC (hus t ht) (E1 hfs (List.mem_append_left _ ht)) (h2.mem (List.mem_append_left _ ht))
    have eV := c1q hV
    have eW := c1q hW
    have cV := b3M (ns := ns) (ars := ars) (l := vs.map rnT) fun m hm => by
      obtain ⟨t, ht, rfl⟩ := List.mem_map.1 hm
      exact (hV t ht).1
    have ev2 : (vs.map (unrT n)).map rnT = vs.map fun t => rnT (unrT n t) := List.map_map ..
    have ew2 : (ws.map (unrT n)).map rnT = ws.map fun t => rnT (unrT n t) := List.map_map ..
    rw [b4D]
    unfold unrN
    by_cases hk : k = 4
    · subst hk
      rw [if_pos rfl]
      obtain ⟨hs, he, hf4⟩ := e1J hfl rfl
      have hul : us.length = 1 := by
        unfold formL formS at hfl
        simp at hfl
        omega
      obtain ⟨u, rfl⟩ := List.length_eq_one_iff.1 hul
      have hts0 : ts = [] := List.length_eq_zero_iff.1 (by omega)
      have hws0 : ws = [] := List.length_eq_zero_iff.1 (by omega)
      subst hts0; subst hws0
      have h1 := hC u List.mem_cons_self
      rw [c7h]
      refine d2s (us := [u]) rfl rfl (by rw [ev2]; exact eV) h1.1 cV h1.2 ?_ n
      rw [List.map_nil, c7h]
      exact e1M h1.1 cV (by rw [ev2]; exact eV)
    · rw [if_neg hk, b6m, b6m, ev2, ew2]
      unfold stN
      by_cases h1 : k = 1
      · rw [if_pos h1, if_pos h1]; exact Eqm.refl _
      rw [if_neg h1, if_neg h1]
      by_cases h2' : k = 2
      · rw [if_pos h2', if_pos h2']; exact Eqm.refl _
      rw [if_neg h2', if_neg h2']
      by_cases h3 : k = 3
      · rw [if_pos h3, if_pos h3]
        refine Eqm.bnd (F := fun _ => True) (c6v (fun m hm => by obtain ⟨t, ht, rfl⟩ := List.mem_map.1 hm; exact (hC t ht).1) 0) (Eqm.refl _) fun x _ => ?_
        cases x
        · exact eW
        · exact eV
      rw [if_neg h3, if_neg h3, if_neg hk, if_neg hk]
      exact Eqm.refl _
end
end Go.Proofs.YtnhkdkcgdcgmdaaGreatDoor
