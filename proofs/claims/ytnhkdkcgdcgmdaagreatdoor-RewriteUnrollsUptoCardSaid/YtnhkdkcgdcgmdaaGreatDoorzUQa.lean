/- Unrolling: the plain law; the program's. Contracts off the printed formulas. -/
import Derived.Test.YtnhkdkcgdcgmdaaGreatDoorzUQm
namespace Go.Proofs.YtnhkdkcgdcgmdaaGreatDoor
open Go.RowKit
set_option maxRecDepth 100000
set_option maxHeartbeats 2000000
def unrW (us body : List PT) (w0 : PT) : Nat → PT
  | 0 => w0
  | j + 1 => sN 3 ⟨#[]⟩ [] us (body ++ [unrW us body w0 j]) []
def unrN (n : Nat) (k : Int) (s : ByteArray) (ts us vs ws : List PT) : PT := if k = 4 then unrW us vs (sN k s ts us vs ws) n else sN k s ts us vs ws
def unrX (n : Nat) (cs cs' : List PT) : Lab → PT
  | .stmt k s e c t _ => unrN n k s ((cs.drop c).take e) (cs.take c) (((cs'.drop c).drop e).take t) (((cs'.drop c).drop e).drop t)
  | l => .mk l cs
mutual
def unrT (n : Nat) : PT → PT
  | .mk l cs => unrX n cs (unrTs n cs) l
def unrTs (n : Nat) : List PT → List PT
  | [] => []
  | t :: ts => unrT n t :: unrTs n ts
end
theorem c6M (n : Nat) : ∀ ts : List PT, unrTs n ts = ts.map (unrT n)
  | [] => by rw [unrTs]; rfl
  | t :: ts => by rw [unrTs, c6M n ts]; rfl
theorem d4w (n : Nat) (k : Int) (s : ByteArray) (ts us vs ws : List PT) : unrT n (sN k s ts us vs ws) = unrN n k s ts us (vs.map (unrT n)) (ws.map (unrT n)) := by
  unfold sN
  rw [unrT, unrX, c6M]
  simp only [List.map_append]
  have h1 : (us.map (unrT n)).length = us.length := List.length_map ..
  have h2 : (ts.map (unrT n)).length = ts.length := List.length_map ..
  have h3 : (vs.map (unrT n)).length = vs.length := List.length_map ..
  rw [List.take_left, List.drop_left, List.take_left]
  have e1 : (us.map (unrT n) ++ (ts.map (unrT n) ++ (vs.map (unrT n) ++ ws.map (unrT n)))).drop us.length = ts.map (unrT n) ++ (vs.map (unrT n) ++ ws.map (unrT n)) := by rw [← h1, List.drop_left]
  have e2 : (ts.map (unrT n) ++ (vs.map (unrT n) ++ ws.map (unrT n))).drop ts.length = vs.map (unrT n) ++ ws.map (unrT n) := by rw [← h2, List.drop_left]
  have e3 : (vs.map (unrT n) ++ ws.map (unrT n)).take vs.length = vs.map (unrT n) := by rw [← h3, List.take_left]
  have e4 : (vs.map (unrT n) ++ ws.map (unrT n)).drop vs.length = ws.map (unrT n) := by rw [← h3, List.drop_left]
  rw [e1, e2, e3, e4]
inductive StF : PT → Prop
  | mk {k : Int} {s : ByteArray} {ts us vs ws : List PT} : (k = 4 → s = ⟨#[]⟩ ∧ ts = [] ∧ ws = []) → (∀ t ∈ ts, Sm t) → (∀ t ∈ us, Sm t) → s.size ≤ sml → (∀ t ∈ vs, StF t) → (∀ t ∈ ws, StF t) → StF (sN k s ts us vs ws)
theorem i5E {k : Int} {s : ByteArray} {e c t f : Nat} (h : formL (.stmt k s e c t f) = true) (hk : k = 4) : s = ⟨#[]⟩ ∧ e = 0 ∧ f = 0 := by
  have h' : formS k s e c t f = true := h
  unfold formS at h'
  rw [if_neg (by omega), if_neg (by omega), if_neg (by omega), if_pos hk, Bool.and_eq_true, Bool.and_eq_true] at h'
  have q1 := of_decide_eq_true h'.1.1
  have q2 := of_decide_eq_true h'.1.2
  have q3 := of_decide_eq_true h'.2
  exact ⟨q1, by omega, by omega⟩
section
variable {H : Hp}
theorem i5F {e : d6} {t : PT} (he : SH H e t) (hf : formT t = true) (hs : Sm t) : StF t := by
  induction he with
  | @mk e xs ts ys us zs bs vs ws hsl hb hr hc hcb hcr ha hab hal har hbs hbb hbl hbr iha ihb =>
    rw [formT, Bool.and_eq_true] at hf
    have m : ∀ t ∈ us ++ (ts ++ (vs ++ ws)), formT t = true ∧ Sm t := fun t ht => ⟨b2o hf.2 ht, hs.num.2 t ht⟩
    have hz : e.f6.size ≤ sml := by cases hs with | mk q _ => exact q.1
    refine .mk (fun hk => ?_) (fun t ht => (m t (by simp [ht])).2) (fun t ht => (m t (by simp [ht])).2) hz (fun t ht => ?_) fun t ht => ?_
    · obtain ⟨q1, q2, q3⟩ := i5E hf.1 hk
      exact ⟨q1, List.length_eq_zero_iff.1 q2, List.length_eq_zero_iff.1 q3⟩
    · obtain ⟨i, hi⟩ := List.getElem?_of_mem ht
      obtain ⟨x, hx⟩ := D9 (l := zs) (i := i) (by have := C1 hi; omega)
      have := m t (by simp [ht])
      exact iha i x t hx hi this.1 this.2
    · obtain ⟨i, hi⟩ := List.getElem?_of_mem ht
      obtain ⟨x, hx⟩ := D9 (l := bs) (i := i) (by have := C1 hi; omega)
      have := m t (by simp [ht])
      exact ihb i x t hx hi this.1 this.2
end
theorem f9M {k : Int} {s : ByteArray} {ts us vs ws : List PT} (hs : s.size ≤ sml) (h : ∀ t ∈ us ++ (ts ++ (vs ++ ws)), Sm t) : Sm (sN k s ts us vs ws) := .mk ⟨hs, z64⟩ h
theorem i5G (n : Nat) {t : PT} (h : StF t) : Sm (unrT n t) := by
  induction h with
  | @mk k s ts us vs ws h0 h1 h2 hz _ _ ih1 ih2 =>
    rw [d4w]
    have hv : ∀ t ∈ vs.map (unrT n), Sm t := fun t ht => by obtain ⟨u, hu, rfl⟩ := List.mem_map.1 ht; exact ih1 u hu
    have hw : ∀ t ∈ ws.map (unrT n), Sm t := fun t ht => by obtain ⟨u, hu, rfl⟩ := List.mem_map.1 ht; exact ih2 u hu
    have self : Sm (sN k s ts us (vs.map (unrT n)) (ws.map (unrT n))) := f9M hz fun t ht => by
      rcases List.mem_append.1 ht with q | q
      · exact h2 t q
      · rcases List.mem_append.1 q with q | q
        · exact h1 t q
        · exact (List.mem_append.1 q).elim (hv t) (hw t)
    unfold unrN
    split
    · generalize vs.map (unrT n) = body at *
      generalize sN k s ts us body (ws.map (unrT n)) = w0 at *
      clear h0
      induction n with
      | zero => exact self
      | succ j ih =>
        have hj : ∀ j, Sm (unrW us body w0 j) := by
          intro j
          induction j with
          | zero => exact self
          | succ j ihj =>
            refine f9M (by decide) fun t ht => ?_
            rcases List.mem_append.1 ht with q | q
            · exact h2 t q
            · rw [List.nil_append, List.append_nil] at q
              rcases List.mem_append.1 q with q | q
              · exact hv t q
              · rw [List.mem_singleton.1 q]; exact ihj
        exact hj _
    · exact self
def PP.unr (q : PP) (n : Nat) : PP := ⟨q.decls, q.body.map (unrT n)⟩
def UnrS (n : Nat) (t : PT) : Prop := ∀ (H : Hp) (x : d6) (s11 : Sl) (s12 i : Int) (cs : List d6) (n2 : List d6 × Int → Hp → Prop) (K : Sl → Hp → Prop), SH H x t → cs.length ≤ a4f → (∀ y H', Hle H H' → SH H' y (unrT n t) → n2 (cs ++ [y], IntKind.wrap .i64 (i + 1)) H') →
  T1 x.A5 (n : Int) H (fun (r0 : Sl) (H1 : Hp) => T1 x.z6 (n : Int) H1 (fun (r1 : Sl) (H2 : Hp) =>
 (¬ (x.b6 = 4) →
 (cs.length + ([(d6.mk x.b6 x.f6 x.f5 x.i4 r0 r1)] : List d6).length) * 121 ≤ 140737488355328 ∧
 R1 (n : Int) (cs ++ [(d6.mk x.b6 x.f6 x.f5 x.i4 r0 r1)]) s11 s12 i H2 n2 K) ∧
 (x.b6 = 4 →
 TL ((0, x.b6, x.f6, x.f5, x.i4, r0, r1) : Int × Int × ByteArray × Sl × Sl × Sl × Sl) H2 fun (s : Int × Int × ByteArray × Sl × Sl × Sl × Sl) H n5 => a0j (n : Int) cs r0 s11 s12 i (n : Int) (d6.mk x.b6 x.f6 x.f5 x.i4 r0 r1) s.1 s.2.1 s.2.2.1 s.2.2.2.1 s.2.2.2.2.1 s.2.2.2.2.2.1 s.2.2.2.2.2.2 H n2 n5 K)))
section
variable {H : Hp}
theorem c1C {n : Nat} {s : Sl} {xs : List d6} {ts : List PT} (hs : SlH H 6 d9 s xs) (hr : u4 (SH H) xs ts) (hc : ts.length ≤ a4f) (ih : ∀ t ∈ ts, UnrS n t) {K : Sl → Hp → Prop}
    (h : ∀ s' ys H', Hle H H' → SlH H' 6 d9 s' ys → u4 (SH H') ys (ts.map (unrT n)) → K s' H') : T1 s (n : Int) H K := by
  refine b7Q _ _ ?_
  unfold a4u
  have n1 := hs.1
  have hlen := hr.1
  have hc' := hc
  simp only [a4f] at hc'
  refine U4 (fun (z : List d6 × Int) H' => 0 ≤ z.2 ∧ z.2 ≤ xs.length ∧ Hle H H' ∧ u4 (SH H') z.1 ((ts.take z.2.toNat).map (unrT n))) (fun z => (xs.length - z.2).toNat) ⟨Int.le_refl _, by dsimp only; omega, Hle.refl _, u4.nil⟩ ?_
  rintro ⟨cs, i⟩ H1 next ⟨i0, i1, l1, hcs⟩ hn
  dsimp only at i0 i1 l1 hcs ⊢
  unfold a3y
  have hcl : cs.length ≤ a4f := by rw [hcs.1, List.length_map, List.length_take]; omega
  refine ⟨fun q => ?_, fun q => ?_⟩
  · obtain ⟨x, hx, hE⟩ := (hs.le l1).get i0 (by omega)
    obtain ⟨t, ht, hxt⟩ := hr.get hx
    refine ⟨i0, by omega, x, hE, ih t (List.mem_of_getElem? ht) H1 x s _ i cs _ _ (hxt.le l1) hcl fun y H2 l2 hy => ?_⟩
    rw [B5 i0 (by omega)]
    refine hn _ _ ⟨by dsimp only; omega, by dsimp only; omega, l1.trans l2, ?_⟩ (by dsimp only; omega)
    dsimp only
    rw [show (i + 1).toNat = i.toNat + 1 by omega, O2 ht, List.map_append]
    exact (hcs.mono fun _ _ => SH.le l2).app (u4.one hy)
  · unfold a3x
    intro s2 H2 l2 hS2 _
    rw [List.take_of_length_le (by omega)] at hcs
    exact h s2 cs H2 (l1.trans l2) hS2 (hcs.mono fun _ _ => SH.le l2)
theorem g7a {n : Nat} (hn8 : n ≤ 8) {t : PT} (ha : StF t) : cT t ≤ a4f → UnrS n t := by
  induction ha with
  | @mk k s ts us vs ws h0 h1 h2 hz _ _ ih1 ih2 =>
    intro hcT H e s11 s12 i cs n2 K he hcl h
    have hcnt : cT (sN k s ts us vs ws) = 1 + (cTs us + (cTs ts + (cTs vs + cTs ws))) := by
      unfold sN; rw [cT, a9U, a9U, a9U]
    rw [hcnt] at hcT
    rw [d4w] at h
    generalize htt : sN k s ts us vs ws = tt at he
    cases he with
    | @mk _ xs ts' ys us' zs bs vs' ws' hs hb hr hc hcb hcr ha hab hal har hbs hbb hbl hbr =>
      unfold sN at htt
      injection htt with hl hk
      injection hl with q1 q2 q3 q4 q5 q6
      subst q1; subst q2
      obtain ⟨w1, hk1⟩ := List.append_inj hk q4
      obtain ⟨w2, hk2⟩ := List.append_inj hk1 q3
      obtain ⟨w3, w4⟩ := List.append_inj hk2 q5
      subst w1; subst w2; subst w3; subst w4
      have lv := a7P vs
      have lw := a7P ws
      have hcl' := hcl
      simp only [a4f] at hcl' hcT
      refine c1C ha ⟨hal, har⟩ (by simp only [a4f]; omega) (fun t ht => ih1 t ht (by have := b1P ht; simp only [a4f]; omega)) fun r3 zs2 H1 l1 hS3 hr3 => ?_
      refine c1C (hbs.le l1) ⟨hbl, fun i x t a b => SH.le l1 (hbr i x t a b)⟩ (by simp only [a4f]; omega) (fun t ht => ih2 t ht (by have := b1P ht; simp only [a4f]; omega)) fun r4 bs2 H2 l2 hS4 hr4 => ?_
      have l12 := l1.trans l2
      have z3 := hr3.1
      have z4 := hr4.1
      rw [List.length_map] at z3 z4
      have B3 : zs2.length ≤ big := by simp only [big]; omega
      have B4 : bs2.length ≤ big := by simp only [big]; omega
      have self : ∀ {H3 : Hp}, Hle H2 H3 → SH H3 ⟨e.b6, e.f6, e.f5, e.i4, r3, r4⟩ (sN e.b6 e.f6 ts us (vs.map (unrT n)) (ws.map (unrT n))) := fun {H3} l3 =>
        SH.node (hs.le (l12.trans l3)) hb (hr.mono fun _ _ => EH.le (l12.trans l3)) (hc.le (l12.trans l3)) hcb (hcr.mono fun _ _ => CH.le (l12.trans l3)) (hS3.le (l2.trans l3)) B3 (hr3.mono fun _ _ => SH.le (l2.trans l3)) (hS4.le l3) B4 (hr4.mono fun _ _ => SH.le l3)
      refine ⟨fun c4 => ⟨by simp only [List.length_cons, List.length_nil]; omega, ?_⟩, fun c4 => ?_⟩
      · unfold R1
        refine h _ H2 l12 ?_
        unfold unrN; rw [if_neg c4]
        exact self (Hle.refl _)
      · unfold unrN at h
        rw [if_pos c4] at h
        refine U4 (fun (z : Int × Int × ByteArray × Sl × Sl × Sl × Sl) H' => 0 ≤ z.1 ∧ z.1 ≤ n ∧ Hle H2 H' ∧ SH H' ⟨z.2.1, z.2.2.1, z.2.2.2.1, z.2.2.2.2.1, z.2.2.2.2.2.1, z.2.2.2.2.2.2⟩ (unrW us (vs.map (unrT n)) (sN e.b6 e.f6 ts us (vs.map (unrT n)) (ws.map (unrT n))) z.1.toNat)) (fun z => ((n : Int) - z.1).toNat) ⟨Int.le_refl _, by dsimp only; omega, Hle.refl _, self (Hle.refl _)⟩ ?_
        rintro ⟨j, a0, a1, a2, a3, a4, a5⟩ H3 next ⟨j0, j1, l3, hw⟩ hk'
        dsimp only at j0 j1 l3 hw ⊢
        unfold a0j
        refine ⟨fun q => ⟨zs2, hS3.le (l2.trans l3), by simp only [List.length_nil]; omega, by simp only [List.length_cons, List.length_nil]; omega, ?_⟩, fun q => ?_⟩
        · unfold a3v
          intro s5 H4 l4 hS5 _
          rw [B5 j0 (by omega)]
          refine hk' _ _ ⟨by dsimp only; omega, by dsimp only; omega, l3.trans l4, ?_⟩ (by dsimp only; omega)
          dsimp only
          rw [show (j + 1).toNat = j.toNat + 1 by omega, unrW]
          have l24 := l2.trans (l3.trans l4)
          have l14 := l12.trans (l3.trans l4)
          exact SH.node (SlH.nil _ _ _) (Nat.zero_le _) u4.nil (hc.le l14) hcb (hcr.mono fun _ _ => CH.le l14) hS5 (by rw [List.length_append, List.length_singleton]; simp only [big]; omega) ((hr3.mono fun _ _ => SH.le l24).app (u4.one (hw.le l4))) (SlH.nil _ _ _) (Nat.zero_le _) u4.nil
        · unfold a3w R1
          have : j.toNat = n := by omega
          rw [this] at hw
          exact ⟨by simp only [List.length_cons, List.length_nil]; omega, h _ H3 (l12.trans l3) hw⟩
theorem PH.stf {p : g7} {q : PP} (hp : PH H p q) (hsm : q.Sm) (h : toldS q.nodes = 0) : (∀ t ∈ q.body, StF t) ∧ cTs q.body + q.decls.length ≤ 4096 := by
  have hi := (e1H _).1 h
  have hf := hi.2.2.1
  unfold PP.nodes at hf
  rw [a7C, Bool.and_eq_true] at hf
  obtain ⟨_, _, xs, hsl, hxb, hr⟩ := hp
  refine ⟨fun t ht => ?_, ?_⟩
  · obtain ⟨i, hi⟩ := List.getElem?_of_mem ht
    obtain ⟨x, hx⟩ := D9 (l := xs) (i := i) (by have := C1 hi; have := hr.1; omega)
    exact i5F (hr.2 i x t hx hi) (b2o hf.2 ht) (hsm t (List.mem_append_right _ ht))
  · have q1 := hi.1
    unfold PP.nodes at q1
    rw [a9U] at q1
    have := a7P (q.decls.map dT)
    rw [List.length_map] at this; omega
theorem i5H {q : PP} (hst : ∀ t ∈ q.body, StF t) (hsm : q.Sm) (n : Nat) : (q.unr n).Sm := by
  intro t ht
  unfold PP.nodes PP.unr at ht
  rcases List.mem_append.1 ht with ht | ht
  · exact hsm t (List.mem_append_left _ ht)
  · obtain ⟨u, hu, rfl⟩ := List.mem_map.1 ht
    exact i5G n (hst u hu)
theorem f2Z (hT : TabsH H) {p : g7} {q : PP} (hp : PH H p q) (hsm : q.Sm) {n : Int} {K : g7 → Int → Hp → Prop} (h1 : ∀ H', Hle H H' → toldS q.nodes ≠ 0 → K ⟨⟨none, 0, 0⟩, ⟨none, 0, 0⟩⟩ (toldS q.nodes) H')
    (h2 : ∀ H', Hle H H' → toldS q.nodes = 0 → (n < 0 ∨ 8 < n) → K ⟨⟨none, 0, 0⟩, ⟨none, 0, 0⟩⟩ 290 H')
    (h3 : ∀ H', Hle H H' → toldS q.nodes = 0 → ¬ (n < 0 ∨ 8 < n) → toldS (q.unr n.toNat).nodes ≠ 0 → K ⟨⟨none, 0, 0⟩, ⟨none, 0, 0⟩⟩ (toldS (q.unr n.toNat).nodes) H')
    (h0 : ∀ y H', Hle H H' → toldS q.nodes = 0 → ¬ (n < 0 ∨ 8 < n) → toldS (q.unr n.toNat).nodes = 0 → PH H' y (q.unr n.toNat) → K y 0 H') : a8u p n H K := by
  refine c0n _ _ ?_
  unfold a5L
  refine d9d hT hp hsm fun H1 l1 => ?_
  rw [show vEnd (allV q) = toldS q.nodes from c7x _]
  refine ⟨fun c => h1 H1 l1 c, fun c => ⟨fun b => h2 H1 l1 c (by simpa using b), fun b => ?_⟩⟩
  have hb : ¬ (n < 0 ∨ 8 < n) := by simp only [Bool.or_eq_false_iff, decide_eq_false_iff_not] at b; omega
  have hst := (hp.le l1).stf hsm c
  obtain ⟨hd, hbd, xs, hsl, hxb, hr⟩ := hp.le l1
  obtain ⟨m, rfl⟩ : ∃ m : Nat, n = m := ⟨n.toNat, by omega⟩
  rw [Int.toNat_natCast] at h0 h3
  have lb := a7P q.body
  refine c1C hsl hr (by simp only [a4f]; omega) (fun t ht => g7a (by omega) (hst.1 t ht) (by have := b1P ht; simp only [a4f]; omega)) fun s2 ys H2 l2 hS2 hr2 => ?_
  have l12 := l1.trans l2
  have hp2 : PH H2 ⟨p.r5, s2⟩ (q.unr m) := ⟨hd.le l2, hbd, ys, hS2, by rw [hr2.1, List.length_map]; simp only [big]; omega, hr2⟩
  refine g6Y (hT.le l12) hp2 (i5H hst.1 hsm m) (fun y H3 l3 c' hy => h0 y H3 (l12.trans l3) c hb c' hy) fun H3 l3 c' => h3 H3 (l12.trans l3) c hb c'
end
end Go.Proofs.YtnhkdkcgdcgmdaaGreatDoor
