/- Folding of statements: the program's, the document's; the law RewriteFolds. Contracts off the printed formulas. -/
import Derived.Test.YtnhkdkcgdcgmdaaGreatDoorzRQl
import Derived.Test.YtnhkdkcgdcgmdaaGreatDoorzRN6
namespace Go.Proofs.YtnhkdkcgdcgmdaaGreatDoor
open Go.RowKit
set_option maxRecDepth 100000
set_option maxHeartbeats 2000000
theorem e3n {t : PT} (ha : ArS t) (hf : formT t = true) : (foldA t).length ≤ cT t := Nat.le_trans (c1K _) (slimS ha hf).1
theorem e0c {ts : List PT} (ha : ∀ t ∈ ts, ArS t ∧ formT t = true) : (foldSs ts).length ≤ cTs ts := Nat.le_trans (c1K _) (slimSs fun t ht => slimS (ha t ht).1 (ha t ht).2).1
theorem e7J (ts : List PT) (i : Nat) : cTs (ts.take i) ≤ cTs ts := by
  have := a0A (ts.take i) (ts.drop i)
  rw [List.take_append_drop] at this; omega
theorem c5Q {ts : List PT} {t : PT} (h : t ∈ ts) : cT t ≤ cTs ts := by
  induction ts with
  | nil => cases h
  | cons u ts ih =>
    rw [cTs]
    rcases List.mem_cons.1 h with e | h
    · rw [e]; omega
    · have := ih h; omega
abbrev b2s : Nat := 4096
def FoldsS (t : PT) : Prop := ∀ (H : Hp) (x : d5) (K : Sl → Hp → Prop), SH H x t → (∀ s ys H', Hle H H' → SlH H' 6 g7 s ys → y8 (SH H') ys (foldA t) → K s H') → a6j x H K
section
variable {H : Hp}
theorem SH.node {k : Int} {nm : ByteArray} {s1 s2 s3 s4 : Sl} {xs : List b6} {ts : List PT} {ys : List b9} {us : List PT} {zs bs : List d5} {vs ws : List PT}
    (h1 : SlH H 4 b8 s1 xs) (b1 : xs.length ≤ big) (r1 : y8 (EH H) xs ts) (h2 : SlH H 4 d6 s2 ys) (b2 : ys.length ≤ big) (r2 : y8 (CH H) ys us) (h3 : SlH H 6 g7 s3 zs) (b3 : zs.length ≤ big) (r3 : y8 (SH H) zs vs) (h4 : SlH H 6 g7 s4 bs) (b4 : bs.length ≤ big) (r4 : y8 (SH H) bs ws) :
    SH H ⟨k, nm, s1, s2, s3, s4⟩ (sN k nm ts us vs ws) := SH.mk (s := ⟨k, nm, s1, s2, s3, s4⟩) h1 b1 r1 h2 b2 r2 h3 b3 r3.1 r3.2 h4 b4 r4.1 r4.2
theorem e7K {e : d5} {ys : List b9} {us : List PT} (hs : SlH H 4 d6 e.r8 ys) (hr : y8 (CH H) ys us) {k : Int} {K : Bool → Hp → Prop} (h : K (asked k us) H) : N3 k e H K := by
  refine b4Q _ _ ?_
  unfold a2F
  have n1 := hs.1
  have n2 := hr.1
  cases us with
  | nil =>
    refine ⟨⟨0, 0, ⟨none, 0, 0⟩, ⟨none, 0, 0⟩⟩, fun q => ?_, ?_⟩
    · have := of_decide_eq_true q
      rw [List.length_nil] at n2; omega
    · have : decide (0 < (e.r8.n : Int)) = false := decide_eq_false (by rw [List.length_nil] at n2; omega)
      rw [this]; exact h
  | cons a us =>
    have hl : 0 < ys.length := by rw [n2, List.length_cons]; omega
    obtain ⟨y, hy⟩ := B2 (l := ys) (i := 0) hl
    obtain ⟨hE, hn⟩ := hs.at_ hy
    refine ⟨y, fun _ => ⟨by decide, hn, hE⟩, ?_⟩
    rw [decide_eq_true (show 0 < (e.r8.n : Int) from hn), Bool.true_and, (hr.2 0 y a hy rfl).kind]; exact h
theorem c3I {s : Sl} {xs : List d5} {ts : List PT} (hs : SlH H 6 g7 s xs) (hb : xs.length ≤ big) (hr : y8 (SH H) xs ts) (ha : ∀ t ∈ ts, ArS t ∧ formT t = true) (hc : cTs ts ≤ b2s) (ih : ∀ t ∈ ts, FoldsS t) {K : Sl → Hp → Prop}
    (h : ∀ s' ys H', Hle H H' → SlH H' 6 g7 s' ys → ys.length ≤ b2s → y8 (SH H') ys (foldSs ts) → K s' H') : X5 s H K := by
  refine b6f _ ?_
  unfold a3v
  have n1 := hs.1
  have hb' := hb
  simp only [big] at hb'
  have hlen := hr.1
  refine a2q (fun (z : List d5 × Int) H' => 0 ≤ z.2 ∧ z.2 ≤ xs.length ∧ Hle H H' ∧ y8 (SH H') z.1 (foldSs (ts.take z.2.toNat))) (fun z => (xs.length - z.2).toNat) ⟨Int.le_refl _, by dsimp only; omega, Hle.refl _, y8.nil⟩ ?_
  rintro ⟨cs, i⟩ H1 next ⟨i0, i1, l1, hcs⟩ hn
  dsimp only at i0 i1 l1 hcs ⊢
  unfold a1m
  have hcl : cs.length ≤ b2s := by
    rw [hcs.1]
    have := e0c (ts := ts.take i.toNat) fun t ht => ha t (List.mem_of_mem_take ht)
    have := e7J ts i.toNat
    omega
  refine ⟨fun q => ?_, fun q => ?_⟩
  · obtain ⟨x, hx, hE⟩ := (hs.le l1).get i0 (by omega)
    obtain ⟨t, ht, hxt⟩ := hr.get hx
    have hm := List.mem_of_getElem? ht
    refine ⟨i0, by omega, x, hE, ih t hm H1 x _ (hxt.le l1) fun s2 ys H2 l2 hS2 hy => ⟨ys, hS2, ?_, ?_⟩⟩
    · have := e3n (ha t hm).1 (ha t hm).2
      have := c5Q hm
      have := hy.1
      simp only [b2s] at hc hcl; omega
    · rw [Q1 i0 (by omega)]
      refine hn _ _ ⟨by dsimp only; omega, by dsimp only; omega, l1.trans l2, ?_⟩ (by dsimp only; omega)
      dsimp only
      rw [show (i + 1).toNat = i.toNat + 1 by omega, O9 ht, c5M, c5N]
      exact (hcs.mono fun _ _ => SH.le l2).app hy
  · unfold a1l
    intro s2 H2 l2 hS2 _
    rw [List.take_of_length_le (by omega)] at hcs
    exact h s2 cs H2 (l1.trans l2) hS2 hcl (hcs.mono fun _ _ => SH.le l2)
theorem f4P {t : PT} (ha : ArS t) : formT t = true → cT t ≤ b2s → FoldsS t := by
  induction ha with
  | @mk k s ts us vs ws h1 h2 h3 h4 ih1 ih2 =>
    intro hf hcT H e K he h
    have hcnt : cT (sN k s ts us vs ws) = 1 + (cTs us + (cTs ts + (cTs vs + cTs ws))) := by
      unfold sN; rw [cT, a0A, a0A, a0A]
    rw [hcnt] at hcT
    unfold sN at hf
    rw [formT, Bool.and_eq_true] at hf
    have m3 : ∀ t ∈ vs, ArS t ∧ formT t = true := fun t ht => ⟨h3 t ht, A8 hf.2 (by simp [ht])⟩
    have m4 : ∀ t ∈ ws, ArS t ∧ formT t = true := fun t ht => ⟨h4 t ht, A8 hf.2 (by simp [ht])⟩
    refine b6T _ ?_
    unfold a3Q
    rw [a8q] at h
    generalize htt : sN k s ts us vs ws = tt at he
    cases he with
    | @mk _ xs ts' ys us' zs bs vs' ws' hs hb hr hc hcb hcr ha hab hal har hbs hbb hbl hbr =>
      unfold sN at htt
      injection htt with hl hk
      injection hl with q1 q2 q3 q4 q5 q6
      subst q1; subst q2
      obtain ⟨w1, hk1⟩ := List.append_inj hk q4
      obtain ⟨w2, hk2⟩ := List.append_inj hk1 q3
      obtain ⟨w3, w4⟩ := List.append_inj hk2 q5
      subst w1; subst w2; subst w3; subst w4
      refine c8b hc hcb hcr (fun t ht => c8d (h2 t ht)) fun r2 ys2 H1 l1 hS2 b2 hr2 => ?_
      refine c0C (hs.le l1) hb (hr.mono fun _ _ => EH.le l1) (fun t ht => c7n (h1 t ht)) fun r1 xs2 H2 l2 hS1 b1 hr1 => ?_
      have l12 := l1.trans l2
      refine c3I (ha.le l12) hab ⟨hal, fun i x t a b => SH.le l12 (har i x t a b)⟩ m3 (by omega) (fun t ht => ih1 t ht (m3 t ht).2 (by have := c5Q ht; omega)) fun r3 zs2 H3 l3 hS3 b3 hr3 => ?_
      have l13 := l12.trans l3
      refine c3I (hbs.le l13) hbb ⟨hbl, fun i x t a b => SH.le l13 (hbr i x t a b)⟩ m4 (by omega) (fun t ht => ih2 t ht (m4 t ht).2 (by have := c5Q ht; omega)) fun r4 bs2 H4 l4 hS4 b4 hr4 => ?_
      have l14 := l13.trans l4
      have l24 := l2.trans (l3.trans l4)
      have l34 := l3.trans l4
      have S2 := hS2.le l24
      have R2 := hr2.mono fun _ _ => CH.le l24
      have S3 := hS3.le l4
      have R3 := hr3.mono fun _ _ => SH.le l4
      have self : SH H4 ⟨e.a8, e.b7, r1, r2, r3, r4⟩ (sN e.a8 e.b7 (ts.map foldT) (us.map foldT) (foldSs vs) (foldSs ws)) :=
        SH.node (hS1.le l34) b1 (hr1.mono fun _ _ => EH.le l34) S2 b2 R2 S3 (by simp only [big]; simp only [b2s] at b3; omega) R3 hS4 (by simp only [big]; simp only [b2s] at b4; omega) hr4
      generalize us.map foldT = us' at *
      generalize ts.map foldT = ts' at *
      unfold foldStm at h
      have ask : ∀ {kd : Int} {K' : Bool → Hp → Prop}, K' (asked kd us') H4 → N3 kd ⟨e.a8, e.b7, r1, r2, r3, r4⟩ H4 K' := fun hk => e7K S2 R2 hk
      have fin : ∀ {b : Bool}, (b = true ↔ (e.a8 = 7 ∨ (e.a8 = 6 ∧ asked 1 us' = true) ∨ (e.a8 = 4 ∧ asked 2 us' = true))) → K4 b ⟨e.a8, e.b7, r1, r2, r3, r4⟩ H4 K := by
        intro b hbi
        unfold K4
        refine ⟨fun q => ?_, fun q => ?_⟩
        · rw [if_pos (hbi.1 q)] at h
          exact h _ [] H4 l14 (SlH.nil _ _ _) y8.nil
        · rw [if_neg (fun w => by rw [hbi.2 w] at q; cases q)] at h
          refine a8T (asked 1 us') (fun _ K' hk => ask hk) ⟨fun q2 => ?_, fun q2 => a8T (asked 2 us') (fun _ K' hk => ask hk) ⟨fun q3 => ?_, fun q3 => ?_⟩⟩
          · have : e.a8 = 3 ∧ asked 1 us' = true := by
              rw [Bool.and_eq_true] at q2
              refine ⟨of_decide_eq_true q2.1, ?_⟩
              have := q2.2
              rw [if_pos q2.1] at this; exact this
            rw [if_pos this] at h
            exact h _ _ H4 l14 S3 R3
          · have n1 : ¬ (e.a8 = 3 ∧ asked 1 us' = true) := fun w => by
              rw [decide_eq_true w.1, if_pos rfl, w.2] at q2; cases q2
            have : e.a8 = 3 ∧ asked 2 us' = true := by
              rw [Bool.and_eq_true] at q3
              refine ⟨of_decide_eq_true q3.1, ?_⟩
              have := q3.2
              rw [if_pos q3.1] at this; exact this
            rw [if_neg n1, if_pos this] at h
            exact h _ _ H4 l14 hS4 hr4
          · have n1 : ¬ (e.a8 = 3 ∧ asked 1 us' = true) := fun w => by
              rw [decide_eq_true w.1, if_pos rfl, w.2] at q2; cases q2
            have n2 : ¬ (e.a8 = 3 ∧ asked 2 us' = true) := fun w => by
              rw [decide_eq_true w.1, if_pos rfl, w.2] at q3; cases q3
            rw [if_neg n1, if_neg n2] at h
            intro s5 H5 l5 hS5 _
            exact h s5 _ H5 (l14.trans l5) hS5 (y8.one (self.le l5))
      refine ⟨fun c7 => fin ⟨fun _ => .inl c7, fun _ => decide_eq_true c7⟩, fun c7 => ?_⟩
      refine a8T (asked 1 us') (fun _ K' hk => ask hk) ⟨fun q2 => fin ⟨fun _ => ?_, fun _ => q2⟩, fun q2 => a8T (asked 2 us') (fun _ K' hk => ask hk) (fin ?_)⟩
      · rw [Bool.and_eq_true] at q2
        have := q2.2
        rw [if_pos q2.1] at this
        exact .inr (.inl ⟨of_decide_eq_true q2.1, this⟩)
      · have n6 : ¬ (e.a8 = 6 ∧ asked 1 us' = true) := fun w => by
          rw [decide_eq_true w.1, if_pos rfl, w.2] at q2; cases q2
        constructor
        · intro q3
          rw [Bool.and_eq_true] at q3
          have := q3.2
          rw [if_pos q3.1] at this
          exact .inr (.inr ⟨of_decide_eq_true q3.1, this⟩)
        · rintro (w | w | w)
          · exact (c7 w).elim
          · exact (n6 w).elim
          · rw [decide_eq_true w.1, if_pos rfl, w.2]; rfl
theorem e3o {s : Sl} {xs : List d5} {ts : List PT} (hs : SlH H 6 g7 s xs) (hb : xs.length ≤ big) (hr : y8 (SH H) xs ts) (ha : ∀ t ∈ ts, ArS t ∧ formT t = true) (hc : cTs ts ≤ b2s) {K : Sl → Hp → Prop}
    (h : ∀ s' ys H', Hle H H' → SlH H' 6 g7 s' ys → ys.length ≤ b2s → y8 (SH H') ys (foldSs ts) → K s' H') : X5 s H K :=
  c3I hs hb hr ha hc (fun t ht => f4P (ha t ht).1 (ha t ht).2 (by have := c5Q ht; omega)) h
def PP.fold (q : PP) : PP := ⟨q.decls, foldSs q.body⟩
theorem PH.ars {p : r7} {q : PP} (hp : PH H p q) (hsm : q.Sm) (h : toldS q.nodes = 0) : (∀ t ∈ q.body, ArS t ∧ formT t = true) ∧ cTs q.body ≤ b2s := by
  have hi := (b4q _).1 h
  have hf := hi.2.2.1
  unfold PP.nodes at hf
  rw [a6S, Bool.and_eq_true] at hf
  obtain ⟨_, _, xs, hsl, hxb, hr⟩ := hp
  refine ⟨fun t ht => ?_, ?_⟩
  · obtain ⟨i, hi⟩ := List.getElem?_of_mem ht
    obtain ⟨x, hx⟩ := B2 (l := xs) (i := i) (by have := M1 hi; have := hr.1; omega)
    have hft := A8 hf.2 ht
    exact ⟨g8f (hr.2 i x t hx hi) hft (hsm t (List.mem_append_right _ ht)), hft⟩
  · have := hi.1
    unfold PP.nodes at this
    rw [a0A] at this
    simp only [b2s]; omega
theorem f4Q (hT : TabsH H) {p : r7} {q : PP} (hp : PH H p q) (hsm : q.Sm) {K : r7 → Int → Hp → Prop} (h0 : ∀ y H', Hle H H' → toldS q.nodes = 0 → PH H' y q.fold → K y 0 H') (h1 : ∀ H', Hle H H' → toldS q.nodes ≠ 0 → K ⟨⟨none, 0, 0⟩, ⟨none, 0, 0⟩⟩ (toldS q.nodes) H') : a6k p H K := by
  refine b6U _ ?_
  unfold a3R
  refine f4M hT hp hsm (fun y H1 l1 c hy => ⟨fun n => (n rfl).elim, fun _ => ?_⟩) fun H1 l1 c => ⟨fun _ => h1 H1 l1 c, fun n => (c n).elim⟩
  have hars := hy.ars hsm c
  obtain ⟨hd, hbd, xs, hsl, hxb, hr⟩ := hy
  refine e3o hsl hxb hr hars.1 hars.2 fun s2 ys H2 l2 hS2 hb2 hr2 => ?_
  exact h0 _ H2 (l1.trans l2) c ⟨hd.le l2, hbd, ys, hS2, by simp only [big]; simp only [b2s] at hb2; omega, hr2⟩
end
section
variable {H : Hp}
theorem e7L {q : PP} (ha : ∀ t ∈ q.body, ArS t ∧ formT t = true) (h : toldS q.nodes = 0) : cTs q.fold.nodes ≤ cTs q.nodes ∧ dpTs 64 q.fold.nodes 1 ∧ cTs q.nodes ≤ 4096 := by
  have hi := (b4q _).1 h
  have hs := slimSs fun t ht => slimS (ha t ht).1 (ha t ht).2
  have hd := hi.2.1
  refine ⟨?_, ?_, hi.1⟩
  · unfold PP.nodes PP.fold
    rw [a0A, a0A]; have := hs.1; dsimp only; omega
  · unfold PP.nodes at hd ⊢
    rw [a7a] at hd ⊢
    exact ⟨hd.1, hs.2 64 1 hd.2⟩
end
end Go.Proofs.YtnhkdkcgdcgmdaaGreatDoor
namespace Go.Proofs.YtnhkdkcgdcgmdaaGreatDoor
open Go.RowKit
set_option maxRecDepth 100000
set_option maxHeartbeats 2000000
inductive StF : PT → Prop
  | mk {k : Int} {s : ByteArray} {ts us vs ws : List PT} : (k = 4 → s = ⟨#[]⟩ ∧ ts = [] ∧ ws = []) → (∀ t ∈ ts, Sm t) → (∀ t ∈ us, Sm t) → s.size ≤ sml → (∀ t ∈ vs, StF t) → (∀ t ∈ ws, StF t) → StF (sN k s ts us vs ws)
section
variable {H : Hp}
end
section
variable {H : Hp}
end
end Go.Proofs.YtnhkdkcgdcgmdaaGreatDoor
namespace Go.Proofs.YtnhkdkcgdcgmdaaGreatDoor
open Go.RowKit
set_option maxRecDepth 100000
set_option maxHeartbeats 2000000
section
variable {ns ars : List ByteArray}
def Eqm (ns ars : List ByteArray) {α : Type} (m m' : M α) : Prop := ∀ k0 ev0 s, Okst k0 ev0 ns ars s → m s = m' s
theorem Eqm.refl {α : Type} (m : M α) : Eqm ns ars m m := fun _ _ _ _ => rfl
theorem Eqm.trans {α : Type} {a b c : M α} (h : Eqm ns ars a b) (k : Eqm ns ars b c) : Eqm ns ars a c := fun k0 ev0 s hs => (h k0 ev0 s hs).trans (k k0 ev0 s hs)
theorem Eqm.symm {α : Type} {a b : M α} (h : Eqm ns ars a b) : Eqm ns ars b a := fun k0 ev0 s hs => (h k0 ev0 s hs).symm
theorem Eqm.bnd {α β : Type} {F : α → Prop} {m m' : M α} {k k' : α → M β} (hm : Cm ns ars F m) (h1 : Eqm ns ars m m') (h2 : ∀ a, F a → Eqm ns ars (k a) (k' a)) : Eqm ns ars (bnd m k) (bnd m' k') := by
  intro k0 ev0 s hs
  have hp := hm.safe s hs
  unfold Go.Proofs.YtnhkdkcgdcgmdaaGreatDoor.bnd
  rw [← h1 k0 ev0 s hs]
  cases e : m s with
  | ok a s1 => rw [e] at hp; exact h2 a hp.1 k0 ev0 s1 hp.2.1
  | stop x y s1 => rfl
theorem d3C : ∀ (a b : List (M Unit)), seqM (a ++ b) = bnd (seqM a) fun _ => seqM b
  | [], b => rfl
  | m :: a, b => by rw [List.cons_append, seqM, seqM, a9R]; congr 1; funext _; exact d3C a b
end
end Go.Proofs.YtnhkdkcgdcgmdaaGreatDoor
