/- Folding of statements: the program's, the document's; the law RewriteFolds. Contracts off the printed formulas. -/
import Derived.Test.YtnhkdkcgdcgmdaaGreatDoorzFQl
namespace Go.Proofs.YtnhkdkcgdcgmdaaGreatDoor
open Go.RowKit
set_option maxRecDepth 100000
set_option maxHeartbeats 2000000
theorem f8r {t : PT} (ha : ArS t) (hf : formT t = true) : (foldA t).length ≤ cT t := Nat.le_trans (d1o _) (slimS ha hf).1
theorem d6f {ts : List PT} (ha : ∀ t ∈ ts, ArS t ∧ formT t = true) : (foldSs ts).length ≤ cTs ts := Nat.le_trans (d1o _) (slimSs fun t ht => slimS (ha t ht).1 (ha t ht).2).1
theorem e5U (ts : List PT) (i : Nat) : cTs (ts.take i) ≤ cTs ts := by
  have := a1T (ts.take i) (ts.drop i)
  rw [List.take_append_drop] at this; omega
theorem c2f {ts : List PT} {t : PT} (h : t ∈ ts) : cT t ≤ cTs ts := by
  induction ts with
  | nil => cases h
  | cons u ts ih =>
    rw [cTs]
    rcases List.mem_cons.1 h with e | h
    · rw [e]; omega
    · have := ih h; omega
def kindR : List PT → Int
  | a :: _ => kindC a
  | [] => 0
theorem e7J {k : Int} (hk : k ≠ 0) (us : List PT) : asked k us = decide (kindR us = k) := by
  cases us with
  | nil => simp [asked, kindR, hk.symm]
  | cons a us => rfl
abbrev b0i : Nat := 4096
def FoldsS (t : PT) : Prop := ∀ (H : Hp) (x : d8) (K : Sl → Hp → Prop), SH H x t → (∀ s ys H', Hle H H' → SlH H' 6 g8 s ys → u6 (SH H') ys (foldA t) → K s H') → b0H x H K
section
variable {H : Hp}
theorem SH.node {k : Int} {nm : ByteArray} {s1 s2 s3 s4 : Sl} {xs : List a8} {ts : List PT} {ys : List b8} {us : List PT} {zs bs : List d8} {vs ws : List PT}
    (h1 : SlH H 4 b7 s1 xs) (b1 : xs.length ≤ big) (r1 : u6 (EH H) xs ts) (h2 : SlH H 4 d6 s2 ys) (b2 : ys.length ≤ big) (r2 : u6 (CH H) ys us) (h3 : SlH H 6 g8 s3 zs) (b3 : zs.length ≤ big) (r3 : u6 (SH H) zs vs) (h4 : SlH H 6 g8 s4 bs) (b4 : bs.length ≤ big) (r4 : u6 (SH H) bs ws) :
    SH H ⟨k, nm, s1, s2, s3, s4⟩ (sN k nm ts us vs ws) := SH.mk (s := ⟨k, nm, s1, s2, s3, s4⟩) h1 b1 r1 h2 b2 r2 h3 b3 r3.1 r3.2 h4 b4 r4.1 r4.2
theorem g4z {e : d8} {ys : List b8} {us : List PT} (hs : SlH H 4 d6 e.m9 ys) (hr : u6 (CH H) ys us) {k : Int} {K : Bool → Hp → Prop} (h : K (asked k us) H) : O5 k e H K := by
  refine c2D _ _ ?_
  unfold a6b
  have n1 := hs.1
  have n2 := hr.1
  cases us with
  | nil =>
    refine ⟨⟨0, 0, ⟨none, 0, 0⟩, ⟨none, 0, 0⟩⟩, fun q => ?_, ?_⟩
    · have := of_decide_eq_true q
      rw [List.length_nil] at n2; omega
    · have : decide (0 < (e.m9.n : Int)) = false := decide_eq_false (by rw [List.length_nil] at n2; omega)
      rw [this]; exact h
  | cons a us =>
    have hl : 0 < ys.length := by rw [n2, List.length_cons]; omega
    obtain ⟨y, hy⟩ := C5 (l := ys) (i := 0) hl
    obtain ⟨hE, hn⟩ := hs.at_ hy
    refine ⟨y, fun _ => ⟨by decide, hn, hE⟩, ?_⟩
    rw [decide_eq_true (show 0 < (e.m9.n : Int) from hn), Bool.true_and, (hr.2 0 y a hy rfl).kind]; exact h
theorem d3u {s : Sl} {xs : List d8} {ts : List PT} (hs : SlH H 6 g8 s xs) (hb : xs.length ≤ big) (hr : u6 (SH H) xs ts) (ha : ∀ t ∈ ts, ArS t ∧ formT t = true) (hc : cTs ts ≤ b0i) (ih : ∀ t ∈ ts, FoldsS t) {K : Sl → Hp → Prop}
    (h : ∀ s' ys H', Hle H H' → SlH H' 6 g8 s' ys → ys.length ≤ b0i → u6 (SH H') ys (foldSs ts) → K s' H') : a1x s H K := by
  refine c4e _ ?_
  unfold a6V
  have n1 := hs.1
  have hb' := hb
  simp only [big] at hb'
  have hlen := hr.1
  refine Y6 (fun (z : List d8 × Int) H' => 0 ≤ z.2 ∧ z.2 ≤ xs.length ∧ Hle H H' ∧ u6 (SH H') z.1 (foldSs (ts.take z.2.toNat))) (fun z => (xs.length - z.2).toNat) ⟨Int.le_refl _, by dsimp only; omega, Hle.refl _, u6.nil⟩ ?_
  rintro ⟨cs, i⟩ H1 next ⟨i0, i1, l1, hcs⟩ hn
  dsimp only at i0 i1 l1 hcs ⊢
  unfold a4u
  have hcl : cs.length ≤ b0i := by
    rw [hcs.1]
    have := d6f (ts := ts.take i.toNat) fun t ht => ha t (List.mem_of_mem_take ht)
    have := e5U ts i.toNat
    omega
  refine ⟨fun q => ?_, fun q => ?_⟩
  · obtain ⟨x, hx, hE⟩ := (hs.le l1).get i0 (by omega)
    obtain ⟨t, ht, hxt⟩ := hr.get hx
    have hm := List.mem_of_getElem? ht
    refine ⟨i0, by omega, x, hE, ih t hm H1 x _ (hxt.le l1) fun s2 ys H2 l2 hS2 hy => ⟨ys, hS2, ?_, ?_⟩⟩
    · have := f8r (ha t hm).1 (ha t hm).2
      have := c2f hm
      have := hy.1
      simp only [b0i] at hc hcl; omega
    · rw [B9 i0 (by omega)]
      refine hn _ _ ⟨by dsimp only; omega, by dsimp only; omega, l1.trans l2, ?_⟩ (by dsimp only; omega)
      dsimp only
      rw [show (i + 1).toNat = i.toNat + 1 by omega, N3 ht, d6c, d6d]
      exact (hcs.mono fun _ _ => SH.le l2).app hy
  · unfold a4t
    intro s2 H2 l2 hS2 _
    rw [List.take_of_length_le (by omega)] at hcs
    exact h s2 cs H2 (l1.trans l2) hS2 hcl (hcs.mono fun _ _ => SH.le l2)
theorem h5r {t : PT} (ha : ArS t) : formT t = true → cT t ≤ b0i → FoldsS t := by
  induction ha with
  | @mk k s ts us vs ws h1 h2 h3 h4 ih1 ih2 =>
    intro hf hcT H e K he h
    have hcnt : cT (sN k s ts us vs ws) = 1 + (cTs us + (cTs ts + (cTs vs + cTs ws))) := by
      unfold sN; rw [cT, a1T, a1T, a1T]
    rw [hcnt] at hcT
    unfold sN at hf
    rw [formT, Bool.and_eq_true] at hf
    have m3 : ∀ t ∈ vs, ArS t ∧ formT t = true := fun t ht => ⟨h3 t ht, W9 hf.2 (by simp [ht])⟩
    have m4 : ∀ t ∈ ws, ArS t ∧ formT t = true := fun t ht => ⟨h4 t ht, W9 hf.2 (by simp [ht])⟩
    refine c5j _ ?_
    unfold a7C
    rw [c7K] at h
    generalize htt : sN k s ts us vs ws = tt at he
    cases he with
    | @mk _ xs ts' ys us' zs bs vs' ws' hs hb hr hc hcb hcr ha hab hal har hbs hbb hbl hbr =>
      unfold sN at htt
      injection htt with hl hk
      injection hl with q1 q2 q3 q4 q5 q6
      subst q1; subst q2
      obtain ⟨w1, hk1⟩ := List.append_inj hk q4
      obtain ⟨w2, hk2⟩ := List.append_inj hk1 q3
      obtain ⟨w3, w4⟩ := List.append_inj hk2 q5
      subst w1; subst w2; subst w3; subst w4
      refine d8g hc hcb hcr (fun t ht => d8l (h2 t ht)) fun r2 ys2 H1 l1 hS2 b2 hr2 => ?_
      refine c9Q (hs.le l1) hb (hr.mono fun _ _ => EH.le l1) (fun t ht => d7M (h1 t ht)) fun r1 xs2 H2 l2 hS1 b1 hr1 => ?_
      have l12 := l1.trans l2
      refine d3u (ha.le l12) hab ⟨hal, fun i x t a b => SH.le l12 (har i x t a b)⟩ m3 (by omega) (fun t ht => ih1 t ht (m3 t ht).2 (by have := c2f ht; omega)) fun r3 zs2 H3 l3 hS3 b3 hr3 => ?_
      have l13 := l12.trans l3
      refine d3u (hbs.le l13) hbb ⟨hbl, fun i x t a b => SH.le l13 (hbr i x t a b)⟩ m4 (by omega) (fun t ht => ih2 t ht (m4 t ht).2 (by have := c2f ht; omega)) fun r4 bs2 H4 l4 hS4 b4 hr4 => ?_
      have l14 := l13.trans l4
      have l24 := l2.trans (l3.trans l4)
      have l34 := l3.trans l4
      have S2 := hS2.le l24
      have R2 := hr2.mono fun _ _ => CH.le l24
      have S3 := hS3.le l4
      have R3 := hr3.mono fun _ _ => SH.le l4
      have self : SH H4 ⟨e.b6, e.g7, r1, r2, r3, r4⟩ (sN e.b6 e.g7 (ts.map foldT) (us.map foldT) (foldSs vs) (foldSs ws)) :=
        SH.node (hS1.le l34) b1 (hr1.mono fun _ _ => EH.le l34) S2 b2 R2 S3 (by simp only [big]; simp only [b0i] at b3; omega) R3 hS4 (by simp only [big]; simp only [b0i] at b4; omega) hr4
      generalize us.map foldT = us' at *
      generalize ts.map foldT = ts' at *
      unfold foldStm at h
      have ask : ∀ {kd : Int} {K' : Bool → Hp → Prop}, K' (asked kd us') H4 → O5 kd ⟨e.b6, e.g7, r1, r2, r3, r4⟩ H4 K' := fun hk => g4z S2 R2 hk
      have fin : ∀ {b : Bool}, (b = true ↔ (e.b6 = 7 ∨ (e.b6 = 6 ∧ asked 1 us' = true) ∨ (e.b6 = 4 ∧ asked 2 us' = true))) → K1 b ⟨e.b6, e.g7, r1, r2, r3, r4⟩ H4 K := by
        intro b hbi
        unfold K1
        refine ⟨fun q => ?_, fun q => ?_⟩
        · rw [if_pos (hbi.1 q)] at h
          exact h _ [] H4 l14 (SlH.nil _ _ _) u6.nil
        · rw [if_neg (fun w => by rw [hbi.2 w] at q; cases q)] at h
          refine a6H (asked 1 us') (fun _ K' hk => ask hk) ⟨fun q2 => ?_, fun q2 => a6H (asked 2 us') (fun _ K' hk => ask hk) ⟨fun q3 => ?_, fun q3 => ?_⟩⟩
          · have : e.b6 = 3 ∧ asked 1 us' = true := by
              rw [Bool.and_eq_true] at q2
              refine ⟨of_decide_eq_true q2.1, ?_⟩
              have := q2.2
              rw [if_pos q2.1] at this; exact this
            rw [if_pos this] at h
            exact h _ _ H4 l14 S3 R3
          · have n1 : ¬ (e.b6 = 3 ∧ asked 1 us' = true) := fun w => by
              rw [decide_eq_true w.1, if_pos rfl, w.2] at q2; cases q2
            have : e.b6 = 3 ∧ asked 2 us' = true := by
              rw [Bool.and_eq_true] at q3
              refine ⟨of_decide_eq_true q3.1, ?_⟩
              have := q3.2
              rw [if_pos q3.1] at this; exact this
            rw [if_neg n1, if_pos this] at h
            exact h _ _ H4 l14 hS4 hr4
          · have n1 : ¬ (e.b6 = 3 ∧ asked 1 us' = true) := fun w => by
              rw [decide_eq_true w.1, if_pos rfl, w.2] at q2; cases q2
            have n2 : ¬ (e.b6 = 3 ∧ asked 2 us' = true) := fun w => by
              rw [decide_eq_true w.1, if_pos rfl, w.2] at q3; cases q3
            rw [if_neg n1, if_neg n2] at h
            intro s5 H5 l5 hS5 _
            exact h s5 _ H5 (l14.trans l5) hS5 (u6.one (self.le l5))
      refine ⟨fun c7 => fin ⟨fun _ => .inl c7, fun _ => decide_eq_true c7⟩, fun c7 => ?_⟩
      refine a6H (asked 1 us') (fun _ K' hk => ask hk) ⟨fun q2 => fin ⟨fun _ => ?_, fun _ => q2⟩, fun q2 => a6H (asked 2 us') (fun _ K' hk => ask hk) (fin ?_)⟩
      · rw [Bool.and_eq_true] at q2
        have := q2.2
        rw [if_pos q2.1] at this
        exact .inr (.inl ⟨of_decide_eq_true q2.1, this⟩)
      · have n6 : ¬ (e.b6 = 6 ∧ asked 1 us' = true) := fun w => by
          rw [decide_eq_true w.1, if_pos rfl, w.2] at q2; cases q2
        constructor
        · intro q3
          rw [Bool.and_eq_true] at q3
          have := q3.2
          rw [if_pos q3.1] at this
          exact .inr (.inr ⟨of_decide_eq_true q3.1, this⟩)
        · rintro (w | w | w)
          · exact (c7 w).elim
          · exact (n6 w).elim
          · rw [decide_eq_true w.1, if_pos rfl, w.2]; rfl
theorem f8s {s : Sl} {xs : List d8} {ts : List PT} (hs : SlH H 6 g8 s xs) (hb : xs.length ≤ big) (hr : u6 (SH H) xs ts) (ha : ∀ t ∈ ts, ArS t ∧ formT t = true) (hc : cTs ts ≤ b0i) {K : Sl → Hp → Prop}
    (h : ∀ s' ys H', Hle H H' → SlH H' 6 g8 s' ys → ys.length ≤ b0i → u6 (SH H') ys (foldSs ts) → K s' H') : a1x s H K :=
  d3u hs hb hr ha hc (fun t ht => h5r (ha t ht).1 (ha t ht).2 (by have := c2f ht; omega)) h
def PP.fold (q : PP) : PP := ⟨q.decls, foldSs q.body⟩
theorem PH.ars {p : m5} {q : PP} (hp : PH H p q) (hsm : q.Sm) (h : toldS q.nodes = 0) : (∀ t ∈ q.body, ArS t ∧ formT t = true) ∧ cTs q.body ≤ b0i := by
  have hi := (e5M _).1 h
  have hf := hi.2.2.1
  unfold PP.nodes at hf
  rw [a8k, Bool.and_eq_true] at hf
  obtain ⟨_, _, xs, hsl, hxb, hr⟩ := hp
  refine ⟨fun t ht => ?_, ?_⟩
  · obtain ⟨i, hi⟩ := List.getElem?_of_mem ht
    obtain ⟨x, hx⟩ := C5 (l := xs) (i := i) (by have := C0 hi; have := hr.1; omega)
    have hft := W9 hf.2 ht
    exact ⟨j3U (hr.2 i x t hx hi) hft (hsm t (List.mem_append_right _ ht)), hft⟩
  · have := hi.1
    unfold PP.nodes at this
    rw [a1T] at this
    simp only [b0i]; omega
theorem h5s (hT : TabsH H) {p : m5} {q : PP} (hp : PH H p q) (hsm : q.Sm) {K : m5 → Int → Hp → Prop} (h0 : ∀ y H', Hle H H' → toldS q.nodes = 0 → PH H' y q.fold → K y 0 H') (h1 : ∀ H', Hle H H' → toldS q.nodes ≠ 0 → K ⟨⟨none, 0, 0⟩, ⟨none, 0, 0⟩⟩ (toldS q.nodes) H') : b0I p H K := by
  refine c5k _ ?_
  unfold a7E
  refine h5p hT hp hsm (fun y H1 l1 c hy => ⟨fun n => (n rfl).elim, fun _ => ?_⟩) fun H1 l1 c => ⟨fun _ => h1 H1 l1 c, fun n => (c n).elim⟩
  have hars := hy.ars hsm c
  obtain ⟨hd, hbd, xs, hsl, hxb, hr⟩ := hy
  refine f8s hsl hxb hr hars.1 hars.2 fun s2 ys H2 l2 hS2 hb2 hr2 => ?_
  exact h0 _ H2 (l1.trans l2) c ⟨hd.le l2, hbd, ys, hS2, by simp only [big]; simp only [b0i] at hb2; omega, hr2⟩
end
def RFoldsS (t : PT) : Prop := ∀ (H : Hp) (x : d8) (s0 : Sl) (i : Int) (cs : List d8) (n2 : List d8 × Int → Hp → Prop) (K : Sl → Hp → Prop), SH H x t → 0 ≤ i → i < (s0.n : Int) → EltH H s0 i 6 (g8 x) → cs.length ≤ b0i →
  (∀ ys H', Hle H H' → u6 (SH H') ys (foldA t) → n2 (cs ++ ys, IntKind.wrap .i64 (i + 1)) H') →
  S8 x.v7 H (fun (r0 : Sl) (H1 : Hp) => S8 x.t7 H1 (fun (r1 : Sl) (H2 : Hp) => Y4 s0 cs i x.b6 x.g7 [] [] r0 r1 H2 n2 K))
section
variable {H : Hp}
theorem c9S {s : Sl} {xs : List d8} {ts : List PT} (hs : SlH H 6 g8 s xs) (hb : xs.length ≤ big) (hr : u6 (SH H) xs ts) (ha : ∀ t ∈ ts, ArS t ∧ formT t = true) (hc : cTs ts ≤ b0i) (ih : ∀ t ∈ ts, RFoldsS t) {K : Sl → Hp → Prop}
    (h : ∀ s' ys H', Hle H H' → SlH H' 6 g8 s' ys → ys.length ≤ b0i → u6 (SH H') ys (foldSs ts) → K s' H') : S8 s H K := by
  refine b9k _ ?_
  unfold a3W
  have n1 := hs.1
  have hb' := hb
  simp only [big] at hb'
  have hlen := hr.1
  refine Y6 (fun (z : List d8 × Int) H' => 0 ≤ z.2 ∧ z.2 ≤ xs.length ∧ Hle H H' ∧ u6 (SH H') z.1 (foldSs (ts.take z.2.toNat))) (fun z => (xs.length - z.2).toNat) ⟨Int.le_refl _, by dsimp only; omega, Hle.refl _, u6.nil⟩ ?_
  rintro ⟨cs, i⟩ H1 next ⟨i0, i1, l1, hcs⟩ hn
  dsimp only at i0 i1 l1 hcs ⊢
  unfold a2r
  have hcl : cs.length ≤ b0i := by
    rw [hcs.1]
    have := d6f (ts := ts.take i.toNat) fun t ht => ha t (List.mem_of_mem_take ht)
    have := e5U ts i.toNat
    omega
  refine ⟨fun q => ?_, fun q => ?_⟩
  · obtain ⟨x, hx, hE⟩ := (hs.le l1).get i0 q
    obtain ⟨t, ht, hxt⟩ := hr.get hx
    have hm := List.mem_of_getElem? ht
    refine ⟨i0, q, x, hE, ih t hm H1 x s i cs _ _ (hxt.le l1) i0 q hE hcl fun ys H2 l2 hy => ?_⟩
    rw [B9 i0 (by omega)]
    refine hn _ _ ⟨by dsimp only; omega, by dsimp only; omega, l1.trans l2, ?_⟩ (by dsimp only; omega)
    dsimp only
    rw [show (i + 1).toNat = i.toNat + 1 by omega, N3 ht, d6c, d6d]
    exact (hcs.mono fun _ _ => SH.le l2).app hy
  · unfold a2q
    intro s2 H2 l2 hS2 _
    rw [List.take_of_length_le (by omega)] at hcs
    exact h s2 cs H2 (l1.trans l2) hS2 hcl (hcs.mono fun _ _ => SH.le l2)
theorem g4A {t : PT} (ha : ArS t) : formT t = true → cT t ≤ b0i → RFoldsS t := by
  induction ha with
  | @mk k s ts us vs ws h1 h2 h3 h4 ih1 ih2 =>
    intro hf hcT H e s0 i cs n2 K he i0 i1 hE hcl h
    have hcnt : cT (sN k s ts us vs ws) = 1 + (cTs us + (cTs ts + (cTs vs + cTs ws))) := by
      unfold sN; rw [cT, a1T, a1T, a1T]
    rw [hcnt] at hcT
    unfold sN at hf
    rw [formT, Bool.and_eq_true] at hf
    have m3 : ∀ t ∈ vs, ArS t ∧ formT t = true := fun t ht => ⟨h3 t ht, W9 hf.2 (by simp [ht])⟩
    have m4 : ∀ t ∈ ws, ArS t ∧ formT t = true := fun t ht => ⟨h4 t ht, W9 hf.2 (by simp [ht])⟩
    rw [c7K] at h
    generalize htt : sN k s ts us vs ws = tt at he
    cases he with
    | @mk _ xs ts' ys us' zs bs vs' ws' hs hb hr hc hcb hcr ha hab hal har hbs hbb hbl hbr =>
      unfold sN at htt
      injection htt with hl hk
      injection hl with q1 q2 q3 q4 q5 q6
      subst q1; subst q2
      obtain ⟨w1, hk1⟩ := List.append_inj hk q4
      obtain ⟨w2, hk2⟩ := List.append_inj hk1 q3
      obtain ⟨w3, w4⟩ := List.append_inj hk2 q5
      subst w1; subst w2; subst w3; subst w4
      refine c9S ha hab ⟨hal, har⟩ m3 (by omega) (fun t ht => ih1 t ht (m3 t ht).2 (by have := c2f ht; omega)) fun r3 zs2 H1 l1 hS3 b3 hr3 => ?_
      refine c9S (hbs.le l1) hbb ⟨hbl, fun i x t a b => SH.le l1 (hbr i x t a b)⟩ m4 (by omega) (fun t ht => ih2 t ht (m4 t ht).2 (by have := c2f ht; omega)) fun r4 bs2 H2 l2 hS4 b4 hr4 => ?_
      have l12 := l1.trans l2
      have n1 := hs.1
      have n2' := hc.1
      have hb' := hb
      have hcb' := hcb
      simp only [big] at hb' hcb'
      have hlenE := hr.1
      have hlenC := hcr.1
      unfold Y4
      refine Y6 (fun (z : Int × Int × ByteArray × List b8 × Sl × Sl) H' => 0 ≤ z.1 ∧ z.1 ≤ ys.length ∧ Hle H2 H' ∧ z.2.1 = e.b6 ∧ z.2.2.1 = e.g7 ∧ u6 (CH H') z.2.2.2.1 ((us.take z.1.toNat).map foldT) ∧ z.2.2.2.2.1 = r3 ∧ z.2.2.2.2.2 = r4) (fun z => (ys.length - z.1).toNat) ⟨Int.le_refl _, by dsimp only; omega, Hle.refl _, rfl, rfl, u6.nil, rfl, rfl⟩ ?_
      rintro ⟨j, a0, a1, cc, p3, p4⟩ H3 next ⟨j0, j1, l3, e0, e1, hcc, e2, e3⟩ hn
      dsimp only at j0 j1 l3 e0 e1 hcc e2 e3 ⊢
      subst e0; subst e1; subst e2; subst e3
      have l13 := l12.trans l3
      have hccl : cc.length ≤ ys.length := by rw [hcc.1, List.length_map, List.length_take]; omega
      unfold a1P
      refine ⟨i0, i1, e, hE.le l13, fun q => ?_, fun q => ?_⟩
      · obtain ⟨x, hx, hEx⟩ := (hc.le l13).get j0 q
        obtain ⟨t, ht, hxt⟩ := hcr.get hx
        refine ⟨j0, q, x, hEx, f4Y (h2 t (List.mem_of_getElem? ht)) H3 x _ (hxt.le l13) fun y H4 l4 hy => ⟨by simp only [List.length_cons, List.length_nil]; omega, ?_⟩⟩
        rw [B9 j0 (by omega)]
        refine hn _ _ ⟨by dsimp only; omega, by dsimp only; omega, l3.trans l4, rfl, rfl, ?_, rfl, rfl⟩ (by dsimp only; omega)
        dsimp only
        rw [show (j + 1).toNat = j.toNat + 1 by omega, N3 ht, List.map_append]
        exact (hcc.mono fun _ _ => CH.le l4).app (u6.one hy)
      · rw [List.take_of_length_le (by omega)] at hcc
        clear hn next
        unfold a2p
        refine Y6 (fun (z : Int × Int × ByteArray × List a8 × Sl × Sl) H' => 0 ≤ z.1 ∧ z.1 ≤ xs.length ∧ Hle H3 H' ∧ z.2.1 = e.b6 ∧ z.2.2.1 = e.g7 ∧ u6 (EH H') z.2.2.2.1 ((ts.take z.1.toNat).map foldT) ∧ z.2.2.2.2.1 = p3 ∧ z.2.2.2.2.2 = p4) (fun z => (xs.length - z.1).toNat) ⟨Int.le_refl _, by dsimp only; omega, Hle.refl _, rfl, rfl, u6.nil, rfl, rfl⟩ ?_
        rintro ⟨m, a0, a1, ee, o3, o4⟩ H4 next ⟨m0, m1, l4, e0, e1, hee, e2, e3⟩ hn
        dsimp only at m0 m1 l4 e0 e1 hee e2 e3 ⊢
        subst e0; subst e1; subst e2; subst e3
        have l14 := l13.trans l4
        have heel : ee.length ≤ xs.length := by rw [hee.1, List.length_map, List.length_take]; omega
        unfold a2o
        refine ⟨i0, i1, e, hE.le l14, fun q2 => ?_, fun q2 => ?_⟩
        · obtain ⟨x, hx, hEx⟩ := (hs.le l14).get m0 q2
          obtain ⟨t, ht, hxt⟩ := hr.get hx
          refine ⟨m0, q2, x, hEx, d8f (h1 t (List.mem_of_getElem? ht)) H4 x _ (hxt.le l14) fun y H5 l5 hy => ⟨by simp only [List.length_cons, List.length_nil]; omega, ?_⟩⟩
          rw [B9 m0 (by omega)]
          refine hn _ _ ⟨by dsimp only; omega, by dsimp only; omega, l4.trans l5, rfl, rfl, ?_, rfl, rfl⟩ (by dsimp only; omega)
          dsimp only
          rw [show (m + 1).toNat = m.toNat + 1 by omega, N3 ht, List.map_append]
          exact (hee.mono fun _ _ => EH.le l5).app (u6.one hy)
        · rw [List.take_of_length_le (by omega)] at hee
          clear hn next
          have hcc' := hcc.mono fun _ _ => CH.le l4
          have l34 := l3.trans l4
          have S3 := hS3.le (l2.trans l34)
          have R3 := hr3.mono fun _ _ => SH.le (l2.trans l34)
          have S4 := hS4.le l34
          have R4 := hr4.mono fun _ _ => SH.le l34
          have hbig : ∀ {n : Nat}, n ≤ b0i → n ≤ big := fun hq => by simp only [big]; simp only [b0i] at hq; omega
          have b3' := b3
          have b4' := b4
          have hcl' := hcl
          simp only [b0i] at b3' b4' hcl'
          generalize us.map foldT = us' at *
          generalize ts.map foldT = ts' at *
          unfold foldStm at h
          have r1 := e7J (k := 1) (by decide) us'
          have r2 := e7J (k := 2) (by decide) us'
          have fin : T1 s0 cs i (kindR us') e.b6 e.g7 ee cc o3 o4 H4 n2 K := by
            have f8 : ∀ {b : Bool}, (b = true ↔ (e.b6 = 7 ∨ (e.b6 = 6 ∧ asked 1 us' = true) ∨ (e.b6 = 4 ∧ asked 2 us' = true))) → O2 s0 cs i (kindR us') b e.b6 e.g7 ee cc o3 o4 H4 n2 K := by
              intro b hbi
              unfold O2 O1
              rw [← r1, ← r2]
              refine ⟨fun q => ?_, fun q => ⟨fun q3 => ?_, fun q3 => ⟨fun q4 => ?_, fun q4 => ?_⟩⟩⟩
              · rw [if_pos (hbi.1 q)] at h
                have := h [] H4 l14 u6.nil
                rw [List.append_nil] at this; exact this
              all_goals rw [if_neg (fun w => by rw [hbi.2 w] at q; cases q)] at h
              · rw [if_pos (by simpa using q3)] at h
                exact ⟨zs2, S3, by omega, h zs2 H4 l14 R3⟩
              · rw [if_neg (by simpa using q3), if_pos (by simpa using q4)] at h
                exact ⟨bs2, S4, by omega, h bs2 H4 l14 R4⟩
              · rw [if_neg (by simpa using q3), if_neg (by simpa using q4)] at h
                intro s5 H5 l5 hS5 _ s6 H6 l6 hS6 _
                have l56 := l5.trans l6
                refine ⟨by simp only [List.length_cons, List.length_nil]; omega, h [_] H6 (l14.trans l56) (u6.one ?_)⟩
                exact SH.node (hS5.le l6) (by omega) (hee.mono fun _ _ => EH.le l56) hS6 (by omega) (hcc'.mono fun _ _ => CH.le l56) (S3.le l56) (hbig b3) (R3.mono fun _ _ => SH.le l56) (S4.le l56) (hbig b4) (R4.mono fun _ _ => SH.le l56)
            unfold T1
            rw [← r1, ← r2]
            refine ⟨fun c7 => f8 ⟨fun _ => .inl c7, fun _ => decide_eq_true c7⟩, fun c7 => ⟨fun q3 => f8 ⟨fun _ => .inr (.inl (by simpa using q3)), fun _ => q3⟩, fun q3 => f8 ⟨fun q4 => .inr (.inr (by simpa using q4)), ?_⟩⟩⟩
            rintro (w | w | w)
            · exact (c7 w).elim
            · rw [decide_eq_true w.1, w.2] at q3; cases q3
            · rw [decide_eq_true w.1, w.2]; rfl
          unfold a2m
          cases us' with
          | nil =>
            have : cc = [] := List.length_eq_zero_iff.1 hcc'.1
            exact ⟨fun q3 => by rw [this] at q3; exact absurd q3 (by decide), fun _ => fin⟩
          | cons a us' =>
            obtain ⟨y, hy⟩ := C5 (l := cc) (i := 0) (by rw [hcc'.1, List.length_cons]; omega)
            refine ⟨fun _ => ⟨by decide, y, hy, ?_⟩, fun q3 => ?_⟩
            · rw [(hcc'.2 0 y a hy rfl).kind]; exact fin
            · have := hcc'.1
              rw [List.length_cons] at this; omega
theorem e5V {p : m5} {q : PP} (hp : PH H p q) (hsm : q.Sm) {K : m5 → Int → Hp → Prop} (h0 : ∀ y H', Hle H H' → toldS q.nodes = 0 → PH H' y q.fold → K y 0 H') (h1 : toldS q.nodes ≠ 0 → K ⟨⟨none, 0, 0⟩, ⟨none, 0, 0⟩⟩ (toldS q.nodes) H) : a7Z p H K := by
  refine b9T _ ?_
  unfold a4x
  refine f8j hp ⟨fun c => h1 c, fun c => ?_⟩
  have hars := hp.ars hsm c
  obtain ⟨hd, hbd, xs, hsl, hxb, hr⟩ := hp
  refine ⟨q.decls, hd, by simp only [big] at hbd; simp only [List.length_nil]; omega, ?_⟩
  refine c9S hsl hxb hr hars.1 hars.2 (fun t ht => g4A (hars.1 t ht).1 (hars.1 t ht).2 (by have := c2f ht; have := hars.2; omega)) fun s2 ys H2 l2 hS2 hb2 hr2 => ?_
  intro s3 H3 l3 hS3 _
  exact h0 _ H3 (l2.trans l3) c ⟨hS3, hbd, ys, hS2.le l3, by simp only [big]; simp only [b0i] at hb2; omega, hr2.mono fun _ _ => SH.le l3⟩
theorem g4B {q : PP} (ha : ∀ t ∈ q.body, ArS t ∧ formT t = true) (h : toldS q.nodes = 0) : cTs q.fold.nodes ≤ cTs q.nodes ∧ dpTs q.fold.nodes 1 ∧ cTs q.nodes ≤ 4096 := by
  have hi := (e5M _).1 h
  have hs := slimSs fun t ht => slimS (ha t ht).1 (ha t ht).2
  have hd := hi.2.1
  refine ⟨?_, ?_, hi.1⟩
  · unfold PP.nodes PP.fold
    rw [a1T, a1T]; have := hs.1; dsimp only; omega
  · unfold PP.nodes at hd ⊢
    rw [b1Q] at hd ⊢
    exact ⟨hd.1, hs.2 1 hd.2⟩
theorem h5t {q : PP} (h1 : cTs q.nodes ≤ 4096) (h2 : dpTs q.nodes 1) : fewP q = true := by
  unfold fewP
  refine decide_eq_true ((d1n q.nodes 1 w0S (Int.le_refl _) (by decide) rfl).2 ⟨?_, h2⟩)
  have e0 : w0S.fn = 0 := rfl
  omega
theorem d6g (hT : TabsH H) {p : m5} {q : PP} (hp : PH H p q) (hsm : q.Sm) {K : Bool → Hp → Prop} (h : ∀ H', Hle H H' → K true H') : a3w p H K := by
  refine b4a _ ?_
  unfold a0e
  refine f5a hT fun H1 l1 => ⟨fun e => (by cases e), fun _ => ?_⟩
  refine h5s (hT.le l1) (hp.le l1) hsm (fun y H2 l2 c hy => ?_) fun H2 l2 c => ?_
  · have l12 := l1.trans l2
    refine e5V (hp.le l12) hsm (fun z H3 l3 _ hz => ⟨fun n => (n rfl).elim, fun _ => ⟨fun n => (n rfl).elim, fun _ => ?_⟩⟩) fun n => (n c).elim
    refine f7e (hy.le l3) hz ?_
    have hf := g4B (hp.ars hsm c).1 c
    have hw : fewP q.fold = true := h5t (by have := hf.1; have := hf.2.2; omega) hf.2.1
    have : eqS q.fold q.fold = true := by
      unfold eqS
      rw [hw, e6O.2 rfl, c1p.2 rfl]; rfl
    rw [this]
    exact h H3 (l12.trans l3)
  · have l12 := l1.trans l2
    refine e5V (hp.le l12) hsm (fun z H3 l3 c' _ => (c c').elim) fun _ => ⟨fun n => (n rfl).elim, fun _ => ⟨fun _ => ?_, fun n => (c n).elim⟩⟩
    exact h H2 l12
end
end Go.Proofs.YtnhkdkcgdcgmdaaGreatDoor
