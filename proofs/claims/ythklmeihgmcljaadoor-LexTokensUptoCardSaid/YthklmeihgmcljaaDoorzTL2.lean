/- Tokens: the document's reader answers what the plain one does. Off the printed formulas. -/
import Derived.Test.YthklmeihgmcljaaDoorzTL1
namespace Go.Proofs.YthklmeihgmcljaaDoor
open Go.RowKit
set_option maxRecDepth 100000
set_option maxHeartbeats 1000000
abbrev plv (b : Int × Int) : a8 := a8.mk b.1 b.2
def Pl (a : Int × Int) (p : Nat) : Prop := 1 ≤ a.1 ∧ a.1 ≤ p + 1 ∧ 1 ≤ a.2 ∧ a.2 ≤ p + 1
section
variable {s : ByteArray}
theorem Pl.step {a : Int × Int} {p : Nat} (h : Pl a p) : Pl (stepP a (rn s p)) (p + wd s p) := by
  have := p8 s p
  unfold Pl at h ⊢
  unfold stepP
  split <;> (dsimp only; omega)
theorem Go2.pl {p q : Nat} {a b : Int × Int} (h : Go2 s p a q b) : Pl a p → Pl b q := by
  induction h with
  | refl => exact id
  | step _ _ ih => exact fun k => ih k.step
theorem Pl0 : Pl (1, 1) 0 := ⟨by decide, by decide, by decide, by decide⟩
theorem a7a {n : Nat} : ∀ {p : Nat} (a : Int × Int), s.size - p ≤ n → ∃ b, Go2 s p a (sk s p) b := by
  induction n with
  | zero => intro p a h; rw [N3 (.inl (by omega))]; exact ⟨a, .refl⟩
  | succ n ih =>
    intro p a h
    by_cases hp : p < s.size
    · by_cases c : by8 s p = 35
      · have h1 := a1n hp c
        have h2 := P7 (s := s) notNl _ p a (Nat.le_refl _)
        rw [← a4R _ p a (Nat.le_refl _)] at h2
        obtain ⟨b, hb⟩ := ih (p := nl s p) (Wr s notNl p a).2 (by omega)
        rw [a1p hp c]
        exact ⟨b, h2.trans hb⟩
      · by_cases d : blankS (rn s p) = true
        · have := p8 s p
          obtain ⟨b, hb⟩ := ih (p := p + wd s p) (stepP a (rn s p)) (by omega)
          rw [a0z hp c d]
          exact ⟨b, .step hp hb⟩
        · rw [N3 (.inr ⟨c, by simpa using d⟩)]; exact ⟨a, .refl⟩
    · rw [N3 (.inl hp)]; exact ⟨a, .refl⟩
theorem a2M {p : Nat} (hp : p ≤ s.size) : p ≤ sk s p ∧ sk s p ≤ s.size := by
  obtain ⟨b, h⟩ := a7a (s := s) (p := p) (0, 0) (Nat.le_refl _)
  exact ⟨h.le, h.size hp⟩
theorem a8G {n : Nat} : ∀ {p : Nat}, s.size - p ≤ n → sk s p < s.size → by8 s (sk s p) ≠ 35 ∧ blankS (rn s (sk s p)) = false := by
  induction n with
  | zero => intro p h k; rw [N3 (.inl (by omega))] at k; omega
  | succ n ih =>
    intro p h
    by_cases hp : p < s.size
    · by_cases c : by8 s p = 35
      · have h1 := a1n hp c
        rw [a1p hp c]
        exact ih (by omega)
      · by_cases d : blankS (rn s p) = true
        · have := p8 s p
          rw [a0z hp c d]
          exact ih (by omega)
        · intro _
          rw [N3 (.inr ⟨c, by simpa using d⟩)]
          exact ⟨c, by simpa using d⟩
    · intro k; rw [N3 (.inl hp)] at k; omega
theorem a5O {p : Nat} (a : Int × Int) (hp : p < s.size) (h : by8 s p < 128) : ∃ b, Go2 s p a (p + 1) b := by
  have := Go2.one (s := s) (a := a) hp
  rw [(U8 h).2] at this
  exact ⟨_, this⟩
theorem a2z {p : Nat} (h : classS (rn s p) = 5) : by8 s p < 128 := by
  refine a1V ?_
  unfold classS at h
  split at h
  · cases h
  · split at h
    · cases h
    · split at h
      · rename_i q; unfold signR at q; omega
      · split at h
        · cases h
        · split at h
          · cases h
          · split at h <;> cases h
theorem a5P {p : Nat} (a : Int × Int) (hp : p < s.size) (h : (oneO s p).err = 0) : ∃ b, Go2 s p a (oneO s p).stop b := by
  unfold oneO at h ⊢
  split at h
  · rename_i c
    rw [if_pos c]
    have g := P7 (s := s) goesS _ p (0, 0) (Nat.le_refl _)
    obtain ⟨b, hb⟩ : ∃ b, Go2 s p a (Wr s goesS p (0, 0)).1 b := by
      have := P7 (s := s) goesS _ p a (Nat.le_refl _)
      have e : (Wr s goesS p a).1 = (Wr s goesS p (0, 0)).1 := by
        have : ∀ (f q : Nat) (a b : Int × Int), (whl s goesS f q a).1 = (whl s goesS f q b).1 := by
          intro f
          induction f with
          | zero => intro q a b; rw [whl, whl]
          | succ f ih =>
            intro q a b
            rw [whl, whl]
            split
            · exact ih _ _ _
            · rfl
        exact this _ _ _ _
      rw [e] at this
      exact ⟨_, this⟩
    unfold wordO at h ⊢
    split at h
    · rename_i d; rw [if_pos d]; exact ⟨b, hb⟩
    · rename_i d
      rw [if_neg d]
      split at h
      · cases h
      · rename_i e; rw [if_neg e]; exact ⟨b, hb⟩
  · rename_i c
    rw [if_neg c]
    split at h
    · rename_i c2
      rw [if_pos c2]
      unfold numO at h ⊢
      split at h
      · cases h
      · rename_i d
        rw [if_neg d]
        have g := P7 (s := s) digitR _ p a (Nat.le_refl _)
        rw [(a0i _ p 0 a (Nat.le_refl _)).2.2.2.2] at g
        exact ⟨_, g⟩
    · rename_i c2
      rw [if_neg c2]
      split at h
      · rename_i c3
        rw [if_pos c3]
        have ha := a2z c3
        obtain ⟨b, hb⟩ := a5O a hp ha
        unfold signO at h ⊢
        split at h
        · rename_i d
          rw [if_pos d]
          unfold two at d
          obtain ⟨b2, hb2⟩ := a5O (s := s) (p := p + 1) b d.1 (by omega)
          exact ⟨b2, hb.trans hb2⟩
        · rename_i d
          rw [if_neg d]
          split at h
          · cases h
          · rename_i e; rw [if_neg e]; exact ⟨b, hb⟩
      · cases h
theorem a5Q {n : Nat} : ∀ {p q : Nat} (a : Int × Int), s.size - p ≤ n → chkAt s p = some q → q < s.size ∧ ∃ b, Go2 s p a q b := by
  induction n with
  | zero => intro p q a h k; rw [Z9 s p (by omega)] at k; cases k
  | succ n ih =>
    intro p q a h k
    by_cases hp : p < s.size
    · rw [a0x s p hp] at k
      split at k
      · cases k; exact ⟨hp, a, .refl⟩
      · have := p8 s p
        obtain ⟨h1, b, h2⟩ := ih (stepP a (rn s p)) (by show s.size - (p + wd s p) ≤ n; omega) k
        exact ⟨h1, b, .step hp h2⟩
    · rw [Z9 s p (by omega)] at k; cases k
end
section
variable {H : Hp} {s : ByteArray} (hs : s.size ≤ big)
include hs
theorem a4b {K : Int → Int → Hp → Prop} (h : if 65536 < s.size then K 0 10 H else match chkAt s 0 with | some n => K (n : Int) 11 H | none => K 0 0 H) : G7 s H K := by
  refine W9 _ ?_
  unfold G8
  have hs2 := hs
  simp only [big] at hs2
  refine ⟨fun c => ?_, fun c => ?_⟩
  · rw [if_pos (by omega)] at h; exact h
  rw [if_neg (by omega)] at h
  refine G4 (fun (z : Int) H' => H' = H ∧ ∃ p : Nat, z = p ∧ p ≤ s.size ∧ chkAt s p = chkAt s 0) (fun z => (s.size - z).toNat) ⟨rfl, 0, rfl, by omega, rfl⟩ ?_
  rintro z H1 next ⟨rfl, p, rfl, hp, he⟩ hk
  unfold y7
  refine ⟨fun c => a1s hs (by omega) ?_, fun c => ?_⟩
  · have hp2 : p < s.size := by omega
    rw [a0x s p hp2] at he
    have h1 := p8 s p
    have h2 := O2 hp2
    by_cases hb : bad s p
    · rw [if_pos hb] at he
      rw [← he] at h
      rw [decide_eq_true hb]
      exact ⟨fun _ => h, fun q => (by cases q)⟩
    · rw [if_neg hb] at he
      rw [decide_eq_false hb]
      refine ⟨fun q => (by cases q), fun _ => ?_⟩
      rw [Q7 _ _ (by omega)]
      exact hk _ _ ⟨rfl, p + wd s p, rfl, h2, he⟩ (by omega)
  · rw [Z9 s p (by omega)] at he
    rw [← he] at h
    exact h
theorem a6z {n : Nat} (hn : n ≤ s.size) {b : Int × Int} (hg : Go2 s 0 (1, 1) n b) {K : a8 → Hp → Prop} (h : K (plv b) H) : M6 s n H K := by
  refine a0d _ _ ?_
  unfold M7
  have hs2 := hs
  simp only [big] at hs2
  refine G4 (fun (z : Int × a8 × a8) H' => H' = H ∧ ∃ (p : Nat) (c : Int × Int) (d : a8), z = ((p : Int), plv c, d) ∧ Pl c p ∧ Go2 s p c n b) (fun z => (n - z.1).toNat) ⟨rfl, 0, (1, 1), _, rfl, Pl0, hg⟩ ?_
  rintro z H1 next ⟨rfl, p, c, d, rfl, hpl, hgo⟩ hk
  unfold B9
  dsimp only
  have hle := hgo.le
  refine ⟨fun q => ?_, fun q => ?_⟩
  · simp only [Bool.and_eq_true, decide_eq_true_eq] at q
    have hp : p < s.size := by omega
    have h1 := p8 s p
    have h2 := O2 hp
    cases hgo with
    | refl => omega
    | step _ hg2 =>
      have hl2 := hg2.le
      have hp2 : Pl (stepP c (rn s p)) (p + wd s p) := hpl.step
      unfold Pl at hpl
      refine a1s hs hp ⟨fun e => ?_, fun e => ?_⟩
      · unfold t6
        rw [Q7 _ _ (by omega), o4 ⟨by omega, by omega⟩]
        refine hk _ _ ⟨rfl, p + wd s p, stepP c (rn s p), d, ?_, hp2, hg2⟩ (by dsimp only; omega)
        unfold stepP; rw [if_pos e]
      · unfold t6
        rw [Q7 _ _ (by omega), o4 (a := c.2 + 1) ⟨by omega, by omega⟩]
        refine hk _ _ ⟨rfl, p + wd s p, stepP c (rn s p), d, ?_, hp2, hg2⟩ (by dsimp only; omega)
        unfold stepP; rw [if_neg e]
  · unfold B8
    simp only [Bool.and_eq_false_iff, decide_eq_false_iff_not] at q
    have : p = n := by omega
    subst this
    cases hgo with
    | refl => exact h
    | step _ hg2 => have := hg2.le; have := p8 s p; omega
theorem a3H {p n : Nat} (hn : n ≤ s.size) {a b : Int × Int} (ha : Pl a p) (hg : Go2 s p a n b) {K : a8 → Hp → Prop} (h : K (plv b) H) : B7 s (plv a) p n H K := by
  refine X2 _ _ _ _ ?_
  unfold H6
  have hs2 := hs
  simp only [big] at hs2
  refine G4 (fun (z : Int × a8 × a8) H' => H' = H ∧ ∃ (p : Nat) (c : Int × Int) (d : a8), z = ((p : Int), d, plv c) ∧ Pl c p ∧ Go2 s p c n b) (fun z => (n - z.1).toNat) ⟨rfl, p, a, _, rfl, ha, hg⟩ ?_
  rintro z H1 next ⟨rfl, p, c, d, rfl, hpl, hgo⟩ hk
  unfold z1
  dsimp only
  have hle := hgo.le
  refine ⟨fun q => ?_, fun q => ?_⟩
  · have hp : p < s.size := by omega
    have h1 := p8 s p
    have h2 := O2 hp
    cases hgo with
    | refl => omega
    | step _ hg2 =>
      have hl2 := hg2.le
      have hp2 : Pl (stepP c (rn s p)) (p + wd s p) := hpl.step
      unfold Pl at hpl
      refine a1s hs hp ⟨fun e => ?_, fun e => ?_⟩
      · unfold r3
        rw [Q7 _ _ (by omega), o4 ⟨by omega, by omega⟩]
        refine hk _ _ ⟨rfl, p + wd s p, stepP c (rn s p), d, ?_, hp2, hg2⟩ (by dsimp only; omega)
        unfold stepP; rw [if_pos e]
      · unfold r3
        rw [Q7 _ _ (by omega), o4 (a := c.2 + 1) ⟨by omega, by omega⟩]
        refine hk _ _ ⟨rfl, p + wd s p, stepP c (rn s p), d, ?_, hp2, hg2⟩ (by dsimp only; omega)
        unfold stepP; rw [if_neg e]
  · unfold y9
    have : p = n := by omega
    subst this
    cases hgo with
    | refl => exact h
    | step _ hg2 => have := hg2.le; have := p8 s p; omega
theorem a1t {p : Nat} {K : Int → Int → Hp → Prop} (h : if p < s.size then K (classS (rn s p)) (wd s p : Int) H else K 0 0 H) : t1 s p H K := by
  refine X1 _ _ ?_
  unfold H5
  refine ⟨fun c => ?_, fun c => ?_⟩
  · rw [if_neg (by omega)] at h; exact h
  · rw [if_pos (by omega)] at h
    exact a1s hs (by omega) (a8F h)
theorem a7s {p : Nat} (hp : p ≤ s.size) {K : Int → Hp → Prop} (h : K (sk s p : Int) H) : J3 s p H K := by
  refine Z3 _ _ ?_
  unfold K7
  have hs2 := hs
  simp only [big] at hs2
  refine G4 (fun (z : Int) H' => H' = H ∧ ∃ q : Nat, z = q ∧ q ≤ s.size ∧ sk s q = sk s p) (fun z => (s.size - z).toNat) ⟨rfl, p, rfl, hp, rfl⟩ ?_
  rintro z H1 next ⟨rfl, q, rfl, hq, he⟩ hk
  unfold A8
  refine ⟨fun c => a1t hs ?_, fun c => ?_⟩
  · have hq2 : q < s.size := by omega
    have h1 := p8 s q
    have h2 := O2 hq2
    rw [if_pos hq2]
    refine ⟨by omega, by omega, fun e => ?_, fun e => ?_⟩
    · have e35 : by8 s q = 35 := by rw [Int.toNat_natCast] at e; unfold by8; omega
      have hgt := a1n hq2 e35
      refine G4 (fun (z : Int) H' => H' = H1 ∧ ∃ r : Nat, z = r ∧ q ≤ r ∧ r ≤ s.size ∧ nl s r = nl s q) (fun z => (s.size - z).toNat) ⟨rfl, q, rfl, by omega, by omega, rfl⟩ ?_
      rintro z H2 next2 ⟨rfl, r, rfl, hr, hr2, hn⟩ hk2
      unfold A6
      simp only [Int.toNat_natCast]
      by_cases c2 : r < s.size ∧ by8 s r ≠ 10
      · have c3 : ¬ (((s.get! r).toNat : Int) = 10) := fun x => c2.2 (by unfold by8; omega)
        have e1 : decide ((r : Int) < (s.size : Int)) = true := decide_eq_true (by omega)
        rw [e1, decide_eq_false c3]
        refine ⟨fun _ => ⟨by omega, by omega⟩, fun _ => ?_, fun x => (by cases x)⟩
        rw [o4 ⟨by omega, by omega⟩]
        rw [a1m c2.1 c2.2] at hn
        exact hk2 _ _ ⟨rfl, r + 1, by omega, by omega, by omega, hn⟩ (by omega)
      · rw [X4 c2] at hn
        have e1 : (decide ((r : Int) < (s.size : Int)) && !decide (((s.get! r).toNat : Int) = 10)) = false := by
          rw [Bool.and_eq_false_iff]
          by_cases c3 : r < s.size
          · right
            have : by8 s r = 10 := Classical.byContradiction fun x => c2 ⟨c3, x⟩
            have : ((s.get! r).toNat : Int) = 10 := by unfold by8 at this; omega
            rw [decide_eq_true this]; rfl
          · left; exact decide_eq_false (by omega)
        rw [e1]
        refine ⟨fun x => ?_, fun x => (by cases x), fun _ => ?_⟩
        · have := of_decide_eq_true x; omega
        · subst hn
          rw [a1p hq2 e35] at he
          exact hk _ _ ⟨rfl, _, rfl, hr2, he⟩ (by omega)
    · have e35 : by8 s q ≠ 35 := fun x => e (by rw [Int.toNat_natCast]; unfold by8 at x; omega)
      unfold A7
      rw [Q7 _ _ (by omega)]
      by_cases cb : blankS (rn s q) = true
      · have e1 : ((!decide (classS (rn s q) = 1)) && (!decide (classS (rn s q) = 2))) = false := by
          unfold blankS at cb
          revert cb
          cases decide (classS (rn s q) = 1) <;> cases decide (classS (rn s q) = 2) <;> simp
        rw [e1]
        rw [a0z hq2 e35 cb] at he
        exact ⟨fun x => (by cases x), fun _ => hk _ _ ⟨rfl, q + wd s q, rfl, h2, he⟩ (by omega)⟩
      · have cb : blankS (rn s q) = false := by simpa using cb
        have e1 : ((!decide (classS (rn s q) = 1)) && (!decide (classS (rn s q) = 2))) = true := by
          unfold blankS at cb
          revert cb
          cases decide (classS (rn s q) = 1) <;> cases decide (classS (rn s q) = 2) <;> simp
        rw [e1]
        rw [N3 (.inr ⟨e35, cb⟩)] at he
        refine ⟨fun _ => ?_, fun x => (by cases x)⟩
        unfold r8
        rw [he]; exact h
  · rw [N3 (.inl (by omega))] at he
    unfold r8
    rw [he]; exact h
theorem a8H {p : Nat} (hp : p ≤ s.size) {K : Int → Int → Hp → Prop} (h : K ((Wr s goesS p (0, 0)).1 : Int) (cnt s goesS p 0 : Int) H) : L3 s p H K := by
  refine Z5 _ _ ?_
  unfold L6
  have hs2 := hs
  simp only [big] at hs2
  refine G4 (fun (z : Int × Int) H' => H' = H ∧ ∃ (q n : Nat) (a : Int × Int), z = ((q : Int), (n : Int)) ∧ q ≤ s.size ∧ n ≤ q ∧ (Wr s goesS q a).1 = (Wr s goesS p (0, 0)).1 ∧ cnt s goesS q n = cnt s goesS p 0) (fun z => (s.size - z.1).toNat) ⟨rfl, p, 0, (0, 0), rfl, hp, by omega, rfl, rfl⟩ ?_
  rintro z H1 next ⟨rfl, q, n, a, rfl, hq, hn, hw, hc⟩ hk
  unfold B3
  refine a1t hs ?_
  dsimp only
  by_cases hq2 : q < s.size
  · rw [if_pos hq2]
    have h1 := p8 s q
    have h2 := O2 hq2
    by_cases cg : goesS (rn s q) = true
    · have e1 : ((!decide (classS (rn s q) = 3)) && (!decide (classS (rn s q) = 4))) = false := by
        unfold goesS at cg
        revert cg
        cases decide (classS (rn s q) = 3) <;> cases decide (classS (rn s q) = 4) <;> simp
      rw [e1]
      refine ⟨fun x => (by cases x), fun _ => ?_⟩
      rw [Q7 _ _ (by omega), o4 (a := (n : Int) + 1) ⟨by omega, by omega⟩]
      rw [M1 hq2 cg] at hw
      rw [a3G hq2 cg] at hc
      exact hk _ _ ⟨rfl, q + wd s q, n + 1, _, rfl, h2, by omega, hw, hc⟩ (by dsimp only; omega)
    · have e1 : ((!decide (classS (rn s q) = 3)) && (!decide (classS (rn s q) = 4))) = true := by
        have cg : goesS (rn s q) = false := by simpa using cg
        unfold goesS at cg
        revert cg
        cases decide (classS (rn s q) = 3) <;> cases decide (classS (rn s q) = 4) <;> simp
      rw [e1]
      rw [z6 (fun x => cg x.2)] at hw
      rw [a0A (fun x => cg x.2)] at hc
      refine ⟨fun _ => ?_, fun x => (by cases x)⟩
      rw [← hw, ← hc] at h
      exact h
  · rw [if_neg hq2]
    rw [z6 (fun x => hq2 x.1)] at hw
    rw [a0A (fun x => hq2 x.1)] at hc
    refine ⟨fun _ => ?_, fun x => (by cases x)⟩
    rw [← hw, ← hc] at h
    exact h
end
end Go.Proofs.YthklmeihgmcljaaDoor
