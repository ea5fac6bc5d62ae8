/- Tokens: numbers. Digits read one by one, and by the library. No program in sight. -/
import Derived.Lib.ParseIntBCases
import Derived.Test.YthklmeihgmcljaaDoorzAM1
namespace Go.Proofs.YthklmeihgmcljaaDoor
open Go.RowKit
set_option maxRecDepth 100000
set_option maxHeartbeats 400000
def dval (a : Nat) (l : List UInt8) : Nat := l.foldl (fun a c => a * 10 + (c.toNat - 48)) a
theorem a3X (a : Nat) : dval a [] = a := rfl
theorem V7 (a : Nat) (c : UInt8) (r : List UInt8) : dval a (c :: r) = dval (a * 10 + (c.toNat - 48)) r := by
  unfold dval
  rw [List.foldl_cons]
theorem a4T (l : List UInt8) : ∀ a : Nat, a ≤ dval a l := by
  induction l with
  | nil => exact fun a => Nat.le_refl _
  | cons c r ih =>
    intro a
    have := ih (a * 10 + (c.toNat - 48))
    rw [V7]
    omega
def isDig (c : UInt8) : Prop := 48 ≤ c.toNat ∧ c.toNat ≤ 57
theorem a1H {M : Nat} (hM : M ≤ 18446744073709551615) (l : List UInt8) : ∀ a : Nat, (∀ c ∈ l, isDig c) → a ≤ M → Lib.parseUintM M a l = if dval a l ≤ M then .ok (dval a l) else .range := by
  induction l with
  | nil => intro a _ h; rw [a3X, if_pos h]; rfl
  | cons c r ih =>
    intro a hd h
    have hc := hd c (List.mem_cons_self ..)
    unfold isDig at hc
    have hl := a4T r (a * 10 + (c.toNat - 48))
    have ih := ih (a * 10 + (c.toNat - 48)) (fun d q => hd d (List.mem_cons_of_mem _ q))
    rw [V7]
    generalize dval (a * 10 + (c.toNat - 48)) r = D at hl ih
    unfold Lib.parseUintM
    rw [if_pos hc]
    by_cases c1 : 1844674407370955162 ≤ a
    · rw [if_pos c1, if_neg (by omega)]
    · rw [if_neg c1]
      by_cases c2 : M < a * 10 + (c.toNat - 48)
      · rw [if_pos c2, if_neg (by omega)]
      · rw [if_neg c2]
        exact ih (by omega)
theorem a2E {l : List UInt8} (hn : l ≠ []) (hd : ∀ c ∈ l, isDig c) : Lib.parseIntB 64 l = if dval 0 l < 9223372036854775808 then .ok (dval 0 l : Int) else .range := by
  cases l with
  | nil => exact (hn rfl).elim
  | cons c r =>
    have hc := hd c (List.mem_cons_self ..)
    unfold isDig at hc
    rw [Lib.parseIntB_plain 64 c r (by omega) (by omega)]
    unfold Lib.parseUintB
    have hM : 2 ^ 64 - 1 ≤ 18446744073709551615 := by decide
    rw [if_neg (by simp), a1H hM _ 0 hd (by decide)]
    generalize dval 0 (c :: r) = D
    by_cases c1 : D ≤ 2 ^ 64 - 1
    · rw [if_pos c1]
      show (if 2 ^ (64 - 1) ≤ D then Lib.NumEnd.range else .ok (D : Int)) = _
      by_cases c2 : D < 9223372036854775808
      · rw [if_pos c2, if_neg (by omega)]
      · rw [if_neg c2, if_pos (by omega)]
    · rw [if_neg c1, if_neg (by omega)]
      rfl
section
variable (s : ByteArray)
def dgF : Nat → Nat → Nat → Nat × Nat
  | 0, p, v => (p, v)
  | f + 1, p, v => if p < s.size ∧ 48 ≤ by8 s p ∧ by8 s p ≤ 57 then dgF f (p + 1) (v * 10 + (by8 s p - 48)) else (p, v)
theorem a1V : ∀ (f g p v : Nat), s.size - p ≤ f → s.size - p ≤ g → dgF s f p v = dgF s g p v
  | 0, 0, _, _, _, _ => rfl
  | 0, g + 1, p, v, h, _ => by rw [dgF, dgF, if_neg (by omega)]
  | f + 1, 0, p, v, _, h => by rw [dgF, dgF, if_neg (by omega)]
  | f + 1, g + 1, p, v, h, h' => by
    rw [dgF, dgF]
    split
    · rw [a1V f g _ _ (by omega) (by omega)]
    · rfl
def dg (p v : Nat) : Nat × Nat := dgF s (s.size - p) p v
variable {s}
theorem X1 {p v : Nat} (hp : p < s.size) (h : 48 ≤ by8 s p ∧ by8 s p ≤ 57) : dg s p v = dg s (p + 1) (v * 10 + (by8 s p - 48)) := by
  obtain ⟨m, hm⟩ : ∃ m, s.size - p = m + 1 := ⟨s.size - p - 1, by omega⟩
  unfold dg
  rw [hm, dgF, if_pos ⟨hp, h⟩, a1V s m (s.size - (p + 1)) _ _ (by omega) (by omega)]
theorem X2 {p v : Nat} (h : ¬ (p < s.size ∧ 48 ≤ by8 s p ∧ by8 s p ≤ 57)) : dg s p v = (p, v) := by
  unfold dg
  cases s.size - p with
  | zero => rw [dgF]
  | succ f => rw [dgF, if_neg h]
def digitR (r : Int) : Bool := decide (classS r = 4)
theorem S1 {r : Int} : digitR r = true ↔ 48 ≤ r ∧ r ≤ 57 := by
  unfold digitR
  rw [decide_eq_true_eq]
  unfold classS
  constructor
  · intro h
    by_cases c : 48 ≤ r ∧ r ≤ 57
    · exact c
    · exfalso
      revert h
      repeat' split
      all_goals first | (intro h; omega) | (intro h; contradiction)
  · intro h
    have h1 : ¬ signR r := by unfold signR; omega
    repeat' split
    all_goals first | rfl | omega | contradiction
theorem N8 {p : Nat} (hp : p < s.size) : s.data.toList[p]? = some (s.get! p) := by
  have h2 : p < s.data.size := hp
  rw [Array.getElem?_toList, Array.getElem?_eq_getElem h2]
  congr 1
  show s.data[p] = s.data[p]!
  rw [getElem!_pos s.data p h2]
theorem N9 {p : Nat} (hp : p < s.size) : s.data.toList.drop p = s.get! p :: s.data.toList.drop (p + 1) := by
  obtain ⟨h1, h2⟩ := List.getElem?_eq_some_iff.1 (N8 hp)
  rw [List.drop_eq_getElem_cons h1, h2]
theorem Q5 : ∀ (n p v : Nat) (a : Int × Int), s.size - p ≤ n →
    p ≤ (dg s p v).1 ∧ (dg s p v).1 ≤ max p s.size ∧ (dg s p v).2 = dval v ((s.data.toList.drop p).take ((dg s p v).1 - p)) ∧ (∀ c ∈ (s.data.toList.drop p).take ((dg s p v).1 - p), isDig c) ∧ (Wr s digitR p a).1 = (dg s p v).1
  | 0, p, v, a, h => by
    rw [X2 (by omega), u0 (by omega)]
    refine ⟨Nat.le_refl _, by dsimp only; omega, ?_, fun c hc => ?_, rfl⟩
    · dsimp only; rw [Nat.sub_self, List.take_zero]; rfl
    · dsimp only at hc; rw [Nat.sub_self, List.take_zero] at hc; cases hc
  | n + 1, p, v, a, h => by
    by_cases c : p < s.size ∧ 48 ≤ by8 s p ∧ by8 s p ≤ 57
    · obtain ⟨i1, i2, i3, i4, i5⟩ := Q5 n (p + 1) (v * 10 + (by8 s p - 48)) (stepP a (rn s p)) (by omega)
      have hr := G7 (s := s) (p := p) (by omega)
      rw [X1 c.1 c.2, B7 c.1 (S1.2 (by rw [hr.1]; omega)), hr.2]
      have he : (dg s (p + 1) (v * 10 + (by8 s p - 48))).1 - p = ((dg s (p + 1) (v * 10 + (by8 s p - 48))).1 - (p + 1)) + 1 := by omega
      refine ⟨by omega, by omega, ?_, ?_, i5⟩
      · rw [he, N9 c.1, List.take_succ_cons, V7]; exact i3
      · rw [he, N9 c.1, List.take_succ_cons]
        intro d hd
        rcases List.mem_cons.1 hd with e | hd
        · rw [e]; exact c.2
        · exact i4 d hd
    · rw [X2 c, u0 (fun q => c ⟨q.1, by
        have := S1.1 q.2
        have h1 := a0e (s := s) (p := p) (by omega)
        have h2 := (G7 h1).1
        omega⟩)]
      refine ⟨Nat.le_refl _, by dsimp only; omega, ?_, fun c hc => ?_, rfl⟩
      · dsimp only; rw [Nat.sub_self, List.take_zero]; rfl
      · dsimp only at hc; rw [Nat.sub_self, List.take_zero] at hc; cases hc
end
end Go.Proofs.YthklmeihgmcljaaDoor
