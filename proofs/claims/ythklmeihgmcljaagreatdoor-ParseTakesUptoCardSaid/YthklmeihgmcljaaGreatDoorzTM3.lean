/- Tokens: numbers. Digits read one by one, and by the library. No program in sight. -/
import Derived.Lib.ParseIntBCases
import Derived.Test.YthklmeihgmcljaaGreatDoorzTM1
namespace Go.Proofs.YthklmeihgmcljaaGreatDoor
open Go.RowKit
set_option maxRecDepth 100000
set_option maxHeartbeats 400000
def dval (a : Nat) (l : List UInt8) : Nat := l.foldl (fun a c => a * 10 + (c.toNat - 48)) a
theorem b9U (a : Nat) : dval a [] = a := rfl
theorem a9G (a : Nat) (c : UInt8) (r : List UInt8) : dval a (c :: r) = dval (a * 10 + (c.toNat - 48)) r := by
 unfold dval
 rw [List.foldl_cons]
theorem c2E (l : List UInt8) : ∀ a : Nat, a ≤ dval a l := by
 induction l with
 | nil => exact fun a => Nat.le_refl _
 | cons c r ih =>
  intro a
  have := ih (a * 10 + (c.toNat - 48))
  rw [a9G]
  omega
def isDig (c : UInt8) : Prop := 48 ≤ c.toNat ∧ c.toNat ≤ 57
theorem b5S {M : Nat} (hM : M ≤ 18446744073709551615) (l : List UInt8) : ∀ a : Nat, (∀ c ∈ l, isDig c) → a ≤ M → Lib.parseUintM M a l = if dval a l ≤ M then .ok (dval a l) else .range := by
 induction l with
 | nil => intro a _ h; rw [b9U, if_pos h]; rfl
 | cons c r ih =>
  intro a hd h
  have hc := hd c (List.mem_cons_self ..)
  unfold isDig at hc
  have hl := c2E r (a * 10 + (c.toNat - 48))
  have ih := ih (a * 10 + (c.toNat - 48)) (fun d q => hd d (List.mem_cons_of_mem _ q))
  rw [a9G]
  generalize dval (a * 10 + (c.toNat - 48)) r = D at hl ih
  unfold Lib.parseUintM
  rw [if_pos hc]
  by_cases c1 : 1844674407370955162 ≤ a
  ·rw [if_pos c1, if_neg (by omega)]
  ·rw [if_neg c1]
   by_cases c2 : M < a * 10 + (c.toNat - 48)
   ·rw [if_pos c2, if_neg (by omega)]
   ·rw [if_neg c2]
    exact ih (by omega)
theorem b7E {l : List UInt8} (hn : l ≠ []) (hd : ∀ c ∈ l, isDig c) : Lib.parseIntB 64 l = if dval 0 l < 9223372036854775808 then .ok (dval 0 l : Int) else .range := by
 cases l with
 | nil => exact (hn rfl).elim
 | cons c r =>
  have hc := hd c (List.mem_cons_self ..)
  unfold isDig at hc
  rw [Lib.parseIntB_plain 64 c r (by omega) (by omega)]
  unfold Lib.parseUintB
  have hM : 2 ^ 64 - 1 ≤ 18446744073709551615 := by decide
  rw [if_neg (by simp), b5S hM _ 0 hd (by decide)]
  generalize dval 0 (c :: r) = D
  by_cases c1 : D ≤ 2 ^ 64 - 1
  ·rw [if_pos c1]
   show (if 2 ^ (64 - 1) ≤ D then Lib.NumEnd.range else .ok (D : Int)) = _
   by_cases c2 : D < 9223372036854775808
   ·rw [if_pos c2, if_neg (by omega)]
   ·rw [if_neg c2, if_pos (by omega)]
  ·rw [if_neg c1, if_neg (by omega)]
   rfl
section
variable (s : ByteArray)
def dgF : Nat → Nat → Nat → Nat × Nat
 | 0, p, v => (p, v)
 | f + 1, p, v => if p < s.size ∧ 48 ≤ by8 s p ∧ by8 s p ≤ 57 then dgF f (p + 1) (v * 10 + (by8 s p - 48)) else (p, v)
theorem b6G : ∀ (f g p v : Nat), s.size - p ≤ f → s.size - p ≤ g → dgF s f p v = dgF s g p v
 | 0, 0, _, _, _, _ => rfl
 | 0, g + 1, p, v, h, _ => by rw [dgF, dgF, if_neg (by omega)]
 | f + 1, 0, p, v, _, h => by rw [dgF, dgF, if_neg (by omega)]
 | f + 1, g + 1, p, v, h, h' => by
  rw [dgF, dgF]
  split
  ·rw [b6G f g _ _ (by omega) (by omega)]
  ·rfl
def dg (p v : Nat) : Nat × Nat := dgF s (s.size - p) p v
variable {s}
theorem b2M {p v : Nat} (hp : p < s.size) (h : 48 ≤ by8 s p ∧ by8 s p ≤ 57) : dg s p v = dg s (p + 1) (v * 10 + (by8 s p - 48)) := by
 obtain ⟨m, hm⟩ : ∃ m, s.size - p = m + 1 := ⟨s.size - p - 1, by omega⟩
 unfold dg
 rw [hm, dgF, if_pos ⟨hp, h⟩, b6G s m (s.size - (p + 1)) _ _ (by omega) (by omega)]
theorem b6H {p v : Nat} (h : ¬ (p < s.size ∧ 48 ≤ by8 s p ∧ by8 s p ≤ 57)) : dg s p v = (p, v) := by
 unfold dg
 cases s.size - p with
 | zero => rw [dgF]
 | succ f => rw [dgF, if_neg h]
def digitR (r : Int) : Bool := decide (classS r = 4)
theorem a7U {r : Int} : digitR r = true ↔ 48 ≤ r ∧ r ≤ 57 := by
 unfold digitR
 rw [decide_eq_true_eq]
 unfold classS
 constructor
 ·intro h
  by_cases c : 48 ≤ r ∧ r ≤ 57
  ·exact c
  ·exfalso
   revert h
   repeat' split
   all_goals first | (intro h; omega) | (intro h; contradiction)
 ·intro h
  have h1 : ¬ signR r := by unfold signR; omega
  repeat' split
  all_goals first | rfl | omega | contradiction
theorem a8u {p : Nat} (hp : p < s.size) : s.data.toList[p]? = some (s.get! p) := by
 have h2 : p < s.data.size := hp
 rw [Array.getElem?_toList, Array.getElem?_eq_getElem h2]
 congr 1
 show s.data[p] = s.data[p]!
 rw [getElem!_pos s.data p h2]
theorem a5r {p : Nat} (hp : p < s.size) : s.data.toList.drop p = s.get! p :: s.data.toList.drop (p + 1) := by
 obtain ⟨h1, h2⟩ := List.getElem?_eq_some_iff.1 (a8u hp)
 rw [List.drop_eq_getElem_cons h1, h2]
theorem b0l : ∀ (n p v : Nat) (a : Int × Int), s.size - p ≤ n →
  p ≤ (dg s p v).1 ∧ (dg s p v).1 ≤ max p s.size ∧ (dg s p v).2 = dval v ((s.data.toList.drop p).take ((dg s p v).1 - p)) ∧ (∀ c ∈ (s.data.toList.drop p).take ((dg s p v).1 - p), isDig c) ∧ (Wr s digitR p a).1 = (dg s p v).1
 | 0, p, v, a, h => by
  rw [b6H (by omega), X4 (by omega)]
  refine ⟨Nat.le_refl _, by dsimp only; omega, ?_, fun c hc => ?_, rfl⟩
  ·dsimp only; rw [Nat.sub_self, List.take_zero]; rfl
  ·dsimp only at hc; rw [Nat.sub_self, List.take_zero] at hc; cases hc
 | n + 1, p, v, a, h => by
  by_cases c : p < s.size ∧ 48 ≤ by8 s p ∧ by8 s p ≤ 57
  ·obtain ⟨i1, i2, i3, i4, i5⟩ := b0l n (p + 1) (v * 10 + (by8 s p - 48)) (stepP a (rn s p)) (by omega)
   have hr := a5P (s := s) (p := p) (by omega)
   rw [b2M c.1 c.2, a1S c.1 (a7U.2 (by rw [hr.1]; omega)), hr.2]
   have he : (dg s (p + 1) (v * 10 + (by8 s p - 48))).1 - p = ((dg s (p + 1) (v * 10 + (by8 s p - 48))).1 - (p + 1)) + 1 := by omega
   refine ⟨by omega, by omega, ?_, ?_, i5⟩
   ·rw [he, a5r c.1, List.take_succ_cons, a9G]; exact i3
   ·rw [he, a5r c.1, List.take_succ_cons]
    intro d hd
    rcases List.mem_cons.1 hd with e | hd
    ·rw [e]; exact c.2
    ·exact i4 d hd
  ·rw [b6H c, X4 (fun q => c ⟨q.1, by
    have := a7U.1 q.2
    have h1 := b1B (s := s) (p := p) (by omega)
    have h2 := (a5P h1).1
    omega⟩)]
   refine ⟨Nat.le_refl _, by dsimp only; omega, ?_, fun c hc => ?_, rfl⟩
   ·dsimp only; rw [Nat.sub_self, List.take_zero]; rfl
   ·dsimp only at hc; rw [Nat.sub_self, List.take_zero] at hc; cases hc
end
set_option maxHeartbeats 1000000
theorem b5T {n n' b0 b1 b2 b3 c1 c2 c3 : Nat} (h : n' ≤ n) (h0 : 1 ≤ n') (h1 : 1 < n' → c1 = b1) (h2 : 2 < n' → c2 = b2) (h3 : 3 < n' → c3 = b3) (hw : (Lib.decodeN n b0 b1 b2 b3).2 ≤ n') : Lib.decodeN n' b0 c1 c2 c3 = Lib.decodeN n b0 b1 b2 b3 := by
 by_cases a0 : b0 < 128
 ·unfold Lib.decodeN; rw [if_pos a0, if_pos a0]
 by_cases k4 : 3 < n'
 ·rw [h1 (by omega), h2 (by omega), h3 k4]
  unfold Lib.decodeN
  simp only [show (1 < n') = (1 < n) from propext ⟨fun _ => by omega, fun _ => by omega⟩, show (2 < n') = (2 < n) from propext ⟨fun _ => by omega, fun _ => by omega⟩, show (3 < n') = (3 < n) from propext ⟨fun _ => by omega, fun _ => by omega⟩]
 ·have n3 : ¬ 3 < n' := k4
  unfold Lib.decodeN at hw ⊢
  rw [if_neg a0] at hw ⊢
  rw [if_neg a0]
  by_cases k3 : 2 < n'
  ·rw [h1 (by omega), h2 k3]
   simp only [show (1 < n') = True from eq_true (by omega), show (2 < n') = True from eq_true k3, show (3 < n') = False from eq_false n3, show (1 < n) = True from eq_true (by omega), show (2 < n) = True from eq_true (by omega), true_and, false_and, and_false, if_false] at hw ⊢
   split
   ·rfl
   ·rename_i q1
    rw [if_neg q1] at hw
    split
    ·rfl
    ·rename_i q2
     rw [if_neg q2] at hw
     split
     ·rename_i q3
      rw [if_pos q3] at hw
      split
      ·rename_i q4; rw [if_pos q4] at hw; dsimp only at hw; omega
      ·rfl
     ·rfl
  ·by_cases k2 : 1 < n'
   ·rw [h1 k2]
    simp only [show (1 < n') = True from eq_true k2, show (2 < n') = False from eq_false k3, show (3 < n') = False from eq_false n3, show (1 < n) = True from eq_true (by omega), true_and, false_and, and_false, if_false] at hw ⊢
    split
    ·rfl
    ·rename_i q1
     rw [if_neg q1] at hw
     split
     ·rename_i q2
      rw [if_pos q2] at hw
      split
      ·rename_i q4; rw [if_pos q4] at hw; dsimp only at hw; omega
      ·rfl
     ·rename_i q2
      rw [if_neg q2] at hw
      split
      ·rename_i q3
       rw [if_pos q3] at hw
       split
       ·rename_i q4; rw [if_pos q4] at hw; dsimp only at hw; omega
       ·rfl
      ·rfl
   ·simp only [show (1 < n') = False from eq_false k2, show (2 < n') = False from eq_false k3, show (3 < n') = False from eq_false n3, false_and, and_false, if_false] at hw ⊢
    split
    ·rename_i q1
     rw [if_pos q1] at hw
     split
     ·rename_i q4; rw [if_pos q4] at hw; dsimp only at hw; omega
     ·rfl
    ·rename_i q1
     rw [if_neg q1] at hw
     split
     ·rename_i q2
      rw [if_pos q2] at hw
      split
      ·rename_i q4; rw [if_pos q4] at hw; dsimp only at hw; omega
      ·rfl
     ·rename_i q2
      rw [if_neg q2] at hw
      split
      ·rename_i q3
       rw [if_pos q3] at hw
       split
       ·rename_i q4; rw [if_pos q4] at hw; dsimp only at hw; omega
       ·rfl
      ·rfl
section
variable {s : ByteArray}
theorem a3Q {p e : Nat} (h : p ≤ e) (he : e ≤ s.size) : (s.extract p e).size = e - p := by
 rw [ByteArray.size_extract]; omega
theorem a8v {p e i : Nat} (he : e ≤ s.size) (hi : p + i < e) : (s.extract p e).get! i = s.get! (p + i) := by
 have h1 : i < (s.extract p e).size := by rw [ByteArray.size_extract]; omega
 have h2 : (s.extract p e).data.toList[i]? = some ((s.extract p e).get! i) := a8u h1
 rw [ByteArray.data_extract, Array.toList_extract, List.extract_eq_take_drop, List.getElem?_take_of_lt (by omega), List.getElem?_drop, a8u (by omega)] at h2
 exact (Option.some.inj h2).symm
theorem a8Z {p e i : Nat} (he : e ≤ s.size) (hi : p + i < e) (hw : p + i + wd s (p + i) ≤ e) : Utf8.decode (s.extract p e) i = Utf8.decode s (p + i) := by
 have hz : (s.extract p e).size = e - p := a3Q (by omega) he
 have hw' : (Utf8.decode s (p + i)).2 ≤ (s.extract p e).size - i := by
  rw [hz]
  have : wd s (p + i) ≤ e - p - i := by omega
  exact this
 rw [Lib.decode_at s (p + i)] at hw' ⊢
 rw [Lib.decode_at (s.extract p e) i]
 rw [a8v he hi]
 refine b5T (by omega) (by omega) (fun q => ?_) (fun q => ?_) (fun q => ?_) hw'
 ·rw [show p + i + 1 = p + (i + 1) by omega, a8v he (by omega)]
 ·rw [show p + i + 2 = p + (i + 2) by omega, a8v he (by omega)]
 ·rw [show p + i + 3 = p + (i + 3) by omega, a8v he (by omega)]
end
end Go.Proofs.YthklmeihgmcljaaGreatDoor
