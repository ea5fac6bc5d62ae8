/- Arithmetic, comparisons, edges' forms: what the program's and the document's small functions answer. Contracts off the printed formulas. -/
import Derived.Test.YtnhkdkcgdcgmdaaDoorzSB
import Derived.Test.YtnhkdkcgdcgmdaaDoorzSV1r
import Derived.Laws.MathBits
namespace Go.Proofs.YtnhkdkcgdcgmdaaDoor
open Go.RowKit
set_option maxRecDepth 100000
set_option maxHeartbeats 2000000
def fit (x : Int) : Int × Int := if m2 x then (x, 0) else (0, 1)
def divS (a b : Int) : Int × Int := if b = 0 then (0, 2) else fit (Int.tdiv a b)
def remS (a b : Int) : Int × Int := if b = 0 then (0, 2) else if a = -9223372036854775808 ∧ b = -1 then (0, 1) else (Int.tmod a b, 0)
def opS (k a b : Int) : Int × Int := if k = 3 then fit (-a) else if k = 4 then fit (a + b) else if k = 5 then fit (a - b) else if k = 6 then fit (a * b) else if k = 7 then divS a b else remS a b
section
variable {a b : Int} {H : Hp} {K : Int → Int → Hp → Prop}
theorem b7Q {x : Int} (h : m2 x) : fit x = (x, 0) := if_pos h
theorem c1h {x : Int} (h : ¬ m2 x) : fit x = (0, 1) := if_neg h
theorem c8v (ha : m2 a) (hb : m2 b) (h : K (fit (a + b)).1 (fit (a + b)).2 H) : a8b a b H K := by
  refine b6u _ _ ?_
  unfold a2P
  simp only [IntKind.wrap_i64]
  have ha' := ha; have hb' := hb
  unfold m2 at ha' hb'
  by_cases hf : m2 (a + b)
  · rw [b7Q hf] at h
    unfold m2 at hf
    refine ⟨fun hc => ?_, fun _ => ?_⟩
    · simp at hc; omega
    · have : (a + b + 9223372036854775808) % 18446744073709551616 - 9223372036854775808 = a + b := by omega
      rw [this]; exact h
  · rw [c1h hf] at h
    unfold m2 at hf
    refine ⟨fun _ => h, fun hc => ?_⟩
    simp at hc; omega
theorem b7R (ha : m2 a) (hb : m2 b) (h : K (fit (a - b)).1 (fit (a - b)).2 H) : a4H a b H K := by
  refine b6s _ _ ?_
  unfold a2N
  simp only [IntKind.wrap_i64]
  have ha' := ha; have hb' := hb
  unfold m2 at ha' hb'
  by_cases hf : m2 (a - b)
  · rw [b7Q hf] at h
    unfold m2 at hf
    refine ⟨fun hc => ?_, fun _ => ?_⟩
    · simp at hc; omega
    · have : (a - b + 9223372036854775808) % 18446744073709551616 - 9223372036854775808 = a - b := by omega
      rw [this]; exact h
  · rw [c1h hf] at h
    unfold m2 at hf
    refine ⟨fun _ => h, fun hc => ?_⟩
    simp at hc; omega
theorem c8w (ha : m2 a) (h : K (fit (-a)).1 (fit (-a)).2 H) : a8a a H K := by
  refine b6t _ ?_
  unfold a2O
  refine b7R (by decide) ha ?_
  rw [Int.zero_sub]; exact h
theorem e1Y {c : Int} (hb : m2 b) (h0 : b ≠ 0) : -9223372036854775808 < Int.tmod c b ∧ Int.tmod c b < 9223372036854775808 := by
  have h := Int.natAbs_tmod c b
  have h2 : c.natAbs % b.natAbs < b.natAbs := Nat.mod_lt _ (by omega)
  unfold m2 at hb
  omega
theorem b6A {x : Int} (h0 : 0 ≤ x) (h1 : x < 18446744073709551616) : bandI .u64 x 4294967295 = x % 4294967296 := by
  obtain ⟨n, rfl⟩ := Int.eq_ofNat_of_zero_le h0
  unfold bandI
  have e : (BitVec.ofInt (IntKind.bits .u64) (n : Int) &&& BitVec.ofInt (IntKind.bits .u64) 4294967295).toNat = n % 4294967296 := by
    rw [BitVec.toNat_and]
    have h2 : (BitVec.ofInt (IntKind.bits .u64) (n : Int)).toNat = n := by
      show (BitVec.ofInt 64 (n : Int)).toNat = n
      rw [BitVec.toNat_ofInt]
      omega
    have h3 : (BitVec.ofInt (IntKind.bits .u64) 4294967295).toNat = 2 ^ 32 - 1 := by decide
    rw [h2, h3, Nat.and_two_pow_sub_one_eq_mod]
  rw [e, IntKind.wrap_u64]
  omega
theorem e1Z (x : Int) : Int.fdiv x (2 ^ 32) = x / 4294967296 := by rw [Int.fdiv_eq_ediv_of_nonneg _ (by decide)]; rfl
theorem c0Z (ha : 0 ≤ a) (ha' : a < 18446744073709551616) (hb : 0 ≤ b) (hb' : b < 18446744073709551616) (h : K (a * b / 18446744073709551616) (a * b % 18446744073709551616) H) : a4j a b H K := by
  refine b5t _ _ ?_
  unfold a2b
  have wr : ∀ x, IntKind.wrap .u64 x = x % 18446744073709551616 := IntKind.wrap_u64
  have bn : ∀ x : Int, bandI .u64 (x % 18446744073709551616) 4294967295 = x % 18446744073709551616 % 4294967296 := fun x => b6A (by omega) (by omega)
  simp only [e1Z, b6A ha ha', b6A hb hb', wr, bn]
  rw [mul64_arith a b ha ha' hb hb']
  exact h
theorem b5H (ha : m2 a) {K : Int → Hp → Prop} (h : K (a.natAbs : Int) H) : a1S a H K := by
  refine b5s _ ?_
  unfold a1Z
  simp only [IntKind.wrap_u64]
  unfold m2 at ha
  refine ⟨fun hc => ?_, fun hc => ?_⟩
  · have : (0 - a % 18446744073709551616) % 18446744073709551616 = (a.natAbs : Int) := by omega
    rw [this]; exact h
  · have : a % 18446744073709551616 = (a.natAbs : Int) := by omega
    rw [this]; exact h
theorem e2a (a b : Int) : (a.natAbs : Int) * (b.natAbs : Int) = if (a < 0) = (b < 0) then a * b else -(a * b) := by
  rcases Int.natAbs_eq a with h1 | h1 <;> rcases Int.natAbs_eq b with h2 | h2
  all_goals
    by_cases ca : a < 0 <;> by_cases cb : b < 0
  all_goals first
    | (have e1 : (a.natAbs : Int) = a := by omega
       have e2 : (b.natAbs : Int) = b := by omega
       simp only [e1, e2, ca, cb, if_true]; done)
    | (have e1 : (a.natAbs : Int) = -a := by omega
       have e2 : (b.natAbs : Int) = b := by omega
       simp [e1, e2, ca, cb, Int.neg_mul]; done)
    | (have e1 : (a.natAbs : Int) = a := by omega
       have e2 : (b.natAbs : Int) = -b := by omega
       simp [e1, e2, ca, cb, Int.mul_neg]; done)
    | (have e1 : (a.natAbs : Int) = -a := by omega
       have e2 : (b.natAbs : Int) = -b := by omega
       simp [e1, e2, ca, cb, Int.neg_mul_neg]; done)
theorem c8x (ha : m2 a) (hb : m2 b) (h : K (fit (a * b)).1 (fit (a * b)).2 H) : a8c a b H K := by
  refine b6v _ _ ?_
  unfold a2Q
  have hx := ha; have hy := hb
  unfold m2 at hx hy
  refine b5H ha ?_
  refine b5H hb ?_
  refine c0Z (by omega) (by omega) (by omega) (by omega) ?_
  have hm := e2a a b
  have hp0 : 0 ≤ (a.natAbs : Int) * (b.natAbs : Int) := Int.mul_nonneg (by omega) (by omega)
  refine ⟨fun hc => ?_, fun hc => ?_⟩
  · unfold S7
    have hs : ¬ ((a < 0) = (b < 0)) := by
      intro e
      simp [e] at hc
    rw [if_neg hs] at hm
    have e1 : IntKind.wrap .u64 (9223372036854775807 + 1) = 9223372036854775808 := by decide
    rw [e1]
    generalize (a.natAbs : Int) * (b.natAbs : Int) = p at *
    have hab : a * b = -p := by omega
    rw [hab] at h ⊢
    by_cases hf : m2 (-p)
    · rw [b7Q hf] at h
      rw [a2w hf]
      unfold m2 at hf
      refine ⟨fun hd => ?_, fun _ => h⟩
      simp at hd; omega
    · rw [c1h hf] at h
      unfold m2 at hf
      refine ⟨fun _ => h, fun hd => ?_⟩
      simp at hd; omega
  · unfold S7
    have hs : (a < 0) = (b < 0) := by
      by_cases h1 : a < 0 <;> by_cases h2 : b < 0 <;> simp [h1, h2] at hc ⊢
    rw [if_pos hs] at hm
    generalize (a.natAbs : Int) * (b.natAbs : Int) = p at *
    rw [← hm] at h ⊢
    by_cases hf : m2 p
    · rw [b7Q hf] at h
      rw [a2w hf]
      unfold m2 at hf
      refine ⟨fun hd => ?_, fun _ => h⟩
      simp at hd; omega
    · rw [c1h hf] at h
      unfold m2 at hf
      refine ⟨fun _ => h, fun hd => ?_⟩
      simp at hd; omega
theorem c6i (ha : m2 a) (hb : b ≠ 0) (h : ¬ (a = -9223372036854775808 ∧ b = -1)) : m2 (Int.tdiv a b) := by
  have hab : (Int.tdiv a b).natAbs = a.natAbs / b.natAbs := Int.natAbs_tdiv a b
  unfold m2 at ha ⊢
  by_cases h1 : b.natAbs = 1
  · rw [h1, Nat.div_one] at hab
    by_cases h2 : a = -9223372036854775808
    · have : b = 1 := by omega
      subst this
      rw [Int.tdiv_one]; omega
    · omega
  · have h4 : a.natAbs / b.natAbs ≤ a.natAbs / 2 := Nat.div_le_div_left (by omega) (by decide)
    omega
theorem f1f (ha : m2 a) : divS a b = if b = 0 then (0, 2) else if a = -9223372036854775808 ∧ b = -1 then (0, 1) else (Int.tdiv a b, 0) := by
  unfold divS
  by_cases h0 : b = 0
  · rw [if_pos h0, if_pos h0]
  · rw [if_neg h0, if_neg h0]
    by_cases h1 : a = -9223372036854775808 ∧ b = -1
    · rw [if_pos h1, h1.1, h1.2]; rfl
    · rw [if_neg h1, b7Q (c6i ha h0 h1)]
def divW (a b : Int) : Int := if b = 0 then 2 else if a = -9223372036854775808 ∧ b = -1 then 1 else 0
theorem b0z {K : Int → Hp → Prop} (h : K (divW a b) H) : a0M a b H K := by
  refine b2c _ _ ?_
  unfold a0V
  unfold divW at h
  refine ⟨fun hc => by rwa [if_pos hc] at h, fun hc => ⟨fun hd => ?_, fun hd => ?_⟩⟩
  · rw [if_neg hc, if_pos (by simpa using hd)] at h; exact h
  · rw [if_neg hc, if_neg (by simpa using hd)] at h; exact h
theorem b7S (a b : Int) : (b = 0 ∧ divW a b = 2) ∨ (b ≠ 0 ∧ (a = -9223372036854775808 ∧ b = -1) ∧ divW a b = 1) ∨ (b ≠ 0 ∧ ¬ (a = -9223372036854775808 ∧ b = -1) ∧ divW a b = 0) := by
  unfold divW
  by_cases h0 : b = 0
  · exact .inl ⟨h0, if_pos h0⟩
  · by_cases h1 : a = -9223372036854775808 ∧ b = -1
    · exact .inr (.inl ⟨h0, h1, by rw [if_neg h0, if_pos h1]⟩)
    · exact .inr (.inr ⟨h0, h1, by rw [if_neg h0, if_neg h1]⟩)
theorem c8y (ha : m2 a) (h : K (divS a b).1 (divS a b).2 H) : a8d a b H K := by
  refine b6x _ _ (b0z ?_)
  rw [f1f ha] at h
  rcases b7S a b with ⟨h0, e⟩ | ⟨h0, h1, e⟩ | ⟨h0, h1, e⟩
  · rw [if_pos h0] at h; rw [e]; exact ⟨fun _ => h, fun hc => by cases hc⟩
  · rw [if_neg h0, if_pos h1] at h; rw [e]; exact ⟨fun _ => h, fun hc => by cases hc⟩
  · rw [if_neg h0, if_neg h1] at h; rw [e, a2w (c6i ha h0 h1)]; exact ⟨fun hc => (hc rfl).elim, fun _ => ⟨h0, h⟩⟩
theorem c8z (h : K (remS a b).1 (remS a b).2 H) : a8e a b H K := by
  refine b6y _ _ (b0z ?_)
  unfold remS at h
  rcases b7S a b with ⟨h0, e⟩ | ⟨h0, h1, e⟩ | ⟨h0, h1, e⟩
  · rw [if_pos h0] at h; rw [e]; exact ⟨fun _ => h, fun hc => by cases hc⟩
  · rw [if_neg h0, if_pos h1] at h; rw [e]; exact ⟨fun _ => h, fun hc => by cases hc⟩
  · rw [if_neg h0, if_neg h1] at h; rw [e]; exact ⟨fun hc => (hc rfl).elim, fun _ => ⟨h0, h⟩⟩
end
def cmpS (op a b : Int) : Bool := if op = 1 then decide (a < b) else if op = 2 then decide (a ≤ b) else if op = 3 then decide (a = b) else if op = 4 then !decide (a = b) else if op = 5 then decide (b < a) else if op = 6 then decide (b ≤ a) else false
section
variable {op a b : Int} {H : Hp}
theorem b7T {K : Hp → Prop} (h : K H) : a2m H K := b0y (by unfold a0t; exact h)
theorem c8A {K : Bool → Hp → Prop} (h : K (cmpS op a b) H) : a8f op a b H K := by
  refine b6z _ _ _ ?_
  unfold a2R
  unfold cmpS at h
  refine ⟨fun h1 => ?_, fun h1 => b7T ⟨?_, ?_, K, fun _ _ h => h, ?_, ?_, ?_, ?_, ?_, ?_, ?_⟩⟩
  · simp at h1
    rw [if_neg (by omega), if_neg (by omega), if_neg (by omega), if_neg (by omega), if_neg (by omega), if_neg (by omega)] at h
    exact h
  · simp at h1; omega
  · simp at h1; omega
  · intro e; simp at h1; omega
  · rintro rfl; exact a9l _ _ (by unfold X4; exact h)
  · rintro rfl; exact a9m _ _ (by unfold X5; exact h)
  · rintro rfl; exact a9n _ _ (by unfold X6; exact h)
  · rintro rfl; exact a9o _ _ (by unfold X7; exact h)
  · rintro rfl; exact a9p _ _ (by unfold X8; exact h)
  · rintro rfl; exact a9q _ _ (by unfold X9; exact h)
end
end Go.Proofs.YtnhkdkcgdcgmdaaDoor
