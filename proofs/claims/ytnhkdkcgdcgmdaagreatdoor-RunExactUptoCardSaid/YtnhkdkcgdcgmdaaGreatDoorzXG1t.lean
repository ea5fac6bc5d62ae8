/- Arithmetic, comparisons, edges' forms: what the program's and the document's small functions answer. Contracts off the printed formulas. -/
import Derived.Laws.MathBits
import Derived.Test.YtnhkdkcgdcgmdaaGreatDoorzXV1r
namespace Go.Proofs.YtnhkdkcgdcgmdaaGreatDoor
open Go.RowKit
set_option maxRecDepth 100000
set_option maxHeartbeats 2000000
def fit (x : Int) : Int × Int := if o8 x then (x, 0) else (0, 1)
def divS (a b : Int) : Int × Int := if b = 0 then (0, 2) else fit (Int.tdiv a b)
def remS (a b : Int) : Int × Int := if b = 0 then (0, 2) else if a = -9223372036854775808 ∧ b = -1 then (0, 1) else (Int.tmod a b, 0)
def opS (k a b : Int) : Int × Int := if k = 3 then fit (-a) else if k = 4 then fit (a + b) else if k = 5 then fit (a - b) else if k = 6 then fit (a * b) else if k = 7 then divS a b else remS a b
section
variable {a b : Int} {H : Hp} {K : Int → Int → Hp → Prop}
theorem b0q {x : Int} (h : o8 x) : fit x = (x, 0) := if_pos h
theorem b3J {x : Int} (h : ¬ o8 x) : fit x = (0, 1) := if_neg h
theorem c3F (ha : o8 a) (hb : o8 b) (h : K (fit (a + b)).1 (fit (a + b)).2 H) : b0Y a b H K := by
 refine b5L _ _ ?_
 unfold a8m
 simp only [IntKind.wrap_i64]
 have ha' := ha; have hb' := hb
 unfold o8 at ha' hb'
 by_cases hf : o8 (a + b)
 ·rw [b0q hf] at h
  unfold o8 at hf
  refine ⟨fun hc => ?_, fun _ => ?_⟩
  ·simp at hc; omega
  ·have : (a + b + 9223372036854775808) % 18446744073709551616 - 9223372036854775808 = a + b := by omega
   rw [this]; exact h
 ·rw [b3J hf] at h
  unfold o8 at hf
  refine ⟨fun _ => h, fun hc => ?_⟩
  simp at hc; omega
theorem b6B (ha : o8 a) (hb : o8 b) (h : K (fit (a - b)).1 (fit (a - b)).2 H) : a7Y a b H K := by
 refine b5J _ _ ?_
 unfold a8k
 simp only [IntKind.wrap_i64]
 have ha' := ha; have hb' := hb
 unfold o8 at ha' hb'
 by_cases hf : o8 (a - b)
 ·rw [b0q hf] at h
  unfold o8 at hf
  refine ⟨fun hc => ?_, fun _ => ?_⟩
  ·simp at hc; omega
  ·have : (a - b + 9223372036854775808) % 18446744073709551616 - 9223372036854775808 = a - b := by omega
   rw [this]; exact h
 ·rw [b3J hf] at h
  unfold o8 at hf
  refine ⟨fun _ => h, fun hc => ?_⟩
  simp at hc; omega
theorem c3G (ha : o8 a) (h : K (fit (-a)).1 (fit (-a)).2 H) : b0X a H K := by
 refine b5K _ ?_
 unfold a8l
 refine b6B (by decide) ha ?_
 rw [Int.zero_sub]; exact h
theorem b3K (ha : o8 a) (h : K (fit (-a)).1 (fit (-a)).2 H) : a1u a H K := by
 refine b1Q _ ?_
 unfold a5l
 unfold o8 at ha
 refine ⟨fun hc => ?_, fun hc => ?_⟩
 ·subst hc; exact h
 ·have hi : o8 (-a) := by unfold o8; omega
  rw [b0q hi] at h
  rw [Int.zero_sub, K0 hi]; exact h
theorem c3H (ha : o8 a) (hb : o8 b) (h : K (fit (a + b)).1 (fit (a + b)).2 H) : a4P a b H K := by
 refine b1R _ _ ?_
 unfold a5m
 simp only [IntKind.wrap_i64]
 unfold o8 at ha hb
 by_cases hf : o8 (a + b)
 ·rw [b0q hf] at h
  unfold o8 at hf
  refine ⟨fun hc => ?_, fun _ => ?_⟩
  ·simp at hc; omega
  ·have : (a + b + 9223372036854775808) % 18446744073709551616 - 9223372036854775808 = a + b := by omega
   rw [this]; exact h
 ·rw [b3J hf] at h
  unfold o8 at hf
  refine ⟨fun _ => h, fun hc => ?_⟩
  simp at hc; omega
theorem c3I (ha : o8 a) (hb : o8 b) (h : K (fit (a - b)).1 (fit (a - b)).2 H) : a4Q a b H K := by
 refine b1S _ _ ?_
 unfold a5o
 simp only [IntKind.wrap_i64]
 unfold o8 at ha hb
 by_cases hf : o8 (a - b)
 ·rw [b0q hf] at h
  unfold o8 at hf
  refine ⟨fun hc => ?_, fun _ => ?_⟩
  ·simp at hc; omega
  ·have : (a - b + 9223372036854775808) % 18446744073709551616 - 9223372036854775808 = a - b := by omega
   rw [this]; exact h
 ·rw [b3J hf] at h
  unfold o8 at hf
  refine ⟨fun _ => h, fun hc => ?_⟩
  simp at hc; omega
theorem b7Q {c : Int} (hb : o8 b) (h0 : b ≠ 0) : -9223372036854775808 < Int.tmod c b ∧ Int.tmod c b < 9223372036854775808 := by
 have h := Int.natAbs_tmod c b
 have h2 : c.natAbs % b.natAbs < b.natAbs := Nat.mod_lt _ (by omega)
 unfold o8 at hb
 omega
theorem c3J (ha : o8 a) (hb : o8 b) (h : K (fit (a * b)).1 (fit (a * b)).2 H) : a4R a b H K := by
 refine b1T _ _ ?_
 unfold a5p
 refine ⟨fun hc => ?_, fun hc => ⟨fun h1 => ?_, fun h1 => ⟨fun h2 => ?_, fun h2 => ⟨?_, ?_, ?_⟩⟩⟩⟩
 ·simp at hc
  have : a * b = 0 := by rcases hc with rfl | rfl <;> simp
  rw [this] at h; exact h
 ·subst h1
  refine b3K hb ?_
  rw [Int.neg_mul, Int.one_mul] at h; exact h
 ·subst h2
  refine b3K ha ?_
  rw [Int.mul_neg, Int.mul_one] at h; exact h
 ·simp at hc; exact hc.2
 ·intro hd
  simp at hc
  have hn : ¬ o8 (a * b) := fun hi => by
   rw [K0 hi, Int.mul_tdiv_cancel _ hc.2, K0 ha] at hd
   exact hd rfl
  rw [b3J hn] at h; exact h
 ·intro hd
  simp at hc
  have hi : o8 (a * b) := by
   have hw : o8 (IntKind.wrap .i64 (a * b)) := by rw [IntKind.wrap_i64]; unfold o8; omega
   have e := Int.mul_tdiv_add_tmod (IntKind.wrap .i64 (a * b)) b
   have hr := b7Q (c := IntKind.wrap .i64 (a * b)) hb hc.2
   by_cases h3 : b = 1
   ·subst h3; rw [Int.mul_one]; exact ha
   ·have hq : o8 (Int.tdiv (IntKind.wrap .i64 (a * b)) b) := by
     have hab : (Int.tdiv (IntKind.wrap .i64 (a * b)) b).natAbs = (IntKind.wrap .i64 (a * b)).natAbs / b.natAbs := Int.natAbs_tdiv (IntKind.wrap .i64 (a * b)) b
     have h4 : (IntKind.wrap .i64 (a * b)).natAbs / b.natAbs ≤ (IntKind.wrap .i64 (a * b)).natAbs / 2 := Nat.div_le_div_left (by omega) (by decide)
     unfold o8 at hw ⊢
     omega
    rw [K0 hq] at hd
    rw [hd, Int.mul_comm b a, IntKind.wrap_i64] at e
    rw [IntKind.wrap_i64] at hr
    generalize a * b = p at *
    generalize Int.tmod _ b = r at *
    unfold o8
    omega
  rw [b0q hi] at h
  rw [K0 hi]; exact h
theorem b5Q {x : Int} (h0 : 0 ≤ x) (h1 : x < 18446744073709551616) : bandI .u64 x 4294967295 = x % 4294967296 := by
 obtain ⟨n, rfl⟩ := Int.eq_ofNat_of_zero_le h0
 unfold bandI
 have e : (BitVec.ofInt (IntKind.bits .u64) (n : Int) &&& BitVec.ofInt (IntKind.bits .u64) 4294967295).toNat = n % 4294967296 := by
  rw [BitVec.toNat_and]
  have h2 : (BitVec.ofInt (IntKind.bits .u64) (n : Int)).toNat = n := by
   show (BitVec.ofInt 64 (n : Int)).toNat = n
   rw [BitVec.toNat_ofInt]
   omega
  have h3 : (BitVec.ofInt (IntKind.bits .u64) 4294967295).toNat = 2 ^ 32 - 1 := by decide
  rw [h2, h3, Nat.and_two_pow_sub_one_eq_mod]
 rw [e, IntKind.wrap_u64]
 omega
theorem c9L (x : Int) : Int.fdiv x (2 ^ 32) = x / 4294967296 := by rw [Int.fdiv_eq_ediv_of_nonneg _ (by decide)]; rfl
theorem b9c (ha : 0 ≤ a) (ha' : a < 18446744073709551616) (hb : 0 ≤ b) (hb' : b < 18446744073709551616) (h : K (a * b / 18446744073709551616) (a * b % 18446744073709551616) H) : a7B a b H K := by
 refine b5p _ _ ?_
 unfold a7L
 have wr : ∀ x, IntKind.wrap .u64 x = x % 18446744073709551616 := IntKind.wrap_u64
 have bn : ∀ x : Int, bandI .u64 (x % 18446744073709551616) 4294967295 = x % 18446744073709551616 % 4294967296 := fun x => b5Q (by omega) (by omega)
 simp only [c9L, b5Q ha ha', b5Q hb hb', wr, bn]
 rw [mul64_arith a b ha ha' hb hb']
 exact h
theorem b5y (ha : o8 a) {K : Int → Hp → Prop} (h : K (a.natAbs : Int) H) : a5G a H K := by
 refine b5o _ ?_
 unfold a7K
 simp only [IntKind.wrap_u64]
 unfold o8 at ha
 refine ⟨fun hc => ?_, fun hc => ?_⟩
 ·have : (0 - a % 18446744073709551616) % 18446744073709551616 = (a.natAbs : Int) := by omega
  rw [this]; exact h
 ·have : a % 18446744073709551616 = (a.natAbs : Int) := by omega
  rw [this]; exact h
theorem c9M (a b : Int) : (a.natAbs : Int) * (b.natAbs : Int) = if (a < 0) = (b < 0) then a * b else -(a * b) := by
 rcases Int.natAbs_eq a with h1 | h1 <;> rcases Int.natAbs_eq b with h2 | h2
 all_goals
  by_cases ca : a < 0 <;> by_cases cb : b < 0
 all_goals first
  | (have e1 : (a.natAbs : Int) = a := by omega
     have e2 : (b.natAbs : Int) = b := by omega
     simp only [e1, e2, ca, cb, if_true]; done)
  | (have e1 : (a.natAbs : Int) = -a := by omega
     have e2 : (b.natAbs : Int) = b := by omega
     simp [e1, e2, ca, cb, Int.neg_mul]; done)
  | (have e1 : (a.natAbs : Int) = a := by omega
     have e2 : (b.natAbs : Int) = -b := by omega
     simp [e1, e2, ca, cb, Int.mul_neg]; done)
  | (have e1 : (a.natAbs : Int) = -a := by omega
     have e2 : (b.natAbs : Int) = -b := by omega
     simp [e1, e2, ca, cb, Int.neg_mul_neg]; done)
theorem c3K (ha : o8 a) (hb : o8 b) (h : K (fit (a * b)).1 (fit (a * b)).2 H) : b0Z a b H K := by
 refine b5M _ _ ?_
 unfold a8n
 have hx := ha; have hy := hb
 unfold o8 at hx hy
 refine b5y ha ?_
 refine b5y hb ?_
 refine b9c (by omega) (by omega) (by omega) (by omega) ?_
 have hm := c9M a b
 have hp0 : 0 ≤ (a.natAbs : Int) * (b.natAbs : Int) := Int.mul_nonneg (by omega) (by omega)
 refine ⟨fun hc => ?_, fun hc => ?_⟩
 ·unfold a1I
  have hs : ¬ ((a < 0) = (b < 0)) := by
   intro e
   simp [e] at hc
  rw [if_neg hs] at hm
  have e1 : IntKind.wrap .u64 (9223372036854775807 + 1) = 9223372036854775808 := by decide
  rw [e1]
  generalize (a.natAbs : Int) * (b.natAbs : Int) = p at *
  have hab : a * b = -p := by omega
  rw [hab] at h ⊢
  by_cases hf : o8 (-p)
  ·rw [b0q hf] at h
   rw [K0 hf]
   unfold o8 at hf
   refine ⟨fun hd => ?_, fun _ => h⟩
   simp at hd; omega
  ·rw [b3J hf] at h
   unfold o8 at hf
   refine ⟨fun _ => h, fun hd => ?_⟩
   simp at hd; omega
 ·unfold a1I
  have hs : (a < 0) = (b < 0) := by
   by_cases h1 : a < 0 <;> by_cases h2 : b < 0 <;> simp [h1, h2] at hc ⊢
  rw [if_pos hs] at hm
  generalize (a.natAbs : Int) * (b.natAbs : Int) = p at *
  rw [← hm] at h ⊢
  by_cases hf : o8 p
  ·rw [b0q hf] at h
   rw [K0 hf]
   unfold o8 at hf
   refine ⟨fun hd => ?_, fun _ => h⟩
   simp at hd; omega
  ·rw [b3J hf] at h
   unfold o8 at hf
   refine ⟨fun _ => h, fun hd => ?_⟩
   simp at hd; omega
theorem b4X (ha : o8 a) (hb : b ≠ 0) (h : ¬ (a = -9223372036854775808 ∧ b = -1)) : o8 (Int.tdiv a b) := by
 have hab : (Int.tdiv a b).natAbs = a.natAbs / b.natAbs := Int.natAbs_tdiv a b
 unfold o8 at ha ⊢
 by_cases h1 : b.natAbs = 1
 ·rw [h1, Nat.div_one] at hab
  by_cases h2 : a = -9223372036854775808
  ·have : b = 1 := by omega
   subst this
   rw [Int.tdiv_one]; omega
  ·omega
 ·have h4 : a.natAbs / b.natAbs ≤ a.natAbs / 2 := Nat.div_le_div_left (by omega) (by decide)
  omega
theorem c5o (ha : o8 a) : divS a b = if b = 0 then (0, 2) else if a = -9223372036854775808 ∧ b = -1 then (0, 1) else (Int.tdiv a b, 0) := by
 unfold divS
 by_cases h0 : b = 0
 ·rw [if_pos h0, if_pos h0]
 ·rw [if_neg h0, if_neg h0]
  by_cases h1 : a = -9223372036854775808 ∧ b = -1
  ·rw [if_pos h1, h1.1, h1.2]; rfl
  ·rw [if_neg h1, b0q (b4X ha h0 h1)]
def divW (a b : Int) : Int := if b = 0 then 2 else if a = -9223372036854775808 ∧ b = -1 then 1 else 0
theorem b2R {K : Int → Hp → Prop} (h : K (divW a b) H) : a3Z a b H K := by
 refine b3I _ _ ?_
 unfold a6n
 unfold divW at h
 refine ⟨fun hc => by rwa [if_pos hc] at h, fun hc => ⟨fun hd => ?_, fun hd => ?_⟩⟩
 ·rw [if_neg hc, if_pos (by simpa using hd)] at h; exact h
 ·rw [if_neg hc, if_neg (by simpa using hd)] at h; exact h
theorem b2S {K : Int → Hp → Prop} (h : K (divW a b) H) : a1z a b H K := by
 refine a9R _ _ ?_
 unfold a3y
 unfold divW at h
 refine ⟨fun hc => by rwa [if_pos hc] at h, fun hc => ⟨fun hd => ?_, fun hd => ?_⟩⟩
 ·rw [if_neg hc, if_pos (by simpa using hd)] at h; exact h
 ·rw [if_neg hc, if_neg (by simpa using hd)] at h; exact h
theorem b0r (a b : Int) : (b = 0 ∧ divW a b = 2) ∨ (b ≠ 0 ∧ (a = -9223372036854775808 ∧ b = -1) ∧ divW a b = 1) ∨ (b ≠ 0 ∧ ¬ (a = -9223372036854775808 ∧ b = -1) ∧ divW a b = 0) := by
 unfold divW
 by_cases h0 : b = 0
 ·exact .inl ⟨h0, if_pos h0⟩
 ·by_cases h1 : a = -9223372036854775808 ∧ b = -1
  ·exact .inr (.inl ⟨h0, h1, by rw [if_neg h0, if_pos h1]⟩)
  ·exact .inr (.inr ⟨h0, h1, by rw [if_neg h0, if_neg h1]⟩)
theorem c3L (ha : o8 a) (h : K (divS a b).1 (divS a b).2 H) : b1a a b H K := by
 refine b5N _ _ (b2R ?_)
 rw [c5o ha] at h
 rcases b0r a b with ⟨h0, e⟩ | ⟨h0, h1, e⟩ | ⟨h0, h1, e⟩
 ·rw [if_pos h0] at h; rw [e]; exact ⟨fun _ => h, fun hc => by cases hc⟩
 ·rw [if_neg h0, if_pos h1] at h; rw [e]; exact ⟨fun _ => h, fun hc => by cases hc⟩
 ·rw [if_neg h0, if_neg h1] at h; rw [e, K0 (b4X ha h0 h1)]; exact ⟨fun hc => (hc rfl).elim, fun _ => ⟨h0, h⟩⟩
theorem c3M (ha : o8 a) (h : K (divS a b).1 (divS a b).2 H) : a4S a b H K := by
 refine b1U _ _ (b2S ?_)
 rw [c5o ha] at h
 rcases b0r a b with ⟨h0, e⟩ | ⟨h0, h1, e⟩ | ⟨h0, h1, e⟩
 ·rw [if_pos h0] at h; rw [e]; exact ⟨fun _ => h, fun hc => by cases hc⟩
 ·rw [if_neg h0, if_pos h1] at h; rw [e]; exact ⟨fun _ => h, fun hc => by cases hc⟩
 ·rw [if_neg h0, if_neg h1] at h; rw [e, K0 (b4X ha h0 h1)]; exact ⟨fun hc => (hc rfl).elim, fun _ => ⟨h0, h⟩⟩
theorem c3N (h : K (remS a b).1 (remS a b).2 H) : b1b a b H K := by
 refine b5O _ _ (b2R ?_)
 unfold remS at h
 rcases b0r a b with ⟨h0, e⟩ | ⟨h0, h1, e⟩ | ⟨h0, h1, e⟩
 ·rw [if_pos h0] at h; rw [e]; exact ⟨fun _ => h, fun hc => by cases hc⟩
 ·rw [if_neg h0, if_pos h1] at h; rw [e]; exact ⟨fun _ => h, fun hc => by cases hc⟩
 ·rw [if_neg h0, if_neg h1] at h; rw [e]; exact ⟨fun hc => (hc rfl).elim, fun _ => ⟨h0, h⟩⟩
theorem c3O (ha : o8 a) (hb : o8 b) (h : K (remS a b).1 (remS a b).2 H) : a4T a b H K := by
 refine b1V _ _ (b2S ?_)
 unfold remS at h
 rcases b0r a b with ⟨h0, e⟩ | ⟨h0, h1, e⟩ | ⟨h0, h1, e⟩
 ·rw [if_pos h0] at h; rw [e]; exact ⟨fun _ => h, fun hc => by cases hc⟩
 ·rw [if_neg h0, if_pos h1] at h; rw [e]; exact ⟨fun _ => h, fun hc => by cases hc⟩
 ·rw [if_neg h0, if_neg h1] at h
  rw [e, K0 (b4X ha h0 h1)]
  refine ⟨fun hc => (hc rfl).elim, fun _ => ⟨h0, ?_⟩⟩
  have e1 := Int.mul_tdiv_add_tmod a b
  have hr := b7Q (c := a) hb h0
  have hab := Int.natAbs_tmod a b
  have hle : (Int.tmod a b).natAbs ≤ a.natAbs := by rw [hab]; exact Nat.mod_le _ _
  rw [Int.mul_comm] at e1
  have e2 : IntKind.wrap .i64 (Int.tdiv a b * b) = Int.tdiv a b * b := by
   refine K0 ?_
   have hs : 0 ≤ a → 0 ≤ Int.tmod a b := fun h => Int.tmod_nonneg _ h
   have hs' : a ≤ 0 → Int.tmod a b ≤ 0 := fun h => by
    have := Int.tmod_nonneg (a := -a) b (by omega)
    rw [Int.neg_tmod] at this
    omega
   unfold o8 at ha ⊢
   generalize Int.tdiv a b * b = p at *
   generalize Int.tmod a b = r at *
   omega
  rw [e2]
  have e3 : a - Int.tdiv a b * b = Int.tmod a b := by omega
  rw [e3, K0 (by unfold o8; omega)]
  exact h
theorem c5p {k : Int} (hk : 3 ≤ k) (hk' : k ≤ 8) (ha : o8 a) (hb : o8 b) (h : K (opS k a b).1 (opS k a b).2 H) : a3t (k + 2) a b H K := by
 refine b2A _ _ _ ?_
 unfold a5B
 unfold opS at h
 refine ⟨fun h1 => ?_, fun h1 => ⟨fun h2 => ?_, fun h2 => ⟨fun h3 => ?_, fun h3 => ⟨fun h4 => ?_, fun h4 => ⟨fun h5 => ?_, fun h5 => ?_⟩⟩⟩⟩⟩
 ·rw [if_pos (by omega)] at h; exact b3K ha h
 ·rw [if_neg (by omega), if_pos (by omega)] at h; exact c3H ha hb h
 ·rw [if_neg (by omega), if_neg (by omega), if_pos (by omega)] at h; exact c3I ha hb h
 ·rw [if_neg (by omega), if_neg (by omega), if_neg (by omega), if_pos (by omega)] at h; exact c3J ha hb h
 ·rw [if_neg (by omega), if_neg (by omega), if_neg (by omega), if_neg (by omega), if_pos (by omega)] at h; exact c3M ha h
 ·rw [if_neg (by omega), if_neg (by omega), if_neg (by omega), if_neg (by omega), if_neg (by omega)] at h; exact c3O ha hb h
end
def cmpS (op a b : Int) : Bool := if op = 1 then decide (a < b) else if op = 2 then decide (a ≤ b) else if op = 3 then decide (a = b) else if op = 4 then !decide (a = b) else if op = 5 then decide (b < a) else if op = 6 then decide (b ≤ a) else false
section
variable {op a b : Int} {H : Hp}
theorem c3P {K : Bool → Hp → Prop} (h : K (cmpS op a b) H) : a4U op a b H K := by
 refine b1W _ _ _ ?_
 unfold a5q
 unfold cmpS at h
 refine ⟨fun h1 => ?_, fun h1 => ⟨fun h2 => ?_, fun h2 => ⟨fun h3 => ?_, fun h3 => ⟨fun h4 => ?_, fun h4 => ⟨fun h5 => ?_, fun h5 => ⟨fun h6 => ?_, fun h6 => ?_⟩⟩⟩⟩⟩⟩ <;> simpa [*] using h
theorem b6C {K : Hp → Prop} (h : K H) : a5N H K := b2Q (by unfold a5R; exact h)
theorem c3Q {K : Bool → Hp → Prop} (h : K (cmpS op a b) H) : b1c op a b H K := by
 refine b5P _ _ _ ?_
 unfold a8o
 unfold cmpS at h
 refine ⟨fun h1 => ?_, fun h1 => b6C ⟨?_, ?_, K, fun _ _ h => h, ?_, ?_, ?_, ?_, ?_, ?_, ?_⟩⟩
 ·simp at h1
  rw [if_neg (by omega), if_neg (by omega), if_neg (by omega), if_neg (by omega), if_neg (by omega), if_neg (by omega)] at h
  exact h
 ·simp at h1; omega
 ·simp at h1; omega
 ·intro e; simp at h1; omega
 ·rintro rfl; exact b1K _ _ (by unfold a5f; exact h)
 ·rintro rfl; exact b1L _ _ (by unfold a5g; exact h)
 ·rintro rfl; exact b1M _ _ (by unfold a5h; exact h)
 ·rintro rfl; exact b1N _ _ (by unfold a5i; exact h)
 ·rintro rfl; exact b1O _ _ (by unfold a5j; exact h)
 ·rintro rfl; exact b1P _ _ (by unfold a5k; exact h)
end
def F3 (x0 x1 w) (R : RT) (E) :=
 oP E (xV (Instr.box 25 x0)) w fun c l =>
 oP E (xCall (fC 8) []) l fun m n =>
 oP E (xV (Op.unary .not m)) n fun o d =>
 xcond o
 (R (vB false) d)
 (oP E (lA 25 c) d fun p q =>
 oP E (xCall (fC 9) [p, x1]) q fun e r =>
 oP E (eX e 0) r fun s t =>
 oP E (eX e 1) t fun u v =>
 oP E (xV (Instr.alloc 25 true (.tuple #[]))) v fun b y =>
 oP E (sA 25 b s) y fun _ z =>
 oP E (lA 25 c) z fun aa ab =>
 oP E (xCall (fC 10) [aa, x1]) ab fun f ac =>
 oP E (eX f 0) ac fun ad ae =>
 oP E (eX f 1) ae fun g af =>
 oP E (xV (Instr.alloc 25 true (.tuple #[]))) af fun i ag =>
 oP E (sA 25 i ad) ag fun _ ah =>
 oP E (xBin .neq 3 (.tmp 23) (.tmp 24) u g) ah fun ai j =>
 xcond ai
 (R (vB false) j)
 (oP E (xBin .neq 3 (.tmp 26) (.const (vI 0)) g (vI 0)) j fun aj k =>
 xcond aj
 (oP E (fA 25 b 0) k fun ak al =>
 oP E (lA 22 ak) al fun am an =>
 oP E (xBuiltin .len #[22] 3 [false] [am]) an fun ao ap =>
 oP E (xBin .eql 3 (.tmp 30) (.const (vI 0)) ao (vI 0)) ap fun a aq =>
 oP E (gsem (asB a) true (fA 25 b 1)) aq fun ar au =>
 oP E (gsem (asB a) true (lA 23 ar)) au fun av aw =>
 oP E (gsem (asB a) true (xBuiltin .len #[23] 3 [false] [av])) aw fun ax ay =>
 oP E (gsem (asB a) true (xBin .eql 3 (.tmp 35) (.const (vI 0)) ax (vI 0))) ay fun az ba =>
 oP E (xPick a az (vB false)) ba fun bb bc =>
 R bb bc)
 (oP E (lA 25 b) k fun bd be =>
 oP E (lA 25 i) be fun bf bg =>
 oP E (xCall (fC 11) [bd, bf]) bg fun bh bi =>
 R bh bi)))
def h3 : Hint := (sQ (hS (sQ (hC (sQ hN) hN)) (sQ (sQ (hS (sQ (hC (sQ hN) hN)) (hS (sQ (hC (sQ hN) hN)) (sQ hN)))))))
def F4 (x0 w) (R : RT) (E) :=
 oP E (xV (Instr.box 25 x0)) w fun c l =>
 oP E (xCall (fC 8) []) l fun m n =>
 oP E (xV (Op.unary .not m)) n fun o d =>
 xcond o
 (R (vB false) d)
 (oP E (lA 25 c) d fun p q =>
 oP E (xCall (fC 12) [p]) q fun e r =>
 oP E (eX e 0) r fun s t =>
 oP E (eX e 1) t fun u v =>
 oP E (xV (Instr.alloc 25 true (.tuple #[]))) v fun b y =>
 oP E (sA 25 b s) y fun _ z =>
 oP E (lA 25 c) z fun aa ab =>
 oP E (xCall (fC 13) [aa]) ab fun f ac =>
 oP E (eX f 0) ac fun ad ae =>
 oP E (eX f 1) ae fun g af =>
 oP E (xV (Instr.alloc 25 true (.tuple #[]))) af fun i ag =>
 oP E (sA 25 i ad) ag fun _ ah =>
 oP E (xBin .neq 3 (.tmp 19) (.tmp 20) u g) ah fun ai j =>
 xcond ai
 (R (vB false) j)
 (oP E (xBin .neq 3 (.tmp 22) (.const (vI 0)) g (vI 0)) j fun aj k =>
 xcond aj
 (oP E (fA 25 b 0) k fun ak al =>
 oP E (lA 22 ak) al fun am an =>
 oP E (xBuiltin .len #[22] 3 [false] [am]) an fun ao ap =>
 oP E (xBin .eql 3 (.tmp 26) (.const (vI 0)) ao (vI 0)) ap fun a aq =>
 oP E (gsem (asB a) true (fA 25 b 1)) aq fun ar au =>
 oP E (gsem (asB a) true (lA 23 ar)) au fun av aw =>
 oP E (gsem (asB a) true (xBuiltin .len #[23] 3 [false] [av])) aw fun ax ay =>
 oP E (gsem (asB a) true (xBin .eql 3 (.tmp 31) (.const (vI 0)) ax (vI 0))) ay fun az ba =>
 oP E (xPick a az (vB false)) ba fun bb bc =>
 R bb bc)
 (oP E (lA 25 b) k fun bd be =>
 oP E (lA 25 i) be fun bf bg =>
 oP E (xCall (fC 11) [bd, bf]) bg fun bh bi =>
 R bh bi)))
def h4 : Hint := (sQ (hS (sQ (hC (sQ hN) hN)) (sQ (sQ (hS (sQ (hC (sQ hN) hN)) (hS (sQ (hC (sQ hN) hN)) (sQ hN)))))))
def F8 (w) (R : RT) (E) :=
 oP E (xCall (fC 22) [(vI 1)]) w fun l m =>
 oP E (xCall (fC 22) [(vI 2)]) m fun n o =>
 oP E (xV (Instr.buildSlice 51 2 #[(0, l), (1, n)])) o fun p q =>
 oP E (xV (Instr.build 53 #[(0, (vI 6)), (3, p)])) q fun r s =>
 oP E (xV (Instr.build 53 #[(0, (vI 2)), (2, (Value.string ⟨#[120]⟩))])) s fun t u =>
 oP E (xV (Instr.buildSlice 51 2 #[(0, r), (1, t)])) u fun v y =>
 oP E (xV (Instr.build 53 #[(0, (vI 8)), (3, v)])) y fun z aa =>
 oP E (xCall (fC 21) [z]) aa fun i ab =>
 oP E (eX i 0) ab fun ac ad =>
 oP E (eX i 1) ad fun ae af =>
 oP E (xV (Instr.alloc 53 true (.tuple #[]))) af fun c ag =>
 oP E (sA 53 c ac) ag fun _ ah =>
 oP E (xCall (fC 22) [(vI 1)]) ah fun ai aj =>
 oP E (xCall (fC 22) [(vI 2)]) aj fun ak al =>
 oP E (xV (Instr.buildSlice 51 2 #[(0, ai), (1, ak)])) al fun am an =>
 oP E (xV (Instr.build 59 #[(0, (vI 3)), (1, (vI 1)), (2, am)])) an fun ao ap =>
 oP E (xCall (fC 23) [ao]) ap fun j aq =>
 oP E (eX j 0) aq fun ar au =>
 oP E (eX j 1) au fun av aw =>
 oP E (xV (Instr.alloc 59 true (.tuple #[]))) aw fun k ax =>
 oP E (sA 59 k ar) ax fun _ ay =>
 oP E (xBin .eql 27 (.tmp 24) (.const (vI 0)) ae (vI 0)) ay fun g az =>
 oP E (gsem (asB g) true (xBin .eql 27 (.tmp 27) (.const (vI 0)) (gval (asB g) true av) (vI 0))) az fun ba bb =>
 oP E (xPick g ba (vB false)) bb fun e bc =>
 oP E (gsem (asB e) true (fA 53 c 0)) bc fun bd be =>
 oP E (gsem (asB e) true (lA 3 bd)) be fun bf bg =>
 oP E (gsem (asB e) true (xBin .eql 3 (.tmp 32) (.const (vI 8)) bf (vI 8))) bg fun bh bi =>
 oP E (xPick e bh (vB false)) bi fun d bj =>
 oP E (gsem (asB d) true (fA 53 c 3)) bj fun bk bl =>
 oP E (gsem (asB d) true (lA 51 bk)) bl fun bm bn =>
 oP E (gsem (asB d) true (xBuiltin .len #[51] 3 [false] [bm])) bn fun bo bp =>
 oP E (gsem (asB d) true (xBin .eql 3 (.tmp 38) (.const (vI 2)) bo (vI 2))) bp fun bq br =>
 oP E (xPick d bq (vB false)) br fun a bs =>
 oP E (gsem (asB a) true (fA 53 c 3)) bs fun bt bu =>
 oP E (gsem (asB a) true (lA 51 bt)) bu fun bv bw =>
 oP E (gsem (asB a) true (iA 51 bv (vI 0))) bw fun bz ca =>
 oP E (gsem (asB a) true (fA 53 bz 0)) ca fun cb cc =>
 oP E (gsem (asB a) true (lA 3 cb)) cc fun cd ce =>
 oP E (gsem (asB a) true (xBin .eql 3 (.tmp 46) (.const (vI 1)) cd (vI 1))) ce fun cf cg =>
 oP E (xPick a cf (vB false)) cg fun b ch =>
 oP E (gsem (asB b) true (fA 53 c 3)) ch fun ci cj =>
 oP E (gsem (asB b) true (lA 51 ci)) cj fun ck cl =>
 oP E (gsem (asB b) true (iA 51 ck (vI 0))) cl fun cm cn =>
 oP E (gsem (asB b) true (fA 53 cm 1)) cn fun co cp =>
 oP E (gsem (asB b) true (lA 2 co)) cp fun cq cr =>
 oP E (gsem (asB b) true (xBin .eql 2 (.tmp 54) (.const (vI 3)) cq (vI 3))) cr fun cs ct =>
 oP E (xPick b cs (vB false)) ct fun f cu =>
 oP E (gsem (asB f) true (fA 59 k 0)) cu fun cv cw =>
 oP E (gsem (asB f) true (lA 3 cv)) cw fun cx cy =>
 oP E (gsem (asB f) true (xBin .eql 3 (.tmp 59) (.const (vI 1)) cx (vI 1))) cy fun cz da =>
 oP E (xPick f cz (vB false)) da fun db dc =>
 R db dc
def h8 : Hint := (sQ (sQ (sQ (sQ hN))))
def F9 (x0 x1 w) (R : RT) (E) :=
 oP E (xV (Instr.box 25 x0)) w fun c q =>
 oP E (xV (Instr.alloc 25 true (.tuple #[]))) q fun a r =>
 oP E (lA 25 c) r fun s t =>
 oP E (xCall (fC 24) [s]) t fun j u =>
 oP E (xBin .neq 27 (.tmp 9) (.const (vI 0)) j (vI 0)) u fun v k =>
 xcond v
 (oP E (xV (Instr.build 25 #[])) k fun y z =>
 oP E (sA 25 a y) z fun _ l =>
 xcell pG 25 a l fun aa =>
 R (Value.tuple #[aa, j]) l)
 (oP E (xBin .lss 3 (.tmp 13) (.const (vI 0)) x1 (vI 0)) k fun d ab =>
 oP E (gsem (asB d) false (xBin .gtr 3 (.tmp 16) (.const (vI 8)) (gval (asB d) false x1) (vI 8))) ab fun ac ad =>
 oP E (xPick d (vB true) ac) ad fun ae m =>
 xcond ae
 (oP E (xV (Instr.build 25 #[])) m fun af ag =>
 oP E (sA 25 a af) ag fun _ n =>
 xcell pG 25 a n fun ah =>
 R (Value.tuple #[ah, (vI 290)]) n)
 (dX m fun b =>
 qP pG (fA 25 c 0) fun e =>
 qP pG (fA 25 c 1) fun o =>
 qL pG b (blk e) (lA 22 e) fun ai =>
 qL pG b (blk o) (lA 23 o) fun aj =>
 oP E (xCall (fC 26) [aj, x1]) b fun ak f =>
 keepX [(blk e)] b f (qP pG (xV (Instr.build 25 #[(0, ai), (1, ak)])) fun al =>
 oP E (xCall (fC 25) [al]) f fun p g =>
 keepX [] f g (qP pG (eX p 0) fun am =>
 qP pG (eX p 1) fun an =>
 oP E (sA 25 a am) g fun _ i =>
 keepX [] g i (xcell pG 25 a i fun ao =>
 R (Value.tuple #[ao, an]) i)))))
def d2J (x4 x6 x8 w) (R : RT) (E) :=
 ∀ _τ : Fr, (oP E (xBin .neq 3 (.tmp 48) (.const (vI 0)) x6 (vI 0)) w fun d a =>
 xcond d
 (oP E (xV (Instr.build 25 #[])) a fun e f =>
 oP E (sA 25 x4 e) f fun _ b =>
 xcell pG 25 x4 b fun g =>
 R (Value.tuple #[g, x6]) b)
 (oP E (lA 25 x8) a fun i j =>
 oP E (sA 25 x4 i) j fun _ c =>
 xcell pG 25 x4 c fun k =>
 R (Value.tuple #[k, (vI 0)]) c))
def d2K (x4 x7 x8 w) (R : RT) (E) :=
 ∀ _τ : Fr, (oP E (lA 25 x8) w fun d e =>
 oP E (xCall (fC 27) [d]) e fun b f =>
 xcut (fun g i => d2J x4 (nth g 0) x8 i R E) fun j2 =>
 oP E (xNil x7) f fun j k =>
 oP E (fA 67 j 1) k fun l m =>
 oP E (lA 3 l) m fun n o =>
 oP E (xBin .lss 3 (.tmp 42) (.const (vI 0)) n (vI 0)) o fun a p =>
 oP E (gsem (asB a) true (xBin .eql 3 (.tmp 45) (.const (vI 0)) (gval (asB a) true b) (vI 0))) p fun q r =>
 oP E (xPick a q (vB false)) r fun s c =>
 xcond s
 (j2 [(vI 33)] c)
 (j2 [b] c))
def F10 (x0 x1 w) (R : RT) (E) :=
 oP E (xV (Instr.box 25 x0)) w fun f ag =>
 oP E (xV (Instr.alloc 25 true (.tuple #[]))) ag fun c ah =>
 oP E (lA 25 f) ah fun ai aj =>
 oP E (xCall (fC 27) [ai]) aj fun r ak =>
 oP E (xBin .neq 3 (.tmp 11) (.const (vI 0)) r (vI 0)) ak fun al s =>
 xcond al
 (oP E (xV (Instr.build 25 #[])) s fun am an =>
 oP E (sA 25 c am) an fun _ t =>
 xcell pG 25 c t fun ao =>
 R (Value.tuple #[ao, r]) t)
 (oP E (xBin .lss 3 (.tmp 15) (.const (vI 0)) x1 (vI 0)) s fun i ap =>
 oP E (gsem (asB i) false (xBin .gtr 3 (.tmp 18) (.const (vI 8)) (gval (asB i) false x1) (vI 8))) ap fun aq ar =>
 oP E (xPick i (vB true) aq) ar fun au u =>
 xcond au
 (oP E (xV (Instr.build 25 #[])) u fun av aw =>
 oP E (sA 25 c av) aw fun _ v =>
 xcell pG 25 c v fun ax =>
 R (Value.tuple #[ax, (vI 290)]) v)
 (oP E (fA 25 f 0) u fun ay az =>
 oP E (lA 22 ay) az fun ba bb =>
 oP E (xBuiltin .len #[22] 3 [false] [ba]) bb fun bc bd =>
 oP E (xBin .sub 3 (.const (vI 4096)) (.tmp 25) (vI 4096) bc) bd fun be bf =>
 oP E (xV (Instr.build 67 #[(0, x1), (1, be)])) bf fun bg bh =>
 oP E (xV (Instr.box 67 bg)) bh fun g bi =>
 xcut (fun bj bk => d2K c g (nth bj 0) bk R E) fun j1 =>
 dX bi fun b =>
 qP pG (fA 25 f 0) fun d =>
 qP pG (fA 25 f 1) fun a =>
 qL pG b (blk d) (lA 22 d) fun y =>
 qL pG b (blk a) (lA 23 a) fun j =>
 (oP E (xBuiltin .append #[22, 22] 22 [true, false] [(nS), y]) b fun z e =>
 keepX [(blk a)] b e ((oP E (xCall (fC 28) [g, j]) e fun bl k =>
 keepX [] e k (qP pG (xV (Instr.build 25 #[(0, z), (1, bl)])) fun bm =>
 oP E (xV (Instr.alloc 25 true (.tuple #[]))) k fun aa l =>
 keepX [(blk a), (blk d)] k l (opK pG E (sA 25 aa bm) l fun _ ab =>
 keepX [] l ab (j1 [aa] ab)))) ∧
 (oP E (xV (Instr.alloc 25 true (.tuple #[]))) e fun ac m =>
 keepX [(blk a), (blk d)] e m (opK pG E (xCall (fC 28) [g, j]) m fun bn n =>
 keepX [] m n (qP pG (xV (Instr.build 25 #[(0, z), (1, bn)])) fun bo =>
 oP E (sA 25 ac bo) n fun _ ad =>
 keepX [] n ad (j1 [ac] ad)))))) ∧
 (oP E (xV (Instr.alloc 25 true (.tuple #[]))) b fun ae o =>
 keepX [(blk a), (blk d)] b o (opK pG E (xBuiltin .append #[22, 22] 22 [true, false] [(nS), y]) o fun bp p =>
 keepX [(blk a)] o p (opK pG E (xCall (fC 28) [g, j]) p fun bq q =>
 keepX [] p q (qP pG (xV (Instr.build 25 #[(0, bp), (1, bq)])) fun br =>
 oP E (sA 25 ae br) q fun _ af =>
 keepX [] q af (j1 [ae] af)))))))
end Go.Proofs.YtnhkdkcgdcgmdaaGreatDoor
