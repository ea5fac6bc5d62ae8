/- Arithmetic, comparisons, edges' forms: what the program's and the document's small functions answer. Contracts off the printed formulas. -/
import Derived.Test.YtnhkdkcgdcgmdaaGreatDoorzPB
import Derived.Test.YtnhkdkcgdcgmdaaGreatDoorzPV1r
import Derived.Laws.MathBits
namespace Go.Proofs.YtnhkdkcgdcgmdaaGreatDoor
open Go.RowKit
set_option maxRecDepth 100000
set_option maxHeartbeats 2000000
def fit (x : Int) : Int × Int := if p6 x then (x, 0) else (0, 1)
def divS (a b : Int) : Int × Int := if b = 0 then (0, 2) else fit (Int.tdiv a b)
def remS (a b : Int) : Int × Int := if b = 0 then (0, 2) else if a = -9223372036854775808 ∧ b = -1 then (0, 1) else (Int.tmod a b, 0)
def opS (k a b : Int) : Int × Int := if k = 3 then fit (-a) else if k = 4 then fit (a + b) else if k = 5 then fit (a - b) else if k = 6 then fit (a * b) else if k = 7 then divS a b else remS a b
section
variable {a b : Int} {H : Hp} {K : Int → Int → Hp → Prop}
theorem c4m {x : Int} (h : p6 x) : fit x = (x, 0) := if_pos h
theorem c7F {x : Int} (h : ¬ p6 x) : fit x = (0, 1) := if_neg h
theorem c4n (ha : p6 a) (hb : p6 b) (h : K (fit (a + b)).1 (fit (a + b)).2 H) : a6s a b H K := by
  refine c2L _ _ ?_
  unfold a6I
  simp only [IntKind.wrap_i64]
  have ha' := ha; have hb' := hb
  unfold p6 at ha' hb'
  by_cases hf : p6 (a + b)
  · rw [c4m hf] at h
    unfold p6 at hf
    refine ⟨fun hc => ?_, fun _ => ?_⟩
    · simp at hc; omega
    · have : (a + b + 9223372036854775808) % 18446744073709551616 - 9223372036854775808 = a + b := by omega
      rw [this]; exact h
  · rw [c7F hf] at h
    unfold p6 at hf
    refine ⟨fun _ => h, fun hc => ?_⟩
    simp at hc; omega
theorem b7B (ha : p6 a) (hb : p6 b) (h : K (fit (a - b)).1 (fit (a - b)).2 H) : a4A a b H K := by
  refine c2J _ _ ?_
  unfold a6G
  simp only [IntKind.wrap_i64]
  have ha' := ha; have hb' := hb
  unfold p6 at ha' hb'
  by_cases hf : p6 (a - b)
  · rw [c4m hf] at h
    unfold p6 at hf
    refine ⟨fun hc => ?_, fun _ => ?_⟩
    · simp at hc; omega
    · have : (a - b + 9223372036854775808) % 18446744073709551616 - 9223372036854775808 = a - b := by omega
      rw [this]; exact h
  · rw [c7F hf] at h
    unfold p6 at hf
    refine ⟨fun _ => h, fun hc => ?_⟩
    simp at hc; omega
theorem c4o (ha : p6 a) (h : K (fit (-a)).1 (fit (-a)).2 H) : a6r a H K := by
  refine c2K _ ?_
  unfold a6H
  refine b7B (by decide) ha ?_
  rw [Int.zero_sub]; exact h
theorem d4z {c : Int} (hb : p6 b) (h0 : b ≠ 0) : -9223372036854775808 < Int.tmod c b ∧ Int.tmod c b < 9223372036854775808 := by
  have h := Int.natAbs_tmod c b
  have h2 : c.natAbs % b.natAbs < b.natAbs := Nat.mod_lt _ (by omega)
  unfold p6 at hb
  omega
theorem c2Q {x : Int} (h0 : 0 ≤ x) (h1 : x < 18446744073709551616) : bandI .u64 x 4294967295 = x % 4294967296 := by
  obtain ⟨n, rfl⟩ := Int.eq_ofNat_of_zero_le h0
  unfold bandI
  have e : (BitVec.ofInt (IntKind.bits .u64) (n : Int) &&& BitVec.ofInt (IntKind.bits .u64) 4294967295).toNat = n % 4294967296 := by
    rw [BitVec.toNat_and]
    have h2 : (BitVec.ofInt (IntKind.bits .u64) (n : Int)).toNat = n := by
      show (BitVec.ofInt 64 (n : Int)).toNat = n
      rw [BitVec.toNat_ofInt]
      omega
    have h3 : (BitVec.ofInt (IntKind.bits .u64) 4294967295).toNat = 2 ^ 32 - 1 := by decide
    rw [h2, h3, Nat.and_two_pow_sub_one_eq_mod]
  rw [e, IntKind.wrap_u64]
  omega
theorem f2b (x : Int) : Int.fdiv x (2 ^ 32) = x / 4294967296 := by rw [Int.fdiv_eq_ediv_of_nonneg _ (by decide)]; rfl
theorem c7y (ha : 0 ≤ a) (ha' : a < 18446744073709551616) (hb : 0 ≤ b) (hb' : b < 18446744073709551616) (h : K (a * b / 18446744073709551616) (a * b % 18446744073709551616) H) : a8l a b H K := by
  refine c1D _ _ ?_
  unfold a5I
  have wr : ∀ x, IntKind.wrap .u64 x = x % 18446744073709551616 := IntKind.wrap_u64
  have bn : ∀ x : Int, bandI .u64 (x % 18446744073709551616) 4294967295 = x % 18446744073709551616 % 4294967296 := fun x => c2Q (by omega) (by omega)
  simp only [f2b, c2Q ha ha', c2Q hb hb', wr, bn]
  rw [mul64_arith a b ha ha' hb hb']
  exact h
theorem c1R (ha : p6 a) {K : Int → Hp → Prop} (h : K (a.natAbs : Int) H) : a5A a H K := by
  refine c1C _ ?_
  unfold a5H
  simp only [IntKind.wrap_u64]
  unfold p6 at ha
  refine ⟨fun hc => ?_, fun hc => ?_⟩
  · have : (0 - a % 18446744073709551616) % 18446744073709551616 = (a.natAbs : Int) := by omega
    rw [this]; exact h
  · have : a % 18446744073709551616 = (a.natAbs : Int) := by omega
    rw [this]; exact h
theorem f2c (a b : Int) : (a.natAbs : Int) * (b.natAbs : Int) = if (a < 0) = (b < 0) then a * b else -(a * b) := by
  rcases Int.natAbs_eq a with h1 | h1 <;> rcases Int.natAbs_eq b with h2 | h2
  all_goals
    by_cases ca : a < 0 <;> by_cases cb : b < 0
  all_goals first
    | (have e1 : (a.natAbs : Int) = a := by omega
       have e2 : (b.natAbs : Int) = b := by omega
       simp only [e1, e2, ca, cb, if_true]; done)
    | (have e1 : (a.natAbs : Int) = -a := by omega
       have e2 : (b.natAbs : Int) = b := by omega
       simp [e1, e2, ca, cb, Int.neg_mul]; done)
    | (have e1 : (a.natAbs : Int) = a := by omega
       have e2 : (b.natAbs : Int) = -b := by omega
       simp [e1, e2, ca, cb, Int.mul_neg]; done)
    | (have e1 : (a.natAbs : Int) = -a := by omega
       have e2 : (b.natAbs : Int) = -b := by omega
       simp [e1, e2, ca, cb, Int.neg_mul_neg]; done)
theorem c4p (ha : p6 a) (hb : p6 b) (h : K (fit (a * b)).1 (fit (a * b)).2 H) : a6t a b H K := by
  refine c2M _ _ ?_
  unfold a6J
  have hx := ha; have hy := hb
  unfold p6 at hx hy
  refine c1R ha ?_
  refine c1R hb ?_
  refine c7y (by omega) (by omega) (by omega) (by omega) ?_
  have hm := f2c a b
  have hp0 : 0 ≤ (a.natAbs : Int) * (b.natAbs : Int) := Int.mul_nonneg (by omega) (by omega)
  refine ⟨fun hc => ?_, fun hc => ?_⟩
  · unfold a0v
    have hs : ¬ ((a < 0) = (b < 0)) := by
      intro e
      simp [e] at hc
    rw [if_neg hs] at hm
    have e1 : IntKind.wrap .u64 (9223372036854775807 + 1) = 9223372036854775808 := by decide
    rw [e1]
    generalize (a.natAbs : Int) * (b.natAbs : Int) = p at *
    have hab : a * b = -p := by omega
    rw [hab] at h ⊢
    by_cases hf : p6 (-p)
    · rw [c4m hf] at h
      rw [a6f hf]
      unfold p6 at hf
      refine ⟨fun hd => ?_, fun _ => h⟩
      simp at hd; omega
    · rw [c7F hf] at h
      unfold p6 at hf
      refine ⟨fun _ => h, fun hd => ?_⟩
      simp at hd; omega
  · unfold a0v
    have hs : (a < 0) = (b < 0) := by
      by_cases h1 : a < 0 <;> by_cases h2 : b < 0 <;> simp [h1, h2] at hc ⊢
    rw [if_pos hs] at hm
    generalize (a.natAbs : Int) * (b.natAbs : Int) = p at *
    rw [← hm] at h ⊢
    by_cases hf : p6 p
    · rw [c4m hf] at h
      rw [a6f hf]
      unfold p6 at hf
      refine ⟨fun hd => ?_, fun _ => h⟩
      simp at hd; omega
    · rw [c7F hf] at h
      unfold p6 at hf
      refine ⟨fun _ => h, fun hd => ?_⟩
      simp at hd; omega
theorem d4A (ha : p6 a) (hb : b ≠ 0) (h : ¬ (a = -9223372036854775808 ∧ b = -1)) : p6 (Int.tdiv a b) := by
  have hab : (Int.tdiv a b).natAbs = a.natAbs / b.natAbs := Int.natAbs_tdiv a b
  unfold p6 at ha ⊢
  by_cases h1 : b.natAbs = 1
  · rw [h1, Nat.div_one] at hab
    by_cases h2 : a = -9223372036854775808
    · have : b = 1 := by omega
      subst this
      rw [Int.tdiv_one]; omega
    · omega
  · have h4 : a.natAbs / b.natAbs ≤ a.natAbs / 2 := Nat.div_le_div_left (by omega) (by decide)
    omega
theorem g1W (ha : p6 a) : divS a b = if b = 0 then (0, 2) else if a = -9223372036854775808 ∧ b = -1 then (0, 1) else (Int.tdiv a b, 0) := by
  unfold divS
  by_cases h0 : b = 0
  · rw [if_pos h0, if_pos h0]
  · rw [if_neg h0, if_neg h0]
    by_cases h1 : a = -9223372036854775808 ∧ b = -1
    · rw [if_pos h1, h1.1, h1.2]; rfl
    · rw [if_neg h1, c4m (d4A ha h0 h1)]
def divW (a b : Int) : Int := if b = 0 then 2 else if a = -9223372036854775808 ∧ b = -1 then 1 else 0
theorem b5X {K : Int → Hp → Prop} (h : K (divW a b) H) : a4d a b H K := by
  refine b7z _ _ ?_
  unfold a4s
  unfold divW at h
  refine ⟨fun hc => by rwa [if_pos hc] at h, fun hc => ⟨fun hd => ?_, fun hd => ?_⟩⟩
  · rw [if_neg hc, if_pos (by simpa using hd)] at h; exact h
  · rw [if_neg hc, if_neg (by simpa using hd)] at h; exact h
theorem c4q (a b : Int) : (b = 0 ∧ divW a b = 2) ∨ (b ≠ 0 ∧ (a = -9223372036854775808 ∧ b = -1) ∧ divW a b = 1) ∨ (b ≠ 0 ∧ ¬ (a = -9223372036854775808 ∧ b = -1) ∧ divW a b = 0) := by
  unfold divW
  by_cases h0 : b = 0
  · exact .inl ⟨h0, if_pos h0⟩
  · by_cases h1 : a = -9223372036854775808 ∧ b = -1
    · exact .inr (.inl ⟨h0, h1, by rw [if_neg h0, if_pos h1]⟩)
    · exact .inr (.inr ⟨h0, h1, by rw [if_neg h0, if_neg h1]⟩)
theorem c4r (ha : p6 a) (h : K (divS a b).1 (divS a b).2 H) : a6u a b H K := by
  refine c2N _ _ (b5X ?_)
  rw [g1W ha] at h
  rcases c4q a b with ⟨h0, e⟩ | ⟨h0, h1, e⟩ | ⟨h0, h1, e⟩
  · rw [if_pos h0] at h; rw [e]; exact ⟨fun _ => h, fun hc => by cases hc⟩
  · rw [if_neg h0, if_pos h1] at h; rw [e]; exact ⟨fun _ => h, fun hc => by cases hc⟩
  · rw [if_neg h0, if_neg h1] at h; rw [e, a6f (d4A ha h0 h1)]; exact ⟨fun hc => (hc rfl).elim, fun _ => ⟨h0, h⟩⟩
theorem c4s (h : K (remS a b).1 (remS a b).2 H) : a6v a b H K := by
  refine c2O _ _ (b5X ?_)
  unfold remS at h
  rcases c4q a b with ⟨h0, e⟩ | ⟨h0, h1, e⟩ | ⟨h0, h1, e⟩
  · rw [if_pos h0] at h; rw [e]; exact ⟨fun _ => h, fun hc => by cases hc⟩
  · rw [if_neg h0, if_pos h1] at h; rw [e]; exact ⟨fun _ => h, fun hc => by cases hc⟩
  · rw [if_neg h0, if_neg h1] at h; rw [e]; exact ⟨fun hc => (hc rfl).elim, fun _ => ⟨h0, h⟩⟩
end
def cmpS (op a b : Int) : Bool := if op = 1 then decide (a < b) else if op = 2 then decide (a ≤ b) else if op = 3 then decide (a = b) else if op = 4 then !decide (a = b) else if op = 5 then decide (b < a) else if op = 6 then decide (b ≤ a) else false
section
variable {op a b : Int} {H : Hp}
theorem c4t {K : Hp → Prop} (h : K H) : a5U H K := b5W (by unfold a3G; exact h)
theorem c4u {K : Bool → Hp → Prop} (h : K (cmpS op a b) H) : a8K op a b H K := by
  refine c2P _ _ _ ?_
  unfold a6K
  unfold cmpS at h
  refine ⟨fun h1 => ?_, fun h1 => c4t ⟨?_, ?_, K, fun _ _ h => h, ?_, ?_, ?_, ?_, ?_, ?_, ?_⟩⟩
  · simp at h1
    rw [if_neg (by omega), if_neg (by omega), if_neg (by omega), if_neg (by omega), if_neg (by omega), if_neg (by omega)] at h
    exact h
  · simp at h1; omega
  · simp at h1; omega
  · intro e; simp at h1; omega
  · rintro rfl; exact b3Z _ _ (by unfold a2o; exact h)
  · rintro rfl; exact b4a _ _ (by unfold a2p; exact h)
  · rintro rfl; exact b4b _ _ (by unfold a2q; exact h)
  · rintro rfl; exact b4c _ _ (by unfold a2r; exact h)
  · rintro rfl; exact b4d _ _ (by unfold a2s; exact h)
  · rintro rfl; exact b4e _ _ (by unfold a2t; exact h)
end
end Go.Proofs.YtnhkdkcgdcgmdaaGreatDoor
