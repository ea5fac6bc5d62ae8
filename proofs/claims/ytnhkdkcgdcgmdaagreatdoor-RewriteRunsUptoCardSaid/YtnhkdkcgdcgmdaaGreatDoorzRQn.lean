/- Arithmetic, comparisons, edges' forms: what the program's and the document's small functions answer. Contracts off the printed formulas. -/
import Derived.Test.YtnhkdkcgdcgmdaaGreatDoorzRB
import Derived.Test.YtnhkdkcgdcgmdaaGreatDoorzRV1r
import Derived.Laws.MathBits
namespace Go.Proofs.YtnhkdkcgdcgmdaaGreatDoor
open Go.RowKit
set_option maxRecDepth 100000
set_option maxHeartbeats 2000000
def fit (x : Int) : Int × Int := if o8 x then (x, 0) else (0, 1)
def divS (a b : Int) : Int × Int := if b = 0 then (0, 2) else fit (Int.tdiv a b)
def remS (a b : Int) : Int × Int := if b = 0 then (0, 2) else if a = -9223372036854775808 ∧ b = -1 then (0, 1) else (Int.tmod a b, 0)
def opS (k a b : Int) : Int × Int := if k = 3 then fit (-a) else if k = 4 then fit (a + b) else if k = 5 then fit (a - b) else if k = 6 then fit (a * b) else if k = 7 then divS a b else remS a b
section
variable {a b : Int} {H : Hp} {K : Int → Int → Hp → Prop}
theorem a9b {x : Int} (h : o8 x) : fit x = (x, 0) := if_pos h
theorem c8H {x : Int} (h : ¬ o8 x) : fit x = (0, 1) := if_neg h
theorem c4V (ha : o8 a) (hb : o8 b) (h : K (fit (a + b)).1 (fit (a + b)).2 H) : a6G a b H K := by
  refine c3n _ _ ?_
  unfold a6V
  simp only [IntKind.wrap_i64]
  have ha' := ha; have hb' := hb
  unfold o8 at ha' hb'
  by_cases hf : o8 (a + b)
  · rw [a9b hf] at h
    unfold o8 at hf
    refine ⟨fun hc => ?_, fun _ => ?_⟩
    · simp at hc; omega
    · have : (a + b + 9223372036854775808) % 18446744073709551616 - 9223372036854775808 = a + b := by omega
      rw [this]; exact h
  · rw [c8H hf] at h
    unfold o8 at hf
    refine ⟨fun _ => h, fun hc => ?_⟩
    simp at hc; omega
theorem b8f (ha : o8 a) (hb : o8 b) (h : K (fit (a - b)).1 (fit (a - b)).2 H) : a4G a b H K := by
  refine c3l _ _ ?_
  unfold a6T
  simp only [IntKind.wrap_i64]
  have ha' := ha; have hb' := hb
  unfold o8 at ha' hb'
  by_cases hf : o8 (a - b)
  · rw [a9b hf] at h
    unfold o8 at hf
    refine ⟨fun hc => ?_, fun _ => ?_⟩
    · simp at hc; omega
    · have : (a - b + 9223372036854775808) % 18446744073709551616 - 9223372036854775808 = a - b := by omega
      rw [this]; exact h
  · rw [c8H hf] at h
    unfold o8 at hf
    refine ⟨fun _ => h, fun hc => ?_⟩
    simp at hc; omega
theorem c4W (ha : o8 a) (h : K (fit (-a)).1 (fit (-a)).2 H) : a6F a H K := by
  refine c3m _ ?_
  unfold a6U
  refine b8f (by decide) ha ?_
  rw [Int.zero_sub]; exact h
theorem d5Y {c : Int} (hb : o8 b) (h0 : b ≠ 0) : -9223372036854775808 < Int.tmod c b ∧ Int.tmod c b < 9223372036854775808 := by
  have h := Int.natAbs_tmod c b
  have h2 : c.natAbs % b.natAbs < b.natAbs := Nat.mod_lt _ (by omega)
  unfold o8 at hb
  omega
theorem c3t {x : Int} (h0 : 0 ≤ x) (h1 : x < 18446744073709551616) : bandI .u64 x 4294967295 = x % 4294967296 := by
  obtain ⟨n, rfl⟩ := Int.eq_ofNat_of_zero_le h0
  unfold bandI
  have e : (BitVec.ofInt (IntKind.bits .u64) (n : Int) &&& BitVec.ofInt (IntKind.bits .u64) 4294967295).toNat = n % 4294967296 := by
    rw [BitVec.toNat_and]
    have h2 : (BitVec.ofInt (IntKind.bits .u64) (n : Int)).toNat = n := by
      show (BitVec.ofInt 64 (n : Int)).toNat = n
      rw [BitVec.toNat_ofInt]
      omega
    have h3 : (BitVec.ofInt (IntKind.bits .u64) 4294967295).toNat = 2 ^ 32 - 1 := by decide
    rw [h2, h3, Nat.and_two_pow_sub_one_eq_mod]
  rw [e, IntKind.wrap_u64]
  omega
theorem f3F (x : Int) : Int.fdiv x (2 ^ 32) = x / 4294967296 := by rw [Int.fdiv_eq_ediv_of_nonneg _ (by decide)]; rfl
theorem c8B (ha : 0 ≤ a) (ha' : a < 18446744073709551616) (hb : 0 ≤ b) (hb' : b < 18446744073709551616) (h : K (a * b / 18446744073709551616) (a * b % 18446744073709551616) H) : a8C a b H K := by
  refine c2c _ _ ?_
  unfold a5U
  have wr : ∀ x, IntKind.wrap .u64 x = x % 18446744073709551616 := IntKind.wrap_u64
  have bn : ∀ x : Int, bandI .u64 (x % 18446744073709551616) 4294967295 = x % 18446744073709551616 % 4294967296 := fun x => c3t (by omega) (by omega)
  simp only [f3F, c3t ha ha', c3t hb hb', wr, bn]
  rw [mul64_arith a b ha ha' hb hb']
  exact h
theorem c2q (ha : o8 a) {K : Int → Hp → Prop} (h : K (a.natAbs : Int) H) : a5M a H K := by
  refine c2b _ ?_
  unfold a5T
  simp only [IntKind.wrap_u64]
  unfold o8 at ha
  refine ⟨fun hc => ?_, fun hc => ?_⟩
  · have : (0 - a % 18446744073709551616) % 18446744073709551616 = (a.natAbs : Int) := by omega
    rw [this]; exact h
  · have : a % 18446744073709551616 = (a.natAbs : Int) := by omega
    rw [this]; exact h
theorem f3G (a b : Int) : (a.natAbs : Int) * (b.natAbs : Int) = if (a < 0) = (b < 0) then a * b else -(a * b) := by
  rcases Int.natAbs_eq a with h1 | h1 <;> rcases Int.natAbs_eq b with h2 | h2
  all_goals
    by_cases ca : a < 0 <;> by_cases cb : b < 0
  all_goals first
    | (have e1 : (a.natAbs : Int) = a := by omega
       have e2 : (b.natAbs : Int) = b := by omega
       simp only [e1, e2, ca, cb, if_true]; done)
    | (have e1 : (a.natAbs : Int) = -a := by omega
       have e2 : (b.natAbs : Int) = b := by omega
       simp [e1, e2, ca, cb, Int.neg_mul]; done)
    | (have e1 : (a.natAbs : Int) = a := by omega
       have e2 : (b.natAbs : Int) = -b := by omega
       simp [e1, e2, ca, cb, Int.mul_neg]; done)
    | (have e1 : (a.natAbs : Int) = -a := by omega
       have e2 : (b.natAbs : Int) = -b := by omega
       simp [e1, e2, ca, cb, Int.neg_mul_neg]; done)
theorem c4X (ha : o8 a) (hb : o8 b) (h : K (fit (a * b)).1 (fit (a * b)).2 H) : a6H a b H K := by
  refine c3o _ _ ?_
  unfold a6W
  have hx := ha; have hy := hb
  unfold o8 at hx hy
  refine c2q ha ?_
  refine c2q hb ?_
  refine c8B (by omega) (by omega) (by omega) (by omega) ?_
  have hm := f3G a b
  have hp0 : 0 ≤ (a.natAbs : Int) * (b.natAbs : Int) := Int.mul_nonneg (by omega) (by omega)
  refine ⟨fun hc => ?_, fun hc => ?_⟩
  · unfold a0z
    have hs : ¬ ((a < 0) = (b < 0)) := by
      intro e
      simp [e] at hc
    rw [if_neg hs] at hm
    have e1 : IntKind.wrap .u64 (9223372036854775807 + 1) = 9223372036854775808 := by decide
    rw [e1]
    generalize (a.natAbs : Int) * (b.natAbs : Int) = p at *
    have hab : a * b = -p := by omega
    rw [hab] at h ⊢
    by_cases hf : o8 (-p)
    · rw [a9b hf] at h
      rw [a1H hf]
      unfold o8 at hf
      refine ⟨fun hd => ?_, fun _ => h⟩
      simp at hd; omega
    · rw [c8H hf] at h
      unfold o8 at hf
      refine ⟨fun _ => h, fun hd => ?_⟩
      simp at hd; omega
  · unfold a0z
    have hs : (a < 0) = (b < 0) := by
      by_cases h1 : a < 0 <;> by_cases h2 : b < 0 <;> simp [h1, h2] at hc ⊢
    rw [if_pos hs] at hm
    generalize (a.natAbs : Int) * (b.natAbs : Int) = p at *
    rw [← hm] at h ⊢
    by_cases hf : o8 p
    · rw [a9b hf] at h
      rw [a1H hf]
      unfold o8 at hf
      refine ⟨fun hd => ?_, fun _ => h⟩
      simp at hd; omega
    · rw [c8H hf] at h
      unfold o8 at hf
      refine ⟨fun _ => h, fun hd => ?_⟩
      simp at hd; omega
theorem d5Z (ha : o8 a) (hb : b ≠ 0) (h : ¬ (a = -9223372036854775808 ∧ b = -1)) : o8 (Int.tdiv a b) := by
  have hab : (Int.tdiv a b).natAbs = a.natAbs / b.natAbs := Int.natAbs_tdiv a b
  unfold o8 at ha ⊢
  by_cases h1 : b.natAbs = 1
  · rw [h1, Nat.div_one] at hab
    by_cases h2 : a = -9223372036854775808
    · have : b = 1 := by omega
      subst this
      rw [Int.tdiv_one]; omega
    · omega
  · have h4 : a.natAbs / b.natAbs ≤ a.natAbs / 2 := Nat.div_le_div_left (by omega) (by decide)
    omega
theorem g3r (ha : o8 a) : divS a b = if b = 0 then (0, 2) else if a = -9223372036854775808 ∧ b = -1 then (0, 1) else (Int.tdiv a b, 0) := by
  unfold divS
  by_cases h0 : b = 0
  · rw [if_pos h0, if_pos h0]
  · rw [if_neg h0, if_neg h0]
    by_cases h1 : a = -9223372036854775808 ∧ b = -1
    · rw [if_pos h1, h1.1, h1.2]; rfl
    · rw [if_neg h1, a9b (d5Z ha h0 h1)]
def divW (a b : Int) : Int := if b = 0 then 2 else if a = -9223372036854775808 ∧ b = -1 then 1 else 0
theorem b6H {K : Int → Hp → Prop} (h : K (divW a b) H) : a4i a b H K := by
  refine b8d _ _ ?_
  unfold a4u
  unfold divW at h
  refine ⟨fun hc => by rwa [if_pos hc] at h, fun hc => ⟨fun hd => ?_, fun hd => ?_⟩⟩
  · rw [if_neg hc, if_pos (by simpa using hd)] at h; exact h
  · rw [if_neg hc, if_neg (by simpa using hd)] at h; exact h
theorem c4Y (a b : Int) : (b = 0 ∧ divW a b = 2) ∨ (b ≠ 0 ∧ (a = -9223372036854775808 ∧ b = -1) ∧ divW a b = 1) ∨ (b ≠ 0 ∧ ¬ (a = -9223372036854775808 ∧ b = -1) ∧ divW a b = 0) := by
  unfold divW
  by_cases h0 : b = 0
  · exact .inl ⟨h0, if_pos h0⟩
  · by_cases h1 : a = -9223372036854775808 ∧ b = -1
    · exact .inr (.inl ⟨h0, h1, by rw [if_neg h0, if_pos h1]⟩)
    · exact .inr (.inr ⟨h0, h1, by rw [if_neg h0, if_neg h1]⟩)
theorem c4Z (ha : o8 a) (h : K (divS a b).1 (divS a b).2 H) : a6I a b H K := by
  refine c3p _ _ (b6H ?_)
  rw [g3r ha] at h
  rcases c4Y a b with ⟨h0, e⟩ | ⟨h0, h1, e⟩ | ⟨h0, h1, e⟩
  · rw [if_pos h0] at h; rw [e]; exact ⟨fun _ => h, fun hc => by cases hc⟩
  · rw [if_neg h0, if_pos h1] at h; rw [e]; exact ⟨fun _ => h, fun hc => by cases hc⟩
  · rw [if_neg h0, if_neg h1] at h; rw [e, a1H (d5Z ha h0 h1)]; exact ⟨fun hc => (hc rfl).elim, fun _ => ⟨h0, h⟩⟩
theorem c5a (h : K (remS a b).1 (remS a b).2 H) : a6J a b H K := by
  refine c3q _ _ (b6H ?_)
  unfold remS at h
  rcases c4Y a b with ⟨h0, e⟩ | ⟨h0, h1, e⟩ | ⟨h0, h1, e⟩
  · rw [if_pos h0] at h; rw [e]; exact ⟨fun _ => h, fun hc => by cases hc⟩
  · rw [if_neg h0, if_pos h1] at h; rw [e]; exact ⟨fun _ => h, fun hc => by cases hc⟩
  · rw [if_neg h0, if_neg h1] at h; rw [e]; exact ⟨fun hc => (hc rfl).elim, fun _ => ⟨h0, h⟩⟩
end
def cmpS (op a b : Int) : Bool := if op = 1 then decide (a < b) else if op = 2 then decide (a ≤ b) else if op = 3 then decide (a = b) else if op = 4 then !decide (a = b) else if op = 5 then decide (b < a) else if op = 6 then decide (b ≤ a) else false
section
variable {op a b : Int} {H : Hp}
theorem c5b {K : Hp → Prop} (h : K H) : a6h H K := b6G (by unfold a3K; exact h)
theorem c5c {K : Bool → Hp → Prop} (h : K (cmpS op a b) H) : a9l op a b H K := by
  refine c3s _ _ _ ?_
  unfold a6X
  unfold cmpS at h
  refine ⟨fun h1 => ?_, fun h1 => c5b ⟨?_, ?_, K, fun _ _ h => h, ?_, ?_, ?_, ?_, ?_, ?_, ?_⟩⟩
  · simp at h1
    rw [if_neg (by omega), if_neg (by omega), if_neg (by omega), if_neg (by omega), if_neg (by omega), if_neg (by omega)] at h
    exact h
  · simp at h1; omega
  · simp at h1; omega
  · intro e; simp at h1; omega
  · rintro rfl; exact b4H _ _ (by unfold a2y; exact h)
  · rintro rfl; exact b4I _ _ (by unfold a2z; exact h)
  · rintro rfl; exact b4J _ _ (by unfold a2A; exact h)
  · rintro rfl; exact b4K _ _ (by unfold a2B; exact h)
  · rintro rfl; exact b4L _ _ (by unfold a2C; exact h)
  · rintro rfl; exact b4M _ _ (by unfold a2D; exact h)
end
end Go.Proofs.YtnhkdkcgdcgmdaaGreatDoor
