/- Arithmetic, comparisons, edges' forms: what the program's and the document's small functions answer. Contracts off the printed formulas. -/
import Derived.Test.YtnhkdkcgdcgmdaaDoorzZB
import Derived.Test.YtnhkdkcgdcgmdaaDoorzZV1r
import Derived.Laws.MathBits
namespace Go.Proofs.YtnhkdkcgdcgmdaaDoor
open Go.RowKit
set_option maxRecDepth 100000
set_option maxHeartbeats 2000000
def fit (x : Int) : Int × Int := if o0 x then (x, 0) else (0, 1)
def divS (a b : Int) : Int × Int := if b = 0 then (0, 2) else fit (Int.tdiv a b)
def remS (a b : Int) : Int × Int := if b = 0 then (0, 2) else if a = -9223372036854775808 ∧ b = -1 then (0, 1) else (Int.tmod a b, 0)
def opS (k a b : Int) : Int × Int := if k = 3 then fit (-a) else if k = 4 then fit (a + b) else if k = 5 then fit (a - b) else if k = 6 then fit (a * b) else if k = 7 then divS a b else remS a b
section
variable {a b : Int} {H : Hp} {K : Int → Int → Hp → Prop}
theorem b8A {x : Int} (h : o0 x) : fit x = (x, 0) := if_pos h
theorem c1L {x : Int} (h : ¬ o0 x) : fit x = (0, 1) := if_neg h
theorem c9r (ha : o0 a) (hb : o0 b) (h : K (fit (a + b)).1 (fit (a + b)).2 H) : a8C a b H K := by
  refine b7c _ _ ?_
  unfold a3o
  simp only [IntKind.wrap_i64]
  have ha' := ha; have hb' := hb
  unfold o0 at ha' hb'
  by_cases hf : o0 (a + b)
  · rw [b8A hf] at h
    unfold o0 at hf
    refine ⟨fun hc => ?_, fun _ => ?_⟩
    · simp at hc; omega
    · have : (a + b + 9223372036854775808) % 18446744073709551616 - 9223372036854775808 = a + b := by omega
      rw [this]; exact h
  · rw [c1L hf] at h
    unfold o0 at hf
    refine ⟨fun _ => h, fun hc => ?_⟩
    simp at hc; omega
theorem b8B (ha : o0 a) (hb : o0 b) (h : K (fit (a - b)).1 (fit (a - b)).2 H) : a5d a b H K := by
  refine b7a _ _ ?_
  unfold a3l
  simp only [IntKind.wrap_i64]
  have ha' := ha; have hb' := hb
  unfold o0 at ha' hb'
  by_cases hf : o0 (a - b)
  · rw [b8A hf] at h
    unfold o0 at hf
    refine ⟨fun hc => ?_, fun _ => ?_⟩
    · simp at hc; omega
    · have : (a - b + 9223372036854775808) % 18446744073709551616 - 9223372036854775808 = a - b := by omega
      rw [this]; exact h
  · rw [c1L hf] at h
    unfold o0 at hf
    refine ⟨fun _ => h, fun hc => ?_⟩
    simp at hc; omega
theorem c9s (ha : o0 a) (h : K (fit (-a)).1 (fit (-a)).2 H) : a8B a H K := by
  refine b7b _ ?_
  unfold a3m
  refine b8B (by decide) ha ?_
  rw [Int.zero_sub]; exact h
theorem e2t {c : Int} (hb : o0 b) (h0 : b ≠ 0) : -9223372036854775808 < Int.tmod c b ∧ Int.tmod c b < 9223372036854775808 := by
  have h := Int.natAbs_tmod c b
  have h2 : c.natAbs % b.natAbs < b.natAbs := Nat.mod_lt _ (by omega)
  unfold o0 at hb
  omega
theorem b7i {x : Int} (h0 : 0 ≤ x) (h1 : x < 18446744073709551616) : bandI .u64 x 4294967295 = x % 4294967296 := by
  obtain ⟨n, rfl⟩ := Int.eq_ofNat_of_zero_le h0
  unfold bandI
  have e : (BitVec.ofInt (IntKind.bits .u64) (n : Int) &&& BitVec.ofInt (IntKind.bits .u64) 4294967295).toNat = n % 4294967296 := by
    rw [BitVec.toNat_and]
    have h2 : (BitVec.ofInt (IntKind.bits .u64) (n : Int)).toNat = n := by
      show (BitVec.ofInt 64 (n : Int)).toNat = n
      rw [BitVec.toNat_ofInt]
      omega
    have h3 : (BitVec.ofInt (IntKind.bits .u64) 4294967295).toNat = 2 ^ 32 - 1 := by decide
    rw [h2, h3, Nat.and_two_pow_sub_one_eq_mod]
  rw [e, IntKind.wrap_u64]
  omega
theorem e2u (x : Int) : Int.fdiv x (2 ^ 32) = x / 4294967296 := by rw [Int.fdiv_eq_ediv_of_nonneg _ (by decide)]; rfl
theorem c1G (ha : 0 ≤ a) (ha' : a < 18446744073709551616) (hb : 0 ≤ b) (hb' : b < 18446744073709551616) (h : K (a * b / 18446744073709551616) (a * b % 18446744073709551616) H) : a4G a b H K := by
  refine b5Y _ _ ?_
  unfold a2z
  have wr : ∀ x, IntKind.wrap .u64 x = x % 18446744073709551616 := IntKind.wrap_u64
  have bn : ∀ x : Int, bandI .u64 (x % 18446744073709551616) 4294967295 = x % 18446744073709551616 % 4294967296 := fun x => b7i (by omega) (by omega)
  simp only [e2u, b7i ha ha', b7i hb hb', wr, bn]
  rw [mul64_arith a b ha ha' hb hb']
  exact h
theorem b6m (ha : o0 a) {K : Int → Hp → Prop} (h : K (a.natAbs : Int) H) : a2r a H K := by
  refine b5X _ ?_
  unfold a2y
  simp only [IntKind.wrap_u64]
  unfold o0 at ha
  refine ⟨fun hc => ?_, fun hc => ?_⟩
  · have : (0 - a % 18446744073709551616) % 18446744073709551616 = (a.natAbs : Int) := by omega
    rw [this]; exact h
  · have : a % 18446744073709551616 = (a.natAbs : Int) := by omega
    rw [this]; exact h
theorem e2v (a b : Int) : (a.natAbs : Int) * (b.natAbs : Int) = if (a < 0) = (b < 0) then a * b else -(a * b) := by
  rcases Int.natAbs_eq a with h1 | h1 <;> rcases Int.natAbs_eq b with h2 | h2
  all_goals
    by_cases ca : a < 0 <;> by_cases cb : b < 0
  all_goals first
    | (have e1 : (a.natAbs : Int) = a := by omega
       have e2 : (b.natAbs : Int) = b := by omega
       simp only [e1, e2, ca, cb, if_true]; done)
    | (have e1 : (a.natAbs : Int) = -a := by omega
       have e2 : (b.natAbs : Int) = b := by omega
       simp [e1, e2, ca, cb, Int.neg_mul]; done)
    | (have e1 : (a.natAbs : Int) = a := by omega
       have e2 : (b.natAbs : Int) = -b := by omega
       simp [e1, e2, ca, cb, Int.mul_neg]; done)
    | (have e1 : (a.natAbs : Int) = -a := by omega
       have e2 : (b.natAbs : Int) = -b := by omega
       simp [e1, e2, ca, cb, Int.neg_mul_neg]; done)
theorem c9t (ha : o0 a) (hb : o0 b) (h : K (fit (a * b)).1 (fit (a * b)).2 H) : a8D a b H K := by
  refine b7d _ _ ?_
  unfold a3p
  have hx := ha; have hy := hb
  unfold o0 at hx hy
  refine b6m ha ?_
  refine b6m hb ?_
  refine c1G (by omega) (by omega) (by omega) (by omega) ?_
  have hm := e2v a b
  have hp0 : 0 ≤ (a.natAbs : Int) * (b.natAbs : Int) := Int.mul_nonneg (by omega) (by omega)
  refine ⟨fun hc => ?_, fun hc => ?_⟩
  · unfold T5
    have hs : ¬ ((a < 0) = (b < 0)) := by
      intro e
      simp [e] at hc
    rw [if_neg hs] at hm
    have e1 : IntKind.wrap .u64 (9223372036854775807 + 1) = 9223372036854775808 := by decide
    rw [e1]
    generalize (a.natAbs : Int) * (b.natAbs : Int) = p at *
    have hab : a * b = -p := by omega
    rw [hab] at h ⊢
    by_cases hf : o0 (-p)
    · rw [b8A hf] at h
      rw [a2Q hf]
      unfold o0 at hf
      refine ⟨fun hd => ?_, fun _ => h⟩
      simp at hd; omega
    · rw [c1L hf] at h
      unfold o0 at hf
      refine ⟨fun _ => h, fun hd => ?_⟩
      simp at hd; omega
  · unfold T5
    have hs : (a < 0) = (b < 0) := by
      by_cases h1 : a < 0 <;> by_cases h2 : b < 0 <;> simp [h1, h2] at hc ⊢
    rw [if_pos hs] at hm
    generalize (a.natAbs : Int) * (b.natAbs : Int) = p at *
    rw [← hm] at h ⊢
    by_cases hf : o0 p
    · rw [b8A hf] at h
      rw [a2Q hf]
      unfold o0 at hf
      refine ⟨fun hd => ?_, fun _ => h⟩
      simp at hd; omega
    · rw [c1L hf] at h
      unfold o0 at hf
      refine ⟨fun _ => h, fun hd => ?_⟩
      simp at hd; omega
theorem c7d (ha : o0 a) (hb : b ≠ 0) (h : ¬ (a = -9223372036854775808 ∧ b = -1)) : o0 (Int.tdiv a b) := by
  have hab : (Int.tdiv a b).natAbs = a.natAbs / b.natAbs := Int.natAbs_tdiv a b
  unfold o0 at ha ⊢
  by_cases h1 : b.natAbs = 1
  · rw [h1, Nat.div_one] at hab
    by_cases h2 : a = -9223372036854775808
    · have : b = 1 := by omega
      subst this
      rw [Int.tdiv_one]; omega
    · omega
  · have h4 : a.natAbs / b.natAbs ≤ a.natAbs / 2 := Nat.div_le_div_left (by omega) (by decide)
    omega
theorem f2e (ha : o0 a) : divS a b = if b = 0 then (0, 2) else if a = -9223372036854775808 ∧ b = -1 then (0, 1) else (Int.tdiv a b, 0) := by
  unfold divS
  by_cases h0 : b = 0
  · rw [if_pos h0, if_pos h0]
  · rw [if_neg h0, if_neg h0]
    by_cases h1 : a = -9223372036854775808 ∧ b = -1
    · rw [if_pos h1, h1.1, h1.2]; rfl
    · rw [if_neg h1, b8A (c7d ha h0 h1)]
def divW (a b : Int) : Int := if b = 0 then 2 else if a = -9223372036854775808 ∧ b = -1 then 1 else 0
theorem b1h {K : Int → Hp → Prop} (h : K (divW a b) H) : a1o a b H K := by
  refine b2K _ _ ?_
  unfold a1w
  unfold divW at h
  refine ⟨fun hc => by rwa [if_pos hc] at h, fun hc => ⟨fun hd => ?_, fun hd => ?_⟩⟩
  · rw [if_neg hc, if_pos (by simpa using hd)] at h; exact h
  · rw [if_neg hc, if_neg (by simpa using hd)] at h; exact h
theorem b8C (a b : Int) : (b = 0 ∧ divW a b = 2) ∨ (b ≠ 0 ∧ (a = -9223372036854775808 ∧ b = -1) ∧ divW a b = 1) ∨ (b ≠ 0 ∧ ¬ (a = -9223372036854775808 ∧ b = -1) ∧ divW a b = 0) := by
  unfold divW
  by_cases h0 : b = 0
  · exact .inl ⟨h0, if_pos h0⟩
  · by_cases h1 : a = -9223372036854775808 ∧ b = -1
    · exact .inr (.inl ⟨h0, h1, by rw [if_neg h0, if_pos h1]⟩)
    · exact .inr (.inr ⟨h0, h1, by rw [if_neg h0, if_neg h1]⟩)
theorem c9u (ha : o0 a) (h : K (divS a b).1 (divS a b).2 H) : a8E a b H K := by
  refine b7f _ _ (b1h ?_)
  rw [f2e ha] at h
  rcases b8C a b with ⟨h0, e⟩ | ⟨h0, h1, e⟩ | ⟨h0, h1, e⟩
  · rw [if_pos h0] at h; rw [e]; exact ⟨fun _ => h, fun hc => by cases hc⟩
  · rw [if_neg h0, if_pos h1] at h; rw [e]; exact ⟨fun _ => h, fun hc => by cases hc⟩
  · rw [if_neg h0, if_neg h1] at h; rw [e, a2Q (c7d ha h0 h1)]; exact ⟨fun hc => (hc rfl).elim, fun _ => ⟨h0, h⟩⟩
theorem c9v (h : K (remS a b).1 (remS a b).2 H) : a8F a b H K := by
  refine b7g _ _ (b1h ?_)
  unfold remS at h
  rcases b8C a b with ⟨h0, e⟩ | ⟨h0, h1, e⟩ | ⟨h0, h1, e⟩
  · rw [if_pos h0] at h; rw [e]; exact ⟨fun _ => h, fun hc => by cases hc⟩
  · rw [if_neg h0, if_pos h1] at h; rw [e]; exact ⟨fun _ => h, fun hc => by cases hc⟩
  · rw [if_neg h0, if_neg h1] at h; rw [e]; exact ⟨fun hc => (hc rfl).elim, fun _ => ⟨h0, h⟩⟩
end
def cmpS (op a b : Int) : Bool := if op = 1 then decide (a < b) else if op = 2 then decide (a ≤ b) else if op = 3 then decide (a = b) else if op = 4 then !decide (a = b) else if op = 5 then decide (b < a) else if op = 6 then decide (b ≤ a) else false
section
variable {op a b : Int} {H : Hp}
theorem b8D {K : Hp → Prop} (h : K H) : a2J H K := b1g (by unfold a0P; exact h)
theorem c9w {K : Bool → Hp → Prop} (h : K (cmpS op a b) H) : a8G op a b H K := by
  refine b7h _ _ _ ?_
  unfold a3q
  unfold cmpS at h
  refine ⟨fun h1 => ?_, fun h1 => b8D ⟨?_, ?_, K, fun _ _ h => h, ?_, ?_, ?_, ?_, ?_, ?_, ?_⟩⟩
  · simp at h1
    rw [if_neg (by omega), if_neg (by omega), if_neg (by omega), if_neg (by omega), if_neg (by omega), if_neg (by omega)] at h
    exact h
  · simp at h1; omega
  · simp at h1; omega
  · intro e; simp at h1; omega
  · rintro rfl; exact a9L _ _ (by unfold Y6; exact h)
  · rintro rfl; exact a9M _ _ (by unfold Y7; exact h)
  · rintro rfl; exact a9N _ _ (by unfold Y8; exact h)
  · rintro rfl; exact a9O _ _ (by unfold Y9; exact h)
  · rintro rfl; exact a9P _ _ (by unfold Z0; exact h)
  · rintro rfl; exact a9Q _ _ (by unfold Z1; exact h)
end
end Go.Proofs.YtnhkdkcgdcgmdaaDoor
