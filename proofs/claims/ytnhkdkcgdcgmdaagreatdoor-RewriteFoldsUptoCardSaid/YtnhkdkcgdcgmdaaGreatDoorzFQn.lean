/- Arithmetic, comparisons, edges' forms: what the program's and the document's small functions answer. Contracts off the printed formulas. -/
import Derived.Test.YtnhkdkcgdcgmdaaGreatDoorzFB
import Derived.Test.YtnhkdkcgdcgmdaaGreatDoorzFV1r
import Derived.Laws.MathBits
namespace Go.Proofs.YtnhkdkcgdcgmdaaGreatDoor
open Go.RowKit
set_option maxRecDepth 100000
set_option maxHeartbeats 2000000
def fit (x : Int) : Int × Int := if A8 x then (x, 0) else (0, 1)
def divS (a b : Int) : Int × Int := if b = 0 then (0, 2) else fit (Int.tdiv a b)
def remS (a b : Int) : Int × Int := if b = 0 then (0, 2) else if a = -9223372036854775808 ∧ b = -1 then (0, 1) else (Int.tmod a b, 0)
def opS (k a b : Int) : Int × Int := if k = 3 then fit (-a) else if k = 4 then fit (a + b) else if k = 5 then fit (a - b) else if k = 6 then fit (a * b) else if k = 7 then divS a b else remS a b
section
variable {a b : Int} {H : Hp} {K : Int → Int → Hp → Prop}
theorem b9H {x : Int} (h : A8 x) : fit x = (x, 0) := if_pos h
theorem c7a {x : Int} (h : ¬ A8 x) : fit x = (0, 1) := if_neg h
theorem f1X (ha : A8 a) (hb : A8 b) (h : K (fit (a + b)).1 (fit (a + b)).2 H) : b1k a b H K := by
  refine d3h _ _ ?_
  unfold b1C
  simp only [IntKind.wrap_i64]
  have ha' := ha; have hb' := hb
  unfold A8 at ha' hb'
  by_cases hf : A8 (a + b)
  · rw [b9H hf] at h
    unfold A8 at hf
    refine ⟨fun hc => ?_, fun _ => ?_⟩
    · simp at hc; omega
    · have : (a + b + 9223372036854775808) % 18446744073709551616 - 9223372036854775808 = a + b := by omega
      rw [this]; exact h
  · rw [c7a hf] at h
    unfold A8 at hf
    refine ⟨fun _ => h, fun hc => ?_⟩
    simp at hc; omega
theorem d4X (ha : A8 a) (hb : A8 b) (h : K (fit (a - b)).1 (fit (a - b)).2 H) : a8G a b H K := by
  refine d3f _ _ ?_
  unfold b1A
  simp only [IntKind.wrap_i64]
  have ha' := ha; have hb' := hb
  unfold A8 at ha' hb'
  by_cases hf : A8 (a - b)
  · rw [b9H hf] at h
    unfold A8 at hf
    refine ⟨fun hc => ?_, fun _ => ?_⟩
    · simp at hc; omega
    · have : (a - b + 9223372036854775808) % 18446744073709551616 - 9223372036854775808 = a - b := by omega
      rw [this]; exact h
  · rw [c7a hf] at h
    unfold A8 at hf
    refine ⟨fun _ => h, fun hc => ?_⟩
    simp at hc; omega
theorem f1Y (ha : A8 a) (h : K (fit (-a)).1 (fit (-a)).2 H) : b1j a H K := by
  refine d3g _ ?_
  unfold b1B
  refine d4X (by decide) ha ?_
  rw [Int.zero_sub]; exact h
theorem c7b (ha : A8 a) (h : K (fit (-a)).1 (fit (-a)).2 H) : a3j a H K := by
  refine c2s _ ?_
  unfold a5V
  unfold A8 at ha
  refine ⟨fun hc => ?_, fun hc => ?_⟩
  · subst hc; exact h
  · have hi : A8 (-a) := by unfold A8; omega
    rw [b9H hi] at h
    rw [Int.zero_sub, M5 hi]; exact h
theorem f1Z (ha : A8 a) (hb : A8 b) (h : K (fit (a + b)).1 (fit (a + b)).2 H) : a8Z a b H K := by
  refine c2t _ _ ?_
  unfold a5W
  simp only [IntKind.wrap_i64]
  unfold A8 at ha hb
  by_cases hf : A8 (a + b)
  · rw [b9H hf] at h
    unfold A8 at hf
    refine ⟨fun hc => ?_, fun _ => ?_⟩
    · simp at hc; omega
    · have : (a + b + 9223372036854775808) % 18446744073709551616 - 9223372036854775808 = a + b := by omega
      rw [this]; exact h
  · rw [c7a hf] at h
    unfold A8 at hf
    refine ⟨fun _ => h, fun hc => ?_⟩
    simp at hc; omega
theorem f2a (ha : A8 a) (hb : A8 b) (h : K (fit (a - b)).1 (fit (a - b)).2 H) : a9a a b H K := by
  refine c2u _ _ ?_
  unfold a5X
  simp only [IntKind.wrap_i64]
  unfold A8 at ha hb
  by_cases hf : A8 (a - b)
  · rw [b9H hf] at h
    unfold A8 at hf
    refine ⟨fun hc => ?_, fun _ => ?_⟩
    · simp at hc; omega
    · have : (a - b + 9223372036854775808) % 18446744073709551616 - 9223372036854775808 = a - b := by omega
      rw [this]; exact h
  · rw [c7a hf] at h
    unfold A8 at hf
    refine ⟨fun _ => h, fun hc => ?_⟩
    simp at hc; omega
theorem d7z {c : Int} (hb : A8 b) (h0 : b ≠ 0) : -9223372036854775808 < Int.tmod c b ∧ Int.tmod c b < 9223372036854775808 := by
  have h := Int.natAbs_tmod c b
  have h2 : c.natAbs % b.natAbs < b.natAbs := Nat.mod_lt _ (by omega)
  unfold A8 at hb
  omega
theorem f2b (ha : A8 a) (hb : A8 b) (h : K (fit (a * b)).1 (fit (a * b)).2 H) : a9b a b H K := by
  refine c2v _ _ ?_
  unfold a5Y
  refine ⟨fun hc => ?_, fun hc => ⟨fun h1 => ?_, fun h1 => ⟨fun h2 => ?_, fun h2 => ⟨?_, ?_, ?_⟩⟩⟩⟩
  · simp at hc
    have : a * b = 0 := by rcases hc with rfl | rfl <;> simp
    rw [this] at h; exact h
  · subst h1
    refine c7b hb ?_
    rw [Int.neg_mul, Int.one_mul] at h; exact h
  · subst h2
    refine c7b ha ?_
    rw [Int.mul_neg, Int.mul_one] at h; exact h
  · simp at hc; exact hc.2
  · intro hd
    simp at hc
    have hn : ¬ A8 (a * b) := fun hi => by
      rw [M5 hi, Int.mul_tdiv_cancel _ hc.2, M5 ha] at hd
      exact hd rfl
    rw [c7a hn] at h; exact h
  · intro hd
    simp at hc
    have hi : A8 (a * b) := by
      have hw : A8 (IntKind.wrap .i64 (a * b)) := by rw [IntKind.wrap_i64]; unfold A8; omega
      have e := Int.mul_tdiv_add_tmod (IntKind.wrap .i64 (a * b)) b
      have hr := d7z (c := IntKind.wrap .i64 (a * b)) hb hc.2
      by_cases h3 : b = 1
      · subst h3; rw [Int.mul_one]; exact ha
      · have hq : A8 (Int.tdiv (IntKind.wrap .i64 (a * b)) b) := by
          have hab : (Int.tdiv (IntKind.wrap .i64 (a * b)) b).natAbs = (IntKind.wrap .i64 (a * b)).natAbs / b.natAbs := Int.natAbs_tdiv (IntKind.wrap .i64 (a * b)) b
          have h4 : (IntKind.wrap .i64 (a * b)).natAbs / b.natAbs ≤ (IntKind.wrap .i64 (a * b)).natAbs / 2 := Nat.div_le_div_left (by omega) (by decide)
          unfold A8 at hw ⊢
          omega
        rw [M5 hq] at hd
        rw [hd, Int.mul_comm b a, IntKind.wrap_i64] at e
        rw [IntKind.wrap_i64] at hr
        generalize a * b = p at *
        generalize Int.tmod _ b = r at *
        unfold A8
        omega
    rw [b9H hi] at h
    rw [M5 hi]; exact h
theorem d3m {x : Int} (h0 : 0 ≤ x) (h1 : x < 18446744073709551616) : bandI .u64 x 4294967295 = x % 4294967296 := by
  obtain ⟨n, rfl⟩ := Int.eq_ofNat_of_zero_le h0
  unfold bandI
  have e : (BitVec.ofInt (IntKind.bits .u64) (n : Int) &&& BitVec.ofInt (IntKind.bits .u64) 4294967295).toNat = n % 4294967296 := by
    rw [BitVec.toNat_and]
    have h2 : (BitVec.ofInt (IntKind.bits .u64) (n : Int)).toNat = n := by
      show (BitVec.ofInt 64 (n : Int)).toNat = n
      rw [BitVec.toNat_ofInt]
      omega
    have h3 : (BitVec.ofInt (IntKind.bits .u64) 4294967295).toNat = 2 ^ 32 - 1 := by decide
    rw [h2, h3, Nat.and_two_pow_sub_one_eq_mod]
  rw [e, IntKind.wrap_u64]
  omega
theorem h1R (x : Int) : Int.fdiv x (2 ^ 32) = x / 4294967296 := by rw [Int.fdiv_eq_ediv_of_nonneg _ (by decide)]; rfl
theorem d8v (ha : 0 ≤ a) (ha' : a < 18446744073709551616) (hb : 0 ≤ b) (hb' : b < 18446744073709551616) (h : K (a * b / 18446744073709551616) (a * b % 18446744073709551616) H) : b3H a b H K := by
  refine d1y _ _ ?_
  unfold b0x
  have wr : ∀ x, IntKind.wrap .u64 x = x % 18446744073709551616 := IntKind.wrap_u64
  have bn : ∀ x : Int, bandI .u64 (x % 18446744073709551616) 4294967295 = x % 18446744073709551616 % 4294967296 := fun x => d3m (by omega) (by omega)
  simp only [h1R, d3m ha ha', d3m hb hb', wr, bn]
  rw [mul64_arith a b ha ha' hb hb']
  exact h
theorem d1N (ha : A8 a) {K : Int → Hp → Prop} (h : K (a.natAbs : Int) H) : b0n a H K := by
  refine d1x _ ?_
  unfold b0w
  simp only [IntKind.wrap_u64]
  unfold A8 at ha
  refine ⟨fun hc => ?_, fun hc => ?_⟩
  · have : (0 - a % 18446744073709551616) % 18446744073709551616 = (a.natAbs : Int) := by omega
    rw [this]; exact h
  · have : a % 18446744073709551616 = (a.natAbs : Int) := by omega
    rw [this]; exact h
theorem h1S (a b : Int) : (a.natAbs : Int) * (b.natAbs : Int) = if (a < 0) = (b < 0) then a * b else -(a * b) := by
  rcases Int.natAbs_eq a with h1 | h1 <;> rcases Int.natAbs_eq b with h2 | h2
  all_goals
    by_cases ca : a < 0 <;> by_cases cb : b < 0
  all_goals first
    | (have e1 : (a.natAbs : Int) = a := by omega
       have e2 : (b.natAbs : Int) = b := by omega
       simp only [e1, e2, ca, cb, if_true]; done)
    | (have e1 : (a.natAbs : Int) = -a := by omega
       have e2 : (b.natAbs : Int) = b := by omega
       simp [e1, e2, ca, cb, Int.neg_mul]; done)
    | (have e1 : (a.natAbs : Int) = a := by omega
       have e2 : (b.natAbs : Int) = -b := by omega
       simp [e1, e2, ca, cb, Int.mul_neg]; done)
    | (have e1 : (a.natAbs : Int) = -a := by omega
       have e2 : (b.natAbs : Int) = -b := by omega
       simp [e1, e2, ca, cb, Int.neg_mul_neg]; done)
theorem f2c (ha : A8 a) (hb : A8 b) (h : K (fit (a * b)).1 (fit (a * b)).2 H) : b1l a b H K := by
  refine d3i _ _ ?_
  unfold b1D
  have hx := ha; have hy := hb
  unfold A8 at hx hy
  refine d1N ha ?_
  refine d1N hb ?_
  refine d8v (by omega) (by omega) (by omega) (by omega) ?_
  have hm := h1S a b
  have hp0 : 0 ≤ (a.natAbs : Int) * (b.natAbs : Int) := Int.mul_nonneg (by omega) (by omega)
  refine ⟨fun hc => ?_, fun hc => ?_⟩
  · unfold a3t
    have hs : ¬ ((a < 0) = (b < 0)) := by
      intro e
      simp [e] at hc
    rw [if_neg hs] at hm
    have e1 : IntKind.wrap .u64 (9223372036854775807 + 1) = 9223372036854775808 := by decide
    rw [e1]
    generalize (a.natAbs : Int) * (b.natAbs : Int) = p at *
    have hab : a * b = -p := by omega
    rw [hab] at h ⊢
    by_cases hf : A8 (-p)
    · rw [b9H hf] at h
      rw [M5 hf]
      unfold A8 at hf
      refine ⟨fun hd => ?_, fun _ => h⟩
      simp at hd; omega
    · rw [c7a hf] at h
      unfold A8 at hf
      refine ⟨fun _ => h, fun hd => ?_⟩
      simp at hd; omega
  · unfold a3t
    have hs : (a < 0) = (b < 0) := by
      by_cases h1 : a < 0 <;> by_cases h2 : b < 0 <;> simp [h1, h2] at hc ⊢
    rw [if_pos hs] at hm
    generalize (a.natAbs : Int) * (b.natAbs : Int) = p at *
    rw [← hm] at h ⊢
    by_cases hf : A8 p
    · rw [b9H hf] at h
      rw [M5 hf]
      unfold A8 at hf
      refine ⟨fun hd => ?_, fun _ => h⟩
      simp at hd; omega
    · rw [c7a hf] at h
      unfold A8 at hf
      refine ⟨fun _ => h, fun hd => ?_⟩
      simp at hd; omega
theorem d0J (ha : A8 a) (hb : b ≠ 0) (h : ¬ (a = -9223372036854775808 ∧ b = -1)) : A8 (Int.tdiv a b) := by
  have hab : (Int.tdiv a b).natAbs = a.natAbs / b.natAbs := Int.natAbs_tdiv a b
  unfold A8 at ha ⊢
  by_cases h1 : b.natAbs = 1
  · rw [h1, Nat.div_one] at hab
    by_cases h2 : a = -9223372036854775808
    · have : b = 1 := by omega
      subst this
      rw [Int.tdiv_one]; omega
    · omega
  · have h4 : a.natAbs / b.natAbs ≤ a.natAbs / 2 := Nat.div_le_div_left (by omega) (by decide)
    omega
theorem f7w (ha : A8 a) : divS a b = if b = 0 then (0, 2) else if a = -9223372036854775808 ∧ b = -1 then (0, 1) else (Int.tdiv a b, 0) := by
  unfold divS
  by_cases h0 : b = 0
  · rw [if_pos h0, if_pos h0]
  · rw [if_neg h0, if_neg h0]
    by_cases h1 : a = -9223372036854775808 ∧ b = -1
    · rw [if_pos h1, h1.1, h1.2]; rfl
    · rw [if_neg h1, b9H (d0J ha h0 h1)]
def divW (a b : Int) : Int := if b = 0 then 2 else if a = -9223372036854775808 ∧ b = -1 then 1 else 0
theorem c4W {K : Int → Hp → Prop} (h : K (divW a b) H) : a7U a b H K := by
  refine c6Y _ _ ?_
  unfold a8l
  unfold divW at h
  refine ⟨fun hc => by rwa [if_pos hc] at h, fun hc => ⟨fun hd => ?_, fun hd => ?_⟩⟩
  · rw [if_neg hc, if_pos (by simpa using hd)] at h; exact h
  · rw [if_neg hc, if_neg (by simpa using hd)] at h; exact h
theorem c4X {K : Int → Hp → Prop} (h : K (divW a b) H) : a3o a b H K := by
  refine b8B _ _ ?_
  unfold a3s
  unfold divW at h
  refine ⟨fun hc => by rwa [if_pos hc] at h, fun hc => ⟨fun hd => ?_, fun hd => ?_⟩⟩
  · rw [if_neg hc, if_pos (by simpa using hd)] at h; exact h
  · rw [if_neg hc, if_neg (by simpa using hd)] at h; exact h
theorem b9I (a b : Int) : (b = 0 ∧ divW a b = 2) ∨ (b ≠ 0 ∧ (a = -9223372036854775808 ∧ b = -1) ∧ divW a b = 1) ∨ (b ≠ 0 ∧ ¬ (a = -9223372036854775808 ∧ b = -1) ∧ divW a b = 0) := by
  unfold divW
  by_cases h0 : b = 0
  · exact .inl ⟨h0, if_pos h0⟩
  · by_cases h1 : a = -9223372036854775808 ∧ b = -1
    · exact .inr (.inl ⟨h0, h1, by rw [if_neg h0, if_pos h1]⟩)
    · exact .inr (.inr ⟨h0, h1, by rw [if_neg h0, if_neg h1]⟩)
theorem f2d (ha : A8 a) (h : K (divS a b).1 (divS a b).2 H) : b1m a b H K := by
  refine d3j _ _ (c4W ?_)
  rw [f7w ha] at h
  rcases b9I a b with ⟨h0, e⟩ | ⟨h0, h1, e⟩ | ⟨h0, h1, e⟩
  · rw [if_pos h0] at h; rw [e]; exact ⟨fun _ => h, fun hc => by cases hc⟩
  · rw [if_neg h0, if_pos h1] at h; rw [e]; exact ⟨fun _ => h, fun hc => by cases hc⟩
  · rw [if_neg h0, if_neg h1] at h; rw [e, M5 (d0J ha h0 h1)]; exact ⟨fun hc => (hc rfl).elim, fun _ => ⟨h0, h⟩⟩
theorem f2e (ha : A8 a) (h : K (divS a b).1 (divS a b).2 H) : a9c a b H K := by
  refine c2w _ _ (c4X ?_)
  rw [f7w ha] at h
  rcases b9I a b with ⟨h0, e⟩ | ⟨h0, h1, e⟩ | ⟨h0, h1, e⟩
  · rw [if_pos h0] at h; rw [e]; exact ⟨fun _ => h, fun hc => by cases hc⟩
  · rw [if_neg h0, if_pos h1] at h; rw [e]; exact ⟨fun _ => h, fun hc => by cases hc⟩
  · rw [if_neg h0, if_neg h1] at h; rw [e, M5 (d0J ha h0 h1)]; exact ⟨fun hc => (hc rfl).elim, fun _ => ⟨h0, h⟩⟩
theorem f2f (h : K (remS a b).1 (remS a b).2 H) : b1n a b H K := by
  refine d3k _ _ (c4W ?_)
  unfold remS at h
  rcases b9I a b with ⟨h0, e⟩ | ⟨h0, h1, e⟩ | ⟨h0, h1, e⟩
  · rw [if_pos h0] at h; rw [e]; exact ⟨fun _ => h, fun hc => by cases hc⟩
  · rw [if_neg h0, if_pos h1] at h; rw [e]; exact ⟨fun _ => h, fun hc => by cases hc⟩
  · rw [if_neg h0, if_neg h1] at h; rw [e]; exact ⟨fun hc => (hc rfl).elim, fun _ => ⟨h0, h⟩⟩
theorem f2g (ha : A8 a) (hb : A8 b) (h : K (remS a b).1 (remS a b).2 H) : a9d a b H K := by
  refine c2x _ _ (c4X ?_)
  unfold remS at h
  rcases b9I a b with ⟨h0, e⟩ | ⟨h0, h1, e⟩ | ⟨h0, h1, e⟩
  · rw [if_pos h0] at h; rw [e]; exact ⟨fun _ => h, fun hc => by cases hc⟩
  · rw [if_neg h0, if_pos h1] at h; rw [e]; exact ⟨fun _ => h, fun hc => by cases hc⟩
  · rw [if_neg h0, if_neg h1] at h
    rw [e, M5 (d0J ha h0 h1)]
    refine ⟨fun hc => (hc rfl).elim, fun _ => ⟨h0, ?_⟩⟩
    have e1 := Int.mul_tdiv_add_tmod a b
    have hr := d7z (c := a) hb h0
    have hab := Int.natAbs_tmod a b
    have hle : (Int.tmod a b).natAbs ≤ a.natAbs := by rw [hab]; exact Nat.mod_le _ _
    rw [Int.mul_comm] at e1
    have e2 : IntKind.wrap .i64 (Int.tdiv a b * b) = Int.tdiv a b * b := by
      refine M5 ?_
      have hs : 0 ≤ a → 0 ≤ Int.tmod a b := fun h => Int.tmod_nonneg _ h
      have hs' : a ≤ 0 → Int.tmod a b ≤ 0 := fun h => by
        have := Int.tmod_nonneg (a := -a) b (by omega)
        rw [Int.neg_tmod] at this
        omega
      unfold A8 at ha ⊢
      generalize Int.tdiv a b * b = p at *
      generalize Int.tmod a b = r at *
      omega
    rw [e2]
    have e3 : a - Int.tdiv a b * b = Int.tmod a b := by omega
    rw [e3, M5 (by unfold A8; omega)]
    exact h
theorem f7x {k : Int} (hk : 3 ≤ k) (hk' : k ≤ 8) (ha : A8 a) (hb : A8 b) (h : K (opS k a b).1 (opS k a b).2 H) : a9X (k + 2) a b H K := by
  refine c3V _ _ _ ?_
  unfold a6S
  unfold opS at h
  refine ⟨fun h1 => ?_, fun h1 => ⟨fun h2 => ?_, fun h2 => ⟨fun h3 => ?_, fun h3 => ⟨fun h4 => ?_, fun h4 => ⟨fun h5 => ?_, fun h5 => ?_⟩⟩⟩⟩⟩
  · rw [if_pos (by omega)] at h; exact c7b ha h
  · rw [if_neg (by omega), if_pos (by omega)] at h; exact f1Z ha hb h
  · rw [if_neg (by omega), if_neg (by omega), if_pos (by omega)] at h; exact f2a ha hb h
  · rw [if_neg (by omega), if_neg (by omega), if_neg (by omega), if_pos (by omega)] at h; exact f2b ha hb h
  · rw [if_neg (by omega), if_neg (by omega), if_neg (by omega), if_neg (by omega), if_pos (by omega)] at h; exact f2e ha h
  · rw [if_neg (by omega), if_neg (by omega), if_neg (by omega), if_neg (by omega), if_neg (by omega)] at h; exact f2g ha hb h
end
def cmpS (op a b : Int) : Bool := if op = 1 then decide (a < b) else if op = 2 then decide (a ≤ b) else if op = 3 then decide (a = b) else if op = 4 then !decide (a = b) else if op = 5 then decide (b < a) else if op = 6 then decide (b ≤ a) else false
section
variable {op a b : Int} {H : Hp}
theorem f2h {K : Bool → Hp → Prop} (h : K (cmpS op a b) H) : a9e op a b H K := by
  refine c2z _ _ _ ?_
  unfold a5Z
  unfold cmpS at h
  refine ⟨fun h1 => ?_, fun h1 => ⟨fun h2 => ?_, fun h2 => ⟨fun h3 => ?_, fun h3 => ⟨fun h4 => ?_, fun h4 => ⟨fun h5 => ?_, fun h5 => ⟨fun h6 => ?_, fun h6 => ?_⟩⟩⟩⟩⟩⟩ <;> simpa [*] using h
theorem d4Y {K : Hp → Prop} (h : K H) : b0F H K := c4V (by unfold a7w; exact h)
theorem f2i {K : Bool → Hp → Prop} (h : K (cmpS op a b) H) : b4n op a b H K := by
  refine d3l _ _ _ ?_
  unfold b1E
  unfold cmpS at h
  refine ⟨fun h1 => ?_, fun h1 => d4Y ⟨?_, ?_, K, fun _ _ h => h, ?_, ?_, ?_, ?_, ?_, ?_, ?_⟩⟩
  · simp at h1
    rw [if_neg (by omega), if_neg (by omega), if_neg (by omega), if_neg (by omega), if_neg (by omega), if_neg (by omega)] at h
    exact h
  · simp at h1; omega
  · simp at h1; omega
  · intro e; simp at h1; omega
  · rintro rfl; exact c2m _ _ (by unfold a5P; exact h)
  · rintro rfl; exact c2n _ _ (by unfold a5Q; exact h)
  · rintro rfl; exact c2o _ _ (by unfold a5R; exact h)
  · rintro rfl; exact c2p _ _ (by unfold a5S; exact h)
  · rintro rfl; exact c2q _ _ (by unfold a5T; exact h)
  · rintro rfl; exact c2r _ _ (by unfold a5U; exact h)
end
end Go.Proofs.YtnhkdkcgdcgmdaaGreatDoor
