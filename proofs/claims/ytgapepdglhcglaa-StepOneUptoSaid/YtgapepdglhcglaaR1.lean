/-
  Arithmetic, comparisons, edges' forms: what the program's and the document's small functions answer. Contracts off the printed formulas.
-/
import Derived.Test.YtgapepdglhcglaaV1a
import Derived.Test.YtgapepdglhcglaaV1b
import Derived.Test.YtgapepdglhcglaaV1c
import Derived.Test.YtgapepdglhcglaaV1d
import Derived.Test.YtgapepdglhcglaaV1e
import Derived.Test.YtgapepdglhcglaaV1f
import Derived.Laws.MathBits
namespace Go.Proofs.Ytgapepdglhcglaa
open Go.RowKit
set_option maxRecDepth 100000
set_option maxHeartbeats 2000000

def in64 (a : Int) : Prop := -9223372036854775808 ≤ a ∧ a ≤ 9223372036854775807
instance (a : Int) : Decidable (in64 a) := by unfold in64; infer_instance
theorem TG_if {α : Type} {q : Prop} [Decidable q] {call : (α → Hp → Prop) → Prop} {d : α} {H : Hp} {K : α → Hp → Prop} (v : α) (hc : q → ∀ K' : α → Hp → Prop, K' v H → call K') (h : K (if q then v else d) H) : TG q call d H K :=
  ⟨fun hq => hc hq _ (by rwa [if_pos hq] at h), fun hq => by rwa [if_neg hq] at h⟩
def fit (x : Int) : Int × Int := if in64 x then (x, 0) else (0, 1)
theorem fit_wrap {a : Int} (h : in64 a) : IntKind.wrap .i64 a = a := by rw [IntKind.wrap_i64]; unfold in64 at h; omega
def divS (a b : Int) : Int × Int := if b = 0 then (0, 2) else fit (Int.tdiv a b)
def remS (a b : Int) : Int × Int := if b = 0 then (0, 2) else if a = -9223372036854775808 ∧ b = -1 then (0, 1) else (Int.tmod a b, 0)
/-- an operation, by an edge's kind from KNeg on -/
def opS (k a b : Int) : Int × Int := if k = 3 then fit (-a) else if k = 4 then fit (a + b) else if k = 5 then fit (a - b) else if k = 6 then fit (a * b) else if k = 7 then divS a b else remS a b

section
variable {a b : Int} {H : Hp} {K : Int → Int → Hp → Prop}
theorem fit_y {x : Int} (h : in64 x) : fit x = (x, 0) := if_pos h
theorem fit_n {x : Int} (h : ¬ in64 x) : fit x = (0, 1) := if_neg h
theorem num_Add_ok (ha : in64 a) (hb : in64 b) (h : K (fit (a + b)).1 (fit (a + b)).2 H) : C_gnomon_num_Add a b H K := by
  refine L_gnomon_num_Add _ _ ?_
  unfold T_gnomon_num_Add
  simp only [IntKind.wrap_i64]
  have ha' := ha; have hb' := hb
  unfold in64 at ha' hb'
  by_cases hf : in64 (a + b)
  · rw [fit_y hf] at h
    unfold in64 at hf
    refine ⟨fun hc => ?_, fun _ => ?_⟩
    · simp at hc; omega
    · have : (a + b + 9223372036854775808) % 18446744073709551616 - 9223372036854775808 = a + b := by omega
      rw [this]; exact h
  · rw [fit_n hf] at h
    unfold in64 at hf
    refine ⟨fun _ => h, fun hc => ?_⟩
    simp at hc; omega
theorem num_Sub_ok (ha : in64 a) (hb : in64 b) (h : K (fit (a - b)).1 (fit (a - b)).2 H) : C_gnomon_num_Sub a b H K := by
  refine L_gnomon_num_Sub _ _ ?_
  unfold T_gnomon_num_Sub
  simp only [IntKind.wrap_i64]
  have ha' := ha; have hb' := hb
  unfold in64 at ha' hb'
  by_cases hf : in64 (a - b)
  · rw [fit_y hf] at h
    unfold in64 at hf
    refine ⟨fun hc => ?_, fun _ => ?_⟩
    · simp at hc; omega
    · have : (a - b + 9223372036854775808) % 18446744073709551616 - 9223372036854775808 = a - b := by omega
      rw [this]; exact h
  · rw [fit_n hf] at h
    unfold in64 at hf
    refine ⟨fun _ => h, fun hc => ?_⟩
    simp at hc; omega
theorem num_Neg_ok (ha : in64 a) (h : K (fit (-a)).1 (fit (-a)).2 H) : C_gnomon_num_Neg a H K := by
  refine L_gnomon_num_Neg _ ?_
  unfold T_gnomon_num_Neg
  refine num_Sub_ok (by decide) ha ?_
  rw [Int.zero_sub]; exact h
theorem ref_Neg_ok (ha : in64 a) (h : K (fit (-a)).1 (fit (-a)).2 H) : C_gnomon_gnomonref7_Neg a H K := by
  refine L_gnomon_gnomonref7_Neg _ ?_
  unfold T_gnomon_gnomonref7_Neg
  unfold in64 at ha
  refine ⟨fun hc => ?_, fun hc => ?_⟩
  · subst hc; exact h
  · have hi : in64 (-a) := by unfold in64; omega
    rw [fit_y hi] at h
    rw [Int.zero_sub, fit_wrap hi]; exact h
theorem ref_Add_ok (ha : in64 a) (hb : in64 b) (h : K (fit (a + b)).1 (fit (a + b)).2 H) : C_gnomon_gnomonref7_Add a b H K := by
  refine L_gnomon_gnomonref7_Add _ _ ?_
  unfold T_gnomon_gnomonref7_Add
  simp only [IntKind.wrap_i64]
  unfold in64 at ha hb
  by_cases hf : in64 (a + b)
  · rw [fit_y hf] at h
    unfold in64 at hf
    refine ⟨fun hc => ?_, fun _ => ?_⟩
    · simp at hc; omega
    · have : (a + b + 9223372036854775808) % 18446744073709551616 - 9223372036854775808 = a + b := by omega
      rw [this]; exact h
  · rw [fit_n hf] at h
    unfold in64 at hf
    refine ⟨fun _ => h, fun hc => ?_⟩
    simp at hc; omega
theorem ref_Sub_ok (ha : in64 a) (hb : in64 b) (h : K (fit (a - b)).1 (fit (a - b)).2 H) : C_gnomon_gnomonref7_Sub a b H K := by
  refine L_gnomon_gnomonref7_Sub _ _ ?_
  unfold T_gnomon_gnomonref7_Sub
  simp only [IntKind.wrap_i64]
  unfold in64 at ha hb
  by_cases hf : in64 (a - b)
  · rw [fit_y hf] at h
    unfold in64 at hf
    refine ⟨fun hc => ?_, fun _ => ?_⟩
    · simp at hc; omega
    · have : (a - b + 9223372036854775808) % 18446744073709551616 - 9223372036854775808 = a - b := by omega
      rw [this]; exact h
  · rw [fit_n hf] at h
    unfold in64 at hf
    refine ⟨fun _ => h, fun hc => ?_⟩
    simp at hc; omega
theorem tmod_bd {c : Int} (hb : in64 b) (h0 : b ≠ 0) : -9223372036854775808 < Int.tmod c b ∧ Int.tmod c b < 9223372036854775808 := by
  have h := Int.natAbs_tmod c b
  have h2 : c.natAbs % b.natAbs < b.natAbs := Nat.mod_lt _ (by omega)
  unfold in64 at hb
  omega
theorem ref_Mul_ok (ha : in64 a) (hb : in64 b) (h : K (fit (a * b)).1 (fit (a * b)).2 H) : C_gnomon_gnomonref7_Mul a b H K := by
  refine L_gnomon_gnomonref7_Mul _ _ ?_
  unfold T_gnomon_gnomonref7_Mul
  refine ⟨fun hc => ?_, fun hc => ⟨fun h1 => ?_, fun h1 => ⟨fun h2 => ?_, fun h2 => ⟨?_, ?_, ?_⟩⟩⟩⟩
  · simp at hc
    have : a * b = 0 := by rcases hc with rfl | rfl <;> simp
    rw [this] at h; exact h
  · subst h1
    refine ref_Neg_ok hb ?_
    rw [Int.neg_mul, Int.one_mul] at h; exact h
  · subst h2
    refine ref_Neg_ok ha ?_
    rw [Int.mul_neg, Int.mul_one] at h; exact h
  · simp at hc; exact hc.2
  · intro hd
    simp at hc
    have hn : ¬ in64 (a * b) := fun hi => by
      rw [fit_wrap hi, Int.mul_tdiv_cancel _ hc.2, fit_wrap ha] at hd
      exact hd rfl
    rw [fit_n hn] at h; exact h
  · intro hd
    simp at hc
    have hi : in64 (a * b) := by
      have hw : in64 (IntKind.wrap .i64 (a * b)) := by rw [IntKind.wrap_i64]; unfold in64; omega
      have e := Int.mul_tdiv_add_tmod (IntKind.wrap .i64 (a * b)) b
      have hr := tmod_bd (c := IntKind.wrap .i64 (a * b)) hb hc.2
      by_cases h3 : b = 1
      · subst h3; rw [Int.mul_one]; exact ha
      · have hq : in64 (Int.tdiv (IntKind.wrap .i64 (a * b)) b) := by
          have hab : (Int.tdiv (IntKind.wrap .i64 (a * b)) b).natAbs = (IntKind.wrap .i64 (a * b)).natAbs / b.natAbs := Int.natAbs_tdiv (IntKind.wrap .i64 (a * b)) b
          have h4 : (IntKind.wrap .i64 (a * b)).natAbs / b.natAbs ≤ (IntKind.wrap .i64 (a * b)).natAbs / 2 := Nat.div_le_div_left (by omega) (by decide)
          unfold in64 at hw ⊢
          omega
        rw [fit_wrap hq] at hd
        rw [hd, Int.mul_comm b a, IntKind.wrap_i64] at e
        rw [IntKind.wrap_i64] at hr
        generalize a * b = p at *
        generalize Int.tmod _ b = r at *
        unfold in64
        omega
    rw [fit_y hi] at h
    rw [fit_wrap hi]; exact h
theorem bandI_32 {x : Int} (h0 : 0 ≤ x) (h1 : x < 18446744073709551616) : bandI .u64 x 4294967295 = x % 4294967296 := by
  obtain ⟨n, rfl⟩ := Int.eq_ofNat_of_zero_le h0
  unfold bandI
  have e : (BitVec.ofInt (IntKind.bits .u64) (n : Int) &&& BitVec.ofInt (IntKind.bits .u64) 4294967295).toNat = n % 4294967296 := by
    rw [BitVec.toNat_and]
    have h2 : (BitVec.ofInt (IntKind.bits .u64) (n : Int)).toNat = n := by
      show (BitVec.ofInt 64 (n : Int)).toNat = n
      rw [BitVec.toNat_ofInt]
      omega
    have h3 : (BitVec.ofInt (IntKind.bits .u64) 4294967295).toNat = 2 ^ 32 - 1 := by decide
    rw [h2, h3, Nat.and_two_pow_sub_one_eq_mod]
  rw [e, IntKind.wrap_u64]
  omega
theorem fdiv_32 (x : Int) : Int.fdiv x (2 ^ 32) = x / 4294967296 := by rw [Int.fdiv_eq_ediv_of_nonneg _ (by decide)]; rfl
theorem bits_Mul64_ok (ha : 0 ≤ a) (ha' : a < 18446744073709551616) (hb : 0 ≤ b) (hb' : b < 18446744073709551616) (h : K (a * b / 18446744073709551616) (a * b % 18446744073709551616) H) : C_math_bits_Mul64 a b H K := by
  refine L_math_bits_Mul64 _ _ ?_
  unfold T_math_bits_Mul64
  have wr : ∀ x, IntKind.wrap .u64 x = x % 18446744073709551616 := IntKind.wrap_u64
  have bn : ∀ x : Int, bandI .u64 (x % 18446744073709551616) 4294967295 = x % 18446744073709551616 % 4294967296 := fun x => bandI_32 (by omega) (by omega)
  simp only [fdiv_32, bandI_32 ha ha', bandI_32 hb hb', wr, bn]
  rw [mul64_arith a b ha ha' hb hb']
  exact h
theorem num_size_ok (ha : in64 a) {K : Int → Hp → Prop} (h : K (a.natAbs : Int) H) : C_gnomon_num_size a H K := by
  refine L_gnomon_num_size _ ?_
  unfold T_gnomon_num_size
  simp only [IntKind.wrap_u64]
  unfold in64 at ha
  refine ⟨fun hc => ?_, fun hc => ?_⟩
  · have : (0 - a % 18446744073709551616) % 18446744073709551616 = (a.natAbs : Int) := by omega
    rw [this]; exact h
  · have : a % 18446744073709551616 = (a.natAbs : Int) := by omega
    rw [this]; exact h
theorem abs_mul (a b : Int) : (a.natAbs : Int) * (b.natAbs : Int) = if (a < 0) = (b < 0) then a * b else -(a * b) := by
  rcases Int.natAbs_eq a with h1 | h1 <;> rcases Int.natAbs_eq b with h2 | h2
  all_goals
    by_cases ca : a < 0 <;> by_cases cb : b < 0
  all_goals first
    | (have e1 : (a.natAbs : Int) = a := by omega
       have e2 : (b.natAbs : Int) = b := by omega
       simp only [e1, e2, ca, cb, if_true]; done)
    | (have e1 : (a.natAbs : Int) = -a := by omega
       have e2 : (b.natAbs : Int) = b := by omega
       simp [e1, e2, ca, cb, Int.neg_mul]; done)
    | (have e1 : (a.natAbs : Int) = a := by omega
       have e2 : (b.natAbs : Int) = -b := by omega
       simp [e1, e2, ca, cb, Int.mul_neg]; done)
    | (have e1 : (a.natAbs : Int) = -a := by omega
       have e2 : (b.natAbs : Int) = -b := by omega
       simp [e1, e2, ca, cb, Int.neg_mul_neg]; done)
theorem num_Mul_ok (ha : in64 a) (hb : in64 b) (h : K (fit (a * b)).1 (fit (a * b)).2 H) : C_gnomon_num_Mul a b H K := by
  refine L_gnomon_num_Mul _ _ ?_
  unfold T_gnomon_num_Mul
  have hx := ha; have hy := hb
  unfold in64 at hx hy
  refine num_size_ok ha ?_
  refine num_size_ok hb ?_
  refine bits_Mul64_ok (by omega) (by omega) (by omega) (by omega) ?_
  have hm := abs_mul a b
  have hp0 : 0 ≤ (a.natAbs : Int) * (b.natAbs : Int) := Int.mul_nonneg (by omega) (by omega)
  refine ⟨fun hc => ?_, fun hc => ?_⟩
  · unfold T_gnomon_num_Mul_j1
    have hs : ¬ ((a < 0) = (b < 0)) := by
      intro e
      simp [e] at hc
    rw [if_neg hs] at hm
    have e1 : IntKind.wrap .u64 (9223372036854775807 + 1) = 9223372036854775808 := by decide
    rw [e1]
    generalize (a.natAbs : Int) * (b.natAbs : Int) = p at *
    have hab : a * b = -p := by omega
    rw [hab] at h ⊢
    by_cases hf : in64 (-p)
    · rw [fit_y hf] at h
      rw [fit_wrap hf]
      unfold in64 at hf
      refine ⟨fun hd => ?_, fun _ => h⟩
      simp at hd; omega
    · rw [fit_n hf] at h
      unfold in64 at hf
      refine ⟨fun _ => h, fun hd => ?_⟩
      simp at hd; omega
  · unfold T_gnomon_num_Mul_j1
    have hs : (a < 0) = (b < 0) := by
      by_cases h1 : a < 0 <;> by_cases h2 : b < 0 <;> simp [h1, h2] at hc ⊢
    rw [if_pos hs] at hm
    generalize (a.natAbs : Int) * (b.natAbs : Int) = p at *
    rw [← hm] at h ⊢
    by_cases hf : in64 p
    · rw [fit_y hf] at h
      rw [fit_wrap hf]
      unfold in64 at hf
      refine ⟨fun hd => ?_, fun _ => h⟩
      simp at hd; omega
    · rw [fit_n hf] at h
      unfold in64 at hf
      refine ⟨fun _ => h, fun hd => ?_⟩
      simp at hd; omega
theorem tdiv_in (ha : in64 a) (hb : b ≠ 0) (h : ¬ (a = -9223372036854775808 ∧ b = -1)) : in64 (Int.tdiv a b) := by
  have hab : (Int.tdiv a b).natAbs = a.natAbs / b.natAbs := Int.natAbs_tdiv a b
  unfold in64 at ha ⊢
  by_cases h1 : b.natAbs = 1
  · rw [h1, Nat.div_one] at hab
    by_cases h2 : a = -9223372036854775808
    · have : b = 1 := by omega
      subst this
      rw [Int.tdiv_one]; omega
    · omega
  · have h4 : a.natAbs / b.natAbs ≤ a.natAbs / 2 := Nat.div_le_div_left (by omega) (by decide)
    omega
theorem divS_2 (ha : in64 a) : divS a b = if b = 0 then (0, 2) else if a = -9223372036854775808 ∧ b = -1 then (0, 1) else (Int.tdiv a b, 0) := by
  unfold divS
  by_cases h0 : b = 0
  · rw [if_pos h0, if_pos h0]
  · rw [if_neg h0, if_neg h0]
    by_cases h1 : a = -9223372036854775808 ∧ b = -1
    · rw [if_pos h1, h1.1, h1.2]; rfl
    · rw [if_neg h1, fit_y (tdiv_in ha h0 h1)]
def divW (a b : Int) : Int := if b = 0 then 2 else if a = -9223372036854775808 ∧ b = -1 then 1 else 0
theorem num_divides_ok {K : Int → Hp → Prop} (h : K (divW a b) H) : C_gnomon_num_divides a b H K := by
  refine L_gnomon_num_divides _ _ ?_
  unfold T_gnomon_num_divides
  unfold divW at h
  refine ⟨fun hc => by rwa [if_pos hc] at h, fun hc => ⟨fun hd => ?_, fun hd => ?_⟩⟩
  · rw [if_neg hc, if_pos (by simpa using hd)] at h; exact h
  · rw [if_neg hc, if_neg (by simpa using hd)] at h; exact h
theorem ref_divides_ok {K : Int → Hp → Prop} (h : K (divW a b) H) : C_gnomon_gnomonref7_divides a b H K := by
  refine L_gnomon_gnomonref7_divides _ _ ?_
  unfold T_gnomon_gnomonref7_divides
  unfold divW at h
  refine ⟨fun hc => by rwa [if_pos hc] at h, fun hc => ⟨fun hd => ?_, fun hd => ?_⟩⟩
  · rw [if_neg hc, if_pos (by simpa using hd)] at h; exact h
  · rw [if_neg hc, if_neg (by simpa using hd)] at h; exact h
theorem divW_cases (a b : Int) : (b = 0 ∧ divW a b = 2) ∨ (b ≠ 0 ∧ (a = -9223372036854775808 ∧ b = -1) ∧ divW a b = 1) ∨ (b ≠ 0 ∧ ¬ (a = -9223372036854775808 ∧ b = -1) ∧ divW a b = 0) := by
  unfold divW
  by_cases h0 : b = 0
  · exact .inl ⟨h0, if_pos h0⟩
  · by_cases h1 : a = -9223372036854775808 ∧ b = -1
    · exact .inr (.inl ⟨h0, h1, by rw [if_neg h0, if_pos h1]⟩)
    · exact .inr (.inr ⟨h0, h1, by rw [if_neg h0, if_neg h1]⟩)
theorem num_Div_ok (ha : in64 a) (h : K (divS a b).1 (divS a b).2 H) : C_gnomon_num_Div a b H K := by
  refine L_gnomon_num_Div _ _ (num_divides_ok ?_)
  rw [divS_2 ha] at h
  rcases divW_cases a b with ⟨h0, e⟩ | ⟨h0, h1, e⟩ | ⟨h0, h1, e⟩
  · rw [if_pos h0] at h; rw [e]; exact ⟨fun _ => h, fun hc => by cases hc⟩
  · rw [if_neg h0, if_pos h1] at h; rw [e]; exact ⟨fun _ => h, fun hc => by cases hc⟩
  · rw [if_neg h0, if_neg h1] at h; rw [e, fit_wrap (tdiv_in ha h0 h1)]; exact ⟨fun hc => (hc rfl).elim, fun _ => ⟨h0, h⟩⟩
theorem ref_Div_ok (ha : in64 a) (h : K (divS a b).1 (divS a b).2 H) : C_gnomon_gnomonref7_Div a b H K := by
  refine L_gnomon_gnomonref7_Div _ _ (ref_divides_ok ?_)
  rw [divS_2 ha] at h
  rcases divW_cases a b with ⟨h0, e⟩ | ⟨h0, h1, e⟩ | ⟨h0, h1, e⟩
  · rw [if_pos h0] at h; rw [e]; exact ⟨fun _ => h, fun hc => by cases hc⟩
  · rw [if_neg h0, if_pos h1] at h; rw [e]; exact ⟨fun _ => h, fun hc => by cases hc⟩
  · rw [if_neg h0, if_neg h1] at h; rw [e, fit_wrap (tdiv_in ha h0 h1)]; exact ⟨fun hc => (hc rfl).elim, fun _ => ⟨h0, h⟩⟩
theorem num_Rem_ok (h : K (remS a b).1 (remS a b).2 H) : C_gnomon_num_Rem a b H K := by
  refine L_gnomon_num_Rem _ _ (num_divides_ok ?_)
  unfold remS at h
  rcases divW_cases a b with ⟨h0, e⟩ | ⟨h0, h1, e⟩ | ⟨h0, h1, e⟩
  · rw [if_pos h0] at h; rw [e]; exact ⟨fun _ => h, fun hc => by cases hc⟩
  · rw [if_neg h0, if_pos h1] at h; rw [e]; exact ⟨fun _ => h, fun hc => by cases hc⟩
  · rw [if_neg h0, if_neg h1] at h; rw [e]; exact ⟨fun hc => (hc rfl).elim, fun _ => ⟨h0, h⟩⟩
theorem ref_Rem_ok (ha : in64 a) (hb : in64 b) (h : K (remS a b).1 (remS a b).2 H) : C_gnomon_gnomonref7_Rem a b H K := by
  refine L_gnomon_gnomonref7_Rem _ _ (ref_divides_ok ?_)
  unfold remS at h
  rcases divW_cases a b with ⟨h0, e⟩ | ⟨h0, h1, e⟩ | ⟨h0, h1, e⟩
  · rw [if_pos h0] at h; rw [e]; exact ⟨fun _ => h, fun hc => by cases hc⟩
  · rw [if_neg h0, if_pos h1] at h; rw [e]; exact ⟨fun _ => h, fun hc => by cases hc⟩
  · rw [if_neg h0, if_neg h1] at h
    rw [e, fit_wrap (tdiv_in ha h0 h1)]
    refine ⟨fun hc => (hc rfl).elim, fun _ => ⟨h0, ?_⟩⟩
    have e1 := Int.mul_tdiv_add_tmod a b
    have hr := tmod_bd (c := a) hb h0
    have hab := Int.natAbs_tmod a b
    have hle : (Int.tmod a b).natAbs ≤ a.natAbs := by rw [hab]; exact Nat.mod_le _ _
    rw [Int.mul_comm] at e1
    have e2 : IntKind.wrap .i64 (Int.tdiv a b * b) = Int.tdiv a b * b := by
      refine fit_wrap ?_
      have hs : 0 ≤ a → 0 ≤ Int.tmod a b := fun h => Int.tmod_nonneg _ h
      have hs' : a ≤ 0 → Int.tmod a b ≤ 0 := fun h => by
        have := Int.tmod_nonneg (a := -a) b (by omega)
        rw [Int.neg_tmod] at this
        omega
      unfold in64 at ha ⊢
      generalize Int.tdiv a b * b = p at *
      generalize Int.tmod a b = r at *
      omega
    rw [e2]
    have e3 : a - Int.tdiv a b * b = Int.tmod a b := by omega
    rw [e3, fit_wrap (by unfold in64; omega)]
    exact h
theorem ref_Do_ok {k : Int} (hk : 3 ≤ k) (hk' : k ≤ 8) (ha : in64 a) (hb : in64 b) (h : K (opS k a b).1 (opS k a b).2 H) : C_gnomon_gnomonref7_Do (k + 2) a b H K := by
  refine L_gnomon_gnomonref7_Do _ _ _ ?_
  unfold T_gnomon_gnomonref7_Do
  unfold opS at h
  refine ⟨fun h1 => ?_, fun h1 => ⟨fun h2 => ?_, fun h2 => ⟨fun h3 => ?_, fun h3 => ⟨fun h4 => ?_, fun h4 => ⟨fun h5 => ?_, fun h5 => ?_⟩⟩⟩⟩⟩
  · rw [if_pos (by omega)] at h; exact ref_Neg_ok ha h
  · rw [if_neg (by omega), if_pos (by omega)] at h; exact ref_Add_ok ha hb h
  · rw [if_neg (by omega), if_neg (by omega), if_pos (by omega)] at h; exact ref_Sub_ok ha hb h
  · rw [if_neg (by omega), if_neg (by omega), if_neg (by omega), if_pos (by omega)] at h; exact ref_Mul_ok ha hb h
  · rw [if_neg (by omega), if_neg (by omega), if_neg (by omega), if_neg (by omega), if_pos (by omega)] at h; exact ref_Div_ok ha h
  · rw [if_neg (by omega), if_neg (by omega), if_neg (by omega), if_neg (by omega), if_neg (by omega)] at h; exact ref_Rem_ok ha hb h
end
/-! ## comparisons -/
def cmpS (op a b : Int) : Bool := if op = 1 then decide (a < b) else if op = 2 then decide (a ≤ b) else if op = 3 then decide (a = b) else if op = 4 then !decide (a = b) else if op = 5 then decide (b < a) else if op = 6 then decide (b ≤ a) else false
def notS (op : Int) : Int := if op = 1 then 6 else if op = 2 then 5 else if op = 3 then 4 else if op = 4 then 3 else if op = 5 then 2 else if op = 6 then 1 else 0
section
variable {op a b : Int} {H : Hp}
theorem ref_Cmp_ok {K : Bool → Hp → Prop} (h : K (cmpS op a b) H) : C_gnomon_gnomonref7_Cmp op a b H K := by
  refine L_gnomon_gnomonref7_Cmp _ _ _ ?_
  unfold T_gnomon_gnomonref7_Cmp
  unfold cmpS at h
  refine ⟨fun h1 => ?_, fun h1 => ⟨fun h2 => ?_, fun h2 => ⟨fun h3 => ?_, fun h3 => ⟨fun h4 => ?_, fun h4 => ⟨fun h5 => ?_, fun h5 => ⟨fun h6 => ?_, fun h6 => ?_⟩⟩⟩⟩⟩⟩ <;> simpa [*] using h
theorem ref_Not_ok {K : Int → Hp → Prop} (h : K (notS op) H) : C_gnomon_gnomonref7_Not op H K := by
  refine L_gnomon_gnomonref7_Not _ ?_
  unfold T_gnomon_gnomonref7_Not
  unfold notS at h
  refine ⟨fun h1 => ?_, fun h1 => ⟨fun h2 => ?_, fun h2 => ⟨fun h3 => ?_, fun h3 => ⟨fun h4 => ?_, fun h4 => ⟨fun h5 => ?_, fun h5 => ⟨fun h6 => ?_, fun h6 => ?_⟩⟩⟩⟩⟩⟩ <;> simpa [*] using h
theorem num_Not_ok {K : Int → Hp → Prop} (h : K (notS op) H) : C_gnomon_num_Not op H K := by
  refine L_gnomon_num_Not _ ?_
  unfold T_gnomon_num_Not
  unfold notS at h
  refine ⟨fun h1 => ?_, fun h1 => ⟨?_, ?_, ?_⟩⟩
  · simp at h1
    rw [if_neg (by omega), if_neg (by omega), if_neg (by omega), if_neg (by omega), if_neg (by omega), if_neg (by omega)] at h
    exact h
  · simp at h1; omega
  · simp at h1; omega
  · simp at h1
    obtain rfl | rfl | rfl | rfl | rfl | rfl := (by omega : op = 1 ∨ op = 2 ∨ op = 3 ∨ op = 4 ∨ op = 5 ∨ op = 6) <;> exact h
theorem num_compares_ok {K : Hp → Prop} (h : K H) : C_gnomon_num_compares H K := L_gnomon_num_compares (by unfold T_gnomon_num_compares; exact h)
theorem num_Cmp_ok {K : Bool → Hp → Prop} (h : K (cmpS op a b) H) : C_gnomon_num_Cmp op a b H K := by
  refine L_gnomon_num_Cmp _ _ _ ?_
  unfold T_gnomon_num_Cmp
  unfold cmpS at h
  refine ⟨fun h1 => ?_, fun h1 => num_compares_ok ⟨?_, ?_, K, fun _ _ h => h, ?_, ?_, ?_, ?_, ?_, ?_, ?_⟩⟩
  · simp at h1
    rw [if_neg (by omega), if_neg (by omega), if_neg (by omega), if_neg (by omega), if_neg (by omega), if_neg (by omega)] at h
    exact h
  · simp at h1; omega
  · simp at h1; omega
  · intro e; simp at h1; omega
  · rintro rfl; exact L_gnomon_num_compares_1 _ _ (by unfold T_gnomon_num_compares_1; exact h)
  · rintro rfl; exact L_gnomon_num_compares_2 _ _ (by unfold T_gnomon_num_compares_2; exact h)
  · rintro rfl; exact L_gnomon_num_compares_3 _ _ (by unfold T_gnomon_num_compares_3; exact h)
  · rintro rfl; exact L_gnomon_num_compares_4 _ _ (by unfold T_gnomon_num_compares_4; exact h)
  · rintro rfl; exact L_gnomon_num_compares_5 _ _ (by unfold T_gnomon_num_compares_5; exact h)
  · rintro rfl; exact L_gnomon_num_compares_6 _ _ (by unfold T_gnomon_num_compares_6; exact h)
end
end Go.Proofs.Ytgapepdglhcglaa
