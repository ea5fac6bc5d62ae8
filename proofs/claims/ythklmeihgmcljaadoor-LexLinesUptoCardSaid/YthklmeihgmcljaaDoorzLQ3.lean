/- Strings: a rune's class, words, which text is a name. Contracts off the printed formulas. -/
import Derived.Test.YthklmeihgmcljaaDoorzLL0
import Derived.Test.YthklmeihgmcljaaDoorzLSh
import Derived.Test.YthklmeihgmcljaaDoorzLA0
namespace Go.Proofs.YthklmeihgmcljaaDoor
open Go.RowKit
set_option maxRecDepth 100000
set_option maxHeartbeats 2000000
def TabsH (H : Hp) : Prop := ∀ w : World, Sub H w → Lib.Utf8Tabs 0 1 w
theorem TabsH.le {H H' : Hp} (h : TabsH H) (l : Hle H H') : TabsH H' := fun w s => h w fun i o e => s i o (l i o e)
theorem Inv.of_below {w w' : World} {H : Hp} (I : Inv w (inF []) H H [] w) (b : Below w.heap.size w w') : Inv w (inF []) H H [] w' :=
  ⟨fun i o h => (b.block i (I.Hlt h)).trans (I.sub i o h), fun p h => (by cases h), fun p h => (by cases h), List.nodup_nil, fun p h => (by cases h), fun i hi _ => b.block i hi, b.size, b.os, b.tape, b.output, Hle.refl _, fun _ _ _ => rfl⟩
section
variable {H : Hp}
def runes (s : ByteArray) : Nat → Nat → List Int
  | 0, _ => []
  | f + 1, p => if p < s.size then ((Utf8.decode s p).1 : Int) :: runes s f (p + (Utf8.decode s p).2) else []
theorem U3 (s : ByteArray) : ∀ (f g p : Nat), s.size - p ≤ f → s.size - p ≤ g → runes s f p = runes s g p
  | 0, 0, _, _, _ => rfl
  | 0, g + 1, p, h, _ => by rw [runes, runes, if_neg (by omega)]
  | f + 1, 0, p, _, h => by rw [runes, runes, if_neg (by omega)]
  | f + 1, g + 1, p, h, h' => by
    rw [runes, runes]
    split
    · have := A0 s p
      rw [U3 s f g _ (by omega) (by omega)]
    · rfl
theorem a0t (s : ByteArray) : ∀ (f p : Nat), (runes s f p).length ≤ s.size - p
  | 0, _ => by rw [runes]; exact Nat.zero_le _
  | f + 1, p => by
    rw [runes]
    split
    · have := A0 s p
      have := a0t s f (p + (Utf8.decode s p).2)
      rw [List.length_cons]; omega
    · exact Nat.zero_le _
def runesOf (s : ByteArray) : List Int := runes s s.size 0
theorem a2j {s : ByteArray} {p : Nat} (hp : p < s.size) : runes s (s.size - p) p = ((Utf8.decode s p).1 : Int) :: runes s (s.size - (p + (Utf8.decode s p).2)) (p + (Utf8.decode s p).2) := by
  have := A0 s p
  obtain ⟨m, hm⟩ : ∃ m, s.size - p = m + 1 := ⟨s.size - p - 1, by omega⟩
  rw [hm, runes, if_pos hp, U3 s m (s.size - (p + (Utf8.decode s p).2)) _ (by omega) (by omega)]
theorem a2V {s : ByteArray} {p : Nat} (hp : ¬ p < s.size) (f : Nat) : runes s f p = [] := by
  cases f with
  | zero => rw [runes]
  | succ f => rw [runes, if_neg hp]
theorem a3H {s : ByteArray} (hs : s.size ≤ big) {K : Int → Hp → Prop} (h : K ((runesOf s).length : Int) H) : u4 s H K := by
  refine J9 _ ?_
  unfold u6
  have hl := a0t s s.size 0
  refine M7 (fun (z : Int × Nat) H' => H' = H ∧ 0 ≤ z.1 ∧ z.1 + ((runes s (s.size - z.2) z.2).length : Int) = ((runesOf s).length : Int)) (fun z => s.size - z.2) ⟨rfl, Int.le_refl _, by simp [runesOf]⟩ ?_
  rintro ⟨n, p⟩ H1 next ⟨rfl, n0, hn⟩ hk
  dsimp only at n0 hn ⊢
  unfold q5
  refine ⟨fun hc => ?_, fun hc => ?_⟩
  · rw [a2j hc, List.length_cons] at hn
    have := A0 s p
    rw [a4U n0 (by unfold runesOf at hn; simp only [big] at hs; omega)]
    exact hk _ _ ⟨rfl, by show 0 ≤ n + 1; omega, by dsimp only; omega⟩ (by show s.size - (p + _) < s.size - p; omega)
  · rw [a2V hc] at hn
    unfold p9
    rw [show n = ((runesOf s).length : Int) by simpa using hn]
    exact h
theorem a4B {s : ByteArray} (hs : s.size ≤ big) {K : Bool → Hp → Prop} (h : K (decide (32 < ((runesOf s).length : Int))) H) : J0 s H K := by
  refine W3 _ ?_
  unfold J1
  exact a3H hs h
def wordS (s : ByteArray) : Bool := decide (s = ⟨#[118, 97, 114]⟩) || decide (s = ⟨#[97, 114, 114, 97, 121]⟩) || decide (s = ⟨#[105, 102]⟩) || decide (s = ⟨#[101, 108, 115, 101]⟩) || decide (s = ⟨#[119, 104, 105, 108, 101]⟩) || decide (s = ⟨#[97, 115, 115, 101, 114, 116]⟩) || decide (s = ⟨#[97, 115, 115, 117, 109, 101]⟩) || decide (s = ⟨#[115, 107, 105, 112]⟩) || decide (s = ⟨#[105, 110, 112, 117, 116]⟩) || decide (s = ⟨#[116, 114, 117, 101]⟩) || decide (s = ⟨#[102, 97, 108, 115, 101]⟩)
theorem a4C {s : ByteArray} {K : Bool → Hp → Prop} (h : K (wordS s) H) : I0 s H K := by
  refine W4 _ ?_
  unfold J3
  unfold wordS at h
  refine ⟨fun e => ?_, fun e0 => ?_⟩
  · unfold d9
    subst e; exact ⟨fun _ => h, fun hc => (by cases hc)⟩
  refine ⟨fun e => ?_, fun e1 => ?_⟩
  · unfold d9
    subst e; exact ⟨fun _ => h, fun hc => (by cases hc)⟩
  refine ⟨fun e => ?_, fun e2 => ?_⟩
  · unfold d9
    subst e; exact ⟨fun _ => h, fun hc => (by cases hc)⟩
  refine ⟨fun e => ?_, fun e3 => ?_⟩
  · unfold d9
    subst e; exact ⟨fun _ => h, fun hc => (by cases hc)⟩
  refine ⟨fun e => ?_, fun e4 => ?_⟩
  · unfold d9
    subst e; exact ⟨fun _ => h, fun hc => (by cases hc)⟩
  refine ⟨fun e => ?_, fun e5 => ?_⟩
  · unfold d9
    subst e; exact ⟨fun _ => h, fun hc => (by cases hc)⟩
  refine ⟨fun e => ?_, fun e6 => ?_⟩
  · unfold d9
    subst e; exact ⟨fun _ => h, fun hc => (by cases hc)⟩
  refine ⟨fun e => ?_, fun e7 => ?_⟩
  · unfold d9
    subst e; exact ⟨fun _ => h, fun hc => (by cases hc)⟩
  refine ⟨fun e => ?_, fun e8 => ?_⟩
  · unfold d9
    subst e; exact ⟨fun _ => h, fun hc => (by cases hc)⟩
  refine ⟨fun e => ?_, fun e9 => ?_⟩
  · unfold d9
    subst e; exact ⟨fun _ => h, fun hc => (by cases hc)⟩
  simp only [decide_eq_false e0, decide_eq_false e1, decide_eq_false e2, decide_eq_false e3, decide_eq_false e4, decide_eq_false e5, decide_eq_false e6, decide_eq_false e7, decide_eq_false e8, decide_eq_false e9, Bool.false_or] at h
  unfold d9
  generalize decide (s = ⟨#[102, 97, 108, 115, 101]⟩) = q at h ⊢
  cases q
  · exact ⟨fun hc => (by cases hc), fun _ => h⟩
  · exact ⟨fun _ => h, fun hc => (by cases hc)⟩
def signR (r : Int) : Prop := r = 59 ∨ r = 44 ∨ r = 123 ∨ r = 125 ∨ r = 40 ∨ r = 41 ∨ r = 91 ∨ r = 93 ∨ r = 61 ∨ r = 33 ∨ r = 60 ∨ r = 62 ∨ r = 43 ∨ r = 45 ∨ r = 42 ∨ r = 47 ∨ r = 37 ∨ r = 38 ∨ r = 124
instance (r : Int) : Decidable (signR r) := by unfold signR; infer_instance
def letterR (r : Int) : Prop := r = 95 ∨ (97 ≤ r ∧ r ≤ 122) ∨ (65 ≤ r ∧ r ≤ 90) ∨ (192 ≤ r ∧ r ≤ 591) ∨ (913 ≤ r ∧ r ≤ 969) ∨ (1040 ≤ r ∧ r ≤ 1103)
instance (r : Int) : Decidable (letterR r) := by unfold letterR; infer_instance
def classS (r : Int) : Int :=
  if r = 32 ∨ r = 9 ∨ r = 13 then 1 else if r = 10 then 2 else if signR r then 5 else if r = 215 ∨ r = 247 ∨ r = 930 then 6 else if 48 ≤ r ∧ r ≤ 57 then 4 else if letterR r then 3 else 6
theorem G9 {a b r : Int} {K : Bool → Hp → Prop} (h : K (decide (a ≤ r) && decide (r ≤ b)) H) : m8 a b r H K := R0 _ _ _ h
theorem a0u {r : Int} {b : Bool} {K : Int → Hp → Prop} (h : K (if b = true then 3 else 6) H) : m0 b r H K := by
  unfold m0
  cases b
  · exact ⟨fun hc => (by cases hc), fun _ => h⟩
  · exact ⟨fun _ => h, fun hc => (by cases hc)⟩
theorem U4 {r : Int} {b : Bool} {K : Int → Hp → Prop} (h : K (if b = true then 6 else if 48 ≤ r ∧ r ≤ 57 then 4 else if letterR r then 3 else 6) H) : p7 b r H K := by
  unfold p7
  refine ⟨fun hb => by rw [if_pos hb] at h; exact h, fun hb => G9 ?_⟩
  rw [if_neg (by rw [hb]; decide)] at h
  refine ⟨fun h1 => ?_, fun h1 => ?_⟩
  · rw [if_pos (by simpa using h1)] at h; exact h
  rw [if_neg (by simpa using h1)] at h
  refine ⟨fun h2 => ?_, fun h2 => G9 ?_⟩
  · refine a0u ?_
    rw [if_pos (show letterR r from .inl h2)] at h
    rw [decide_eq_true h2]; exact h
  have last : ∀ (lo hi : Int) (K' : Bool → Hp → Prop), K' (decide (lo ≤ r) && decide (r ≤ hi)) H → m8 lo hi r H K' := fun lo hi K' hk => G9 hk
  have go : ∀ (b : Bool) (q : Prop) [Decidable q], (b = true ↔ q) → K (if q then 3 else 6) H → m0 b r H K := fun b q _ hq hk => a0u (by
    by_cases hh : q
    · rw [if_pos (hq.2 hh)]; rw [if_pos hh] at hk; exact hk
    · rw [if_neg (fun e => hh (hq.1 e))]; rw [if_neg hh] at hk; exact hk)
  refine ⟨fun h3 => go _ _ ?_ h, fun h3 => G9 ⟨fun h4 => go _ _ ?_ h, fun h4 => G9 ⟨fun h5 => go _ _ ?_ h, fun h5 => G9 ⟨fun h6 => go _ _ ?_ h, fun h6 => G9 (go _ _ ?_ h)⟩⟩⟩⟩ <;>
    (clear go last h; unfold letterR; simp only [← Bool.decide_and, decide_eq_true_eq, decide_eq_false_iff_not] at *; omega)
theorem a2W {r : Int} {b : Bool} {K : Int → Hp → Prop} (h : K (if b = true then 5 else if r = 215 ∨ r = 247 ∨ r = 930 then 6 else if 48 ≤ r ∧ r ≤ 57 then 4 else if letterR r then 3 else 6) H) : d7 r b r H K := by
  unfold d7
  refine ⟨fun hb => by rw [if_pos hb] at h; exact h, fun hb => ?_⟩
  rw [if_neg (by rw [hb]; decide)] at h
  refine ⟨fun e => U4 ?_, fun e1 => ⟨fun e => U4 ?_, fun e2 => U4 ?_⟩⟩
  · rw [if_pos (.inl e)] at h; rw [decide_eq_true e]; exact h
  · rw [if_pos (.inr (.inl e))] at h; rw [decide_eq_true e]; exact h
  · by_cases e : r = 930
    · rw [if_pos (.inr (.inr e))] at h; rw [decide_eq_true e]; exact h
    · rw [if_neg (by omega)] at h; rw [decide_eq_false e]; exact h
theorem S4 {r : Int} {b : Bool} {K : Int → Hp → Prop} (h : K (if b = true then 1 else if r = 10 then 2 else if signR r then 5 else if r = 215 ∨ r = 247 ∨ r = 930 then 6 else if 48 ≤ r ∧ r ≤ 57 then 4 else if letterR r then 3 else 6) H) : p8 r b r H K := by
  unfold p8
  refine ⟨fun hb => by rw [if_pos hb] at h; exact h, fun hb => ?_⟩
  rw [if_neg (by rw [hb]; decide)] at h
  refine ⟨fun e => by rw [if_pos e] at h; exact h, fun e => ?_⟩
  rw [if_neg e] at h
  have go : ∀ (b : Bool), (b = true ↔ signR r) → d7 r b r H K := fun b hq => a2W (by
    by_cases hh : signR r
    · rw [if_pos (hq.2 hh)]; rw [if_pos hh] at h; exact h
    · rw [if_neg (fun e => hh (hq.1 e))]; rw [if_neg hh] at h; exact h)
  clear h
  refine ⟨fun e => go _ ?_, fun e0 => ?_⟩
  · rw [decide_eq_true e]; unfold signR; simp only [true_iff]; omega
  refine ⟨fun e => go _ ?_, fun e1 => ?_⟩
  · rw [decide_eq_true e]; unfold signR; simp only [true_iff]; omega
  refine ⟨fun e => go _ ?_, fun e2 => ?_⟩
  · rw [decide_eq_true e]; unfold signR; simp only [true_iff]; omega
  refine ⟨fun e => go _ ?_, fun e3 => ?_⟩
  · rw [decide_eq_true e]; unfold signR; simp only [true_iff]; omega
  refine ⟨fun e => go _ ?_, fun e4 => ?_⟩
  · rw [decide_eq_true e]; unfold signR; simp only [true_iff]; omega
  refine ⟨fun e => go _ ?_, fun e5 => ?_⟩
  · rw [decide_eq_true e]; unfold signR; simp only [true_iff]; omega
  refine ⟨fun e => go _ ?_, fun e6 => ?_⟩
  · rw [decide_eq_true e]; unfold signR; simp only [true_iff]; omega
  refine ⟨fun e => go _ ?_, fun e7 => ?_⟩
  · rw [decide_eq_true e]; unfold signR; simp only [true_iff]; omega
  refine ⟨fun e => go _ ?_, fun e8 => ?_⟩
  · rw [decide_eq_true e]; unfold signR; simp only [true_iff]; omega
  refine ⟨fun e => go _ ?_, fun e9 => ?_⟩
  · rw [decide_eq_true e]; unfold signR; simp only [true_iff]; omega
  refine ⟨fun e => go _ ?_, fun e10 => ?_⟩
  · rw [decide_eq_true e]; unfold signR; simp only [true_iff]; omega
  refine ⟨fun e => go _ ?_, fun e11 => ?_⟩
  · rw [decide_eq_true e]; unfold signR; simp only [true_iff]; omega
  refine ⟨fun e => go _ ?_, fun e12 => ?_⟩
  · rw [decide_eq_true e]; unfold signR; simp only [true_iff]; omega
  refine ⟨fun e => go _ ?_, fun e13 => ?_⟩
  · rw [decide_eq_true e]; unfold signR; simp only [true_iff]; omega
  refine ⟨fun e => go _ ?_, fun e14 => ?_⟩
  · rw [decide_eq_true e]; unfold signR; simp only [true_iff]; omega
  refine ⟨fun e => go _ ?_, fun e15 => ?_⟩
  · rw [decide_eq_true e]; unfold signR; simp only [true_iff]; omega
  refine ⟨fun e => go _ ?_, fun e16 => ?_⟩
  · rw [decide_eq_true e]; unfold signR; simp only [true_iff]; omega
  refine ⟨fun e => go _ ?_, fun e17 => ?_⟩
  · rw [decide_eq_true e]; unfold signR; simp only [true_iff]; omega
  refine go _ ?_
  unfold signR
  simp only [decide_eq_true_eq]
  omega
theorem Q0 {r : Int} {K : Int → Hp → Prop} (h : K (classS r) H) : r9 r H K := by
  refine S6 _ ?_
  unfold G1
  unfold classS at h
  refine ⟨fun e => S4 ?_, fun e1 => ⟨fun e => S4 ?_, fun e2 => S4 ?_⟩⟩
  · rw [if_pos (.inl e)] at h; rw [decide_eq_true e]; exact h
  · rw [if_pos (.inr (.inl e))] at h; rw [decide_eq_true e]; exact h
  · by_cases e : r = 13
    · rw [if_pos (.inr (.inr e))] at h; rw [decide_eq_true e]; exact h
    · rw [if_neg (by omega)] at h; rw [decide_eq_false e]; exact h
def goesS (r : Int) : Bool := decide (classS r = 3) || decide (classS r = 4)
theorem a4D {r : Int} {K : Bool → Hp → Prop} (h : K (goesS r) H) : G0 r H K := by
  refine S8 _ ?_
  unfold G3
  exact Q0 h
end
end Go.Proofs.YthklmeihgmcljaaDoor
