/- Strings: a rune's class, words, which text is a name. Contracts off the printed formulas. -/
import Derived.Test.YthklmeihgmcljaaDoorzAL0
import Derived.Test.YthklmeihgmcljaaDoorzASh
import Derived.Test.YthklmeihgmcljaaDoorzAA0
namespace Go.Proofs.YthklmeihgmcljaaDoor
open Go.RowKit
set_option maxRecDepth 100000
set_option maxHeartbeats 2000000
def TabsH (H : Hp) : Prop := ∀ w : World, Sub H w → Lib.Utf8Tabs 0 1 w
theorem TabsH.le {H H' : Hp} (h : TabsH H) (l : Hle H H') : TabsH H' := fun w s => h w fun i o e => s i o (l i o e)
theorem Inv.of_below {w w' : World} {H : Hp} (I : Inv w (inF []) H H [] w) (b : Below w.heap.size w w') : Inv w (inF []) H H [] w' :=
  ⟨fun i o h => (b.block i (I.Hlt h)).trans (I.sub i o h), fun p h => (by cases h), fun p h => (by cases h), List.nodup_nil, fun p h => (by cases h), fun i hi _ => b.block i hi, b.size, b.os, b.tape, b.output, Hle.refl _, fun _ _ _ => rfl⟩
section
variable {H : Hp}
def runes (s : ByteArray) : Nat → Nat → List Int
  | 0, _ => []
  | f + 1, p => if p < s.size then ((Utf8.decode s p).1 : Int) :: runes s f (p + (Utf8.decode s p).2) else []
theorem V5 (s : ByteArray) : ∀ (f g p : Nat), s.size - p ≤ f → s.size - p ≤ g → runes s f p = runes s g p
  | 0, 0, _, _, _ => rfl
  | 0, g + 1, p, h, _ => by rw [runes, runes, if_neg (by omega)]
  | f + 1, 0, p, _, h => by rw [runes, runes, if_neg (by omega)]
  | f + 1, g + 1, p, h, h' => by
    rw [runes, runes]
    split
    · have := B1 s p
      rw [V5 s f g _ (by omega) (by omega)]
    · rfl
theorem a0B (s : ByteArray) : ∀ (f p : Nat), (runes s f p).length ≤ s.size - p
  | 0, _ => by rw [runes]; exact Nat.zero_le _
  | f + 1, p => by
    rw [runes]
    split
    · have := B1 s p
      have := a0B s f (p + (Utf8.decode s p).2)
      rw [List.length_cons]; omega
    · exact Nat.zero_le _
def runesOf (s : ByteArray) : List Int := runes s s.size 0
theorem a2C {s : ByteArray} {p : Nat} (hp : p < s.size) : runes s (s.size - p) p = ((Utf8.decode s p).1 : Int) :: runes s (s.size - (p + (Utf8.decode s p).2)) (p + (Utf8.decode s p).2) := by
  have := B1 s p
  obtain ⟨m, hm⟩ : ∃ m, s.size - p = m + 1 := ⟨s.size - p - 1, by omega⟩
  rw [hm, runes, if_pos hp, V5 s m (s.size - (p + (Utf8.decode s p).2)) _ (by omega) (by omega)]
theorem a3n {s : ByteArray} {p : Nat} (hp : ¬ p < s.size) (f : Nat) : runes s f p = [] := by
  cases f with
  | zero => rw [runes]
  | succ f => rw [runes, if_neg hp]
theorem a3V {s : ByteArray} (hs : s.size ≤ big) {K : Int → Hp → Prop} (h : K ((runesOf s).length : Int) H) : u9 s H K := by
  refine L5 _ ?_
  unfold v7
  have hl := a0B s s.size 0
  refine O3 (fun (z : Int × Nat) H' => H' = H ∧ 0 ≤ z.1 ∧ z.1 + ((runes s (s.size - z.2) z.2).length : Int) = ((runesOf s).length : Int)) (fun z => s.size - z.2) ⟨rfl, Int.le_refl _, by simp [runesOf]⟩ ?_
  rintro ⟨n, p⟩ H1 next ⟨rfl, n0, hn⟩ hk
  dsimp only at n0 hn ⊢
  unfold s1
  refine ⟨fun hc => ?_, fun hc => ?_⟩
  · rw [a2C hc, List.length_cons] at hn
    have := B1 s p
    rw [a5m n0 (by unfold runesOf at hn; simp only [big] at hs; omega)]
    exact hk _ _ ⟨rfl, by show 0 ≤ n + 1; omega, by dsimp only; omega⟩ (by show s.size - (p + _) < s.size - p; omega)
  · rw [a3n hc] at hn
    unfold r9
    rw [show n = ((runesOf s).length : Int) by simpa using hn]
    exact h
theorem a4Q {s : ByteArray} (hs : s.size ≤ big) {K : Bool → Hp → Prop} (h : K (decide (32 < ((runesOf s).length : Int))) H) : K4 s H K := by
  refine X6 _ ?_
  unfold K5
  exact a3V hs h
def wordS (s : ByteArray) : Bool := decide (s = ⟨#[118, 97, 114]⟩) || decide (s = ⟨#[97, 114, 114, 97, 121]⟩) || decide (s = ⟨#[105, 102]⟩) || decide (s = ⟨#[101, 108, 115, 101]⟩) || decide (s = ⟨#[119, 104, 105, 108, 101]⟩) || decide (s = ⟨#[97, 115, 115, 101, 114, 116]⟩) || decide (s = ⟨#[97, 115, 115, 117, 109, 101]⟩) || decide (s = ⟨#[115, 107, 105, 112]⟩) || decide (s = ⟨#[105, 110, 112, 117, 116]⟩) || decide (s = ⟨#[116, 114, 117, 101]⟩) || decide (s = ⟨#[102, 97, 108, 115, 101]⟩)
theorem a4R {s : ByteArray} {K : Bool → Hp → Prop} (h : K (wordS s) H) : K3 s H K := by
  refine X7 _ ?_
  unfold K6
  unfold wordS at h
  refine ⟨fun e => ?_, fun e0 => ?_⟩
  · unfold f7
    subst e; exact ⟨fun _ => h, fun hc => (by cases hc)⟩
  refine ⟨fun e => ?_, fun e1 => ?_⟩
  · unfold f7
    subst e; exact ⟨fun _ => h, fun hc => (by cases hc)⟩
  refine ⟨fun e => ?_, fun e2 => ?_⟩
  · unfold f7
    subst e; exact ⟨fun _ => h, fun hc => (by cases hc)⟩
  refine ⟨fun e => ?_, fun e3 => ?_⟩
  · unfold f7
    subst e; exact ⟨fun _ => h, fun hc => (by cases hc)⟩
  refine ⟨fun e => ?_, fun e4 => ?_⟩
  · unfold f7
    subst e; exact ⟨fun _ => h, fun hc => (by cases hc)⟩
  refine ⟨fun e => ?_, fun e5 => ?_⟩
  · unfold f7
    subst e; exact ⟨fun _ => h, fun hc => (by cases hc)⟩
  refine ⟨fun e => ?_, fun e6 => ?_⟩
  · unfold f7
    subst e; exact ⟨fun _ => h, fun hc => (by cases hc)⟩
  refine ⟨fun e => ?_, fun e7 => ?_⟩
  · unfold f7
    subst e; exact ⟨fun _ => h, fun hc => (by cases hc)⟩
  refine ⟨fun e => ?_, fun e8 => ?_⟩
  · unfold f7
    subst e; exact ⟨fun _ => h, fun hc => (by cases hc)⟩
  refine ⟨fun e => ?_, fun e9 => ?_⟩
  · unfold f7
    subst e; exact ⟨fun _ => h, fun hc => (by cases hc)⟩
  simp only [decide_eq_false e0, decide_eq_false e1, decide_eq_false e2, decide_eq_false e3, decide_eq_false e4, decide_eq_false e5, decide_eq_false e6, decide_eq_false e7, decide_eq_false e8, decide_eq_false e9, Bool.false_or] at h
  unfold f7
  generalize decide (s = ⟨#[102, 97, 108, 115, 101]⟩) = q at h ⊢
  cases q
  · exact ⟨fun hc => (by cases hc), fun _ => h⟩
  · exact ⟨fun _ => h, fun hc => (by cases hc)⟩
def signR (r : Int) : Prop := r = 59 ∨ r = 44 ∨ r = 123 ∨ r = 125 ∨ r = 40 ∨ r = 41 ∨ r = 91 ∨ r = 93 ∨ r = 61 ∨ r = 33 ∨ r = 60 ∨ r = 62 ∨ r = 43 ∨ r = 45 ∨ r = 42 ∨ r = 47 ∨ r = 37 ∨ r = 38 ∨ r = 124
instance (r : Int) : Decidable (signR r) := by unfold signR; infer_instance
def letterR (r : Int) : Prop := r = 95 ∨ (97 ≤ r ∧ r ≤ 122) ∨ (65 ≤ r ∧ r ≤ 90) ∨ (192 ≤ r ∧ r ≤ 591) ∨ (913 ≤ r ∧ r ≤ 969) ∨ (1040 ≤ r ∧ r ≤ 1103)
instance (r : Int) : Decidable (letterR r) := by unfold letterR; infer_instance
def classS (r : Int) : Int :=
  if r = 32 ∨ r = 9 ∨ r = 13 then 1 else if r = 10 then 2 else if signR r then 5 else if r = 215 ∨ r = 247 ∨ r = 930 then 6 else if 48 ≤ r ∧ r ≤ 57 then 4 else if letterR r then 3 else 6
theorem J7 {a b r : Int} {K : Bool → Hp → Prop} (h : K (decide (a ≤ r) && decide (r ≤ b)) H) : o6 a b r H K := S7 _ _ _ h
theorem a0C {r : Int} {b : Bool} {K : Int → Hp → Prop} (h : K (if b = true then 3 else 6) H) : m5 b r H K := by
  unfold m5
  cases b
  · exact ⟨fun hc => (by cases hc), fun _ => h⟩
  · exact ⟨fun _ => h, fun hc => (by cases hc)⟩
theorem V6 {r : Int} {b : Bool} {K : Int → Hp → Prop} (h : K (if b = true then 6 else if 48 ≤ r ∧ r ≤ 57 then 4 else if letterR r then 3 else 6) H) : r7 b r H K := by
  unfold r7
  refine ⟨fun hb => by rw [if_pos hb] at h; exact h, fun hb => J7 ?_⟩
  rw [if_neg (by rw [hb]; decide)] at h
  refine ⟨fun h1 => ?_, fun h1 => ?_⟩
  · rw [if_pos (by simpa using h1)] at h; exact h
  rw [if_neg (by simpa using h1)] at h
  refine ⟨fun h2 => ?_, fun h2 => J7 ?_⟩
  · refine a0C ?_
    rw [if_pos (show letterR r from .inl h2)] at h
    rw [decide_eq_true h2]; exact h
  have last : ∀ (lo hi : Int) (K' : Bool → Hp → Prop), K' (decide (lo ≤ r) && decide (r ≤ hi)) H → o6 lo hi r H K' := fun lo hi K' hk => J7 hk
  have go : ∀ (b : Bool) (q : Prop) [Decidable q], (b = true ↔ q) → K (if q then 3 else 6) H → m5 b r H K := fun b q _ hq hk => a0C (by
    by_cases hh : q
    · rw [if_pos (hq.2 hh)]; rw [if_pos hh] at hk; exact hk
    · rw [if_neg (fun e => hh (hq.1 e))]; rw [if_neg hh] at hk; exact hk)
  refine ⟨fun h3 => go _ _ ?_ h, fun h3 => J7 ⟨fun h4 => go _ _ ?_ h, fun h4 => J7 ⟨fun h5 => go _ _ ?_ h, fun h5 => J7 ⟨fun h6 => go _ _ ?_ h, fun h6 => J7 (go _ _ ?_ h)⟩⟩⟩⟩ <;>
    (clear go last h; unfold letterR; simp only [← Bool.decide_and, decide_eq_true_eq, decide_eq_false_iff_not] at *; omega)
theorem a3o {r : Int} {b : Bool} {K : Int → Hp → Prop} (h : K (if b = true then 5 else if r = 215 ∨ r = 247 ∨ r = 930 then 6 else if 48 ≤ r ∧ r ≤ 57 then 4 else if letterR r then 3 else 6) H) : d9 r b r H K := by
  unfold d9
  refine ⟨fun hb => by rw [if_pos hb] at h; exact h, fun hb => ?_⟩
  rw [if_neg (by rw [hb]; decide)] at h
  refine ⟨fun e => V6 ?_, fun e1 => ⟨fun e => V6 ?_, fun e2 => V6 ?_⟩⟩
  · rw [if_pos (.inl e)] at h; rw [decide_eq_true e]; exact h
  · rw [if_pos (.inr (.inl e))] at h; rw [decide_eq_true e]; exact h
  · by_cases e : r = 930
    · rw [if_pos (.inr (.inr e))] at h; rw [decide_eq_true e]; exact h
    · rw [if_neg (by omega)] at h; rw [decide_eq_false e]; exact h
theorem T7 {r : Int} {b : Bool} {K : Int → Hp → Prop} (h : K (if b = true then 1 else if r = 10 then 2 else if signR r then 5 else if r = 215 ∨ r = 247 ∨ r = 930 then 6 else if 48 ≤ r ∧ r ≤ 57 then 4 else if letterR r then 3 else 6) H) : r8 r b r H K := by
  unfold r8
  refine ⟨fun hb => by rw [if_pos hb] at h; exact h, fun hb => ?_⟩
  rw [if_neg (by rw [hb]; decide)] at h
  refine ⟨fun e => by rw [if_pos e] at h; exact h, fun e => ?_⟩
  rw [if_neg e] at h
  have go : ∀ (b : Bool), (b = true ↔ signR r) → d9 r b r H K := fun b hq => a3o (by
    by_cases hh : signR r
    · rw [if_pos (hq.2 hh)]; rw [if_pos hh] at h; exact h
    · rw [if_neg (fun e => hh (hq.1 e))]; rw [if_neg hh] at h; exact h)
  clear h
  refine ⟨fun e => go _ ?_, fun e0 => ?_⟩
  · rw [decide_eq_true e]; unfold signR; simp only [true_iff]; omega
  refine ⟨fun e => go _ ?_, fun e1 => ?_⟩
  · rw [decide_eq_true e]; unfold signR; simp only [true_iff]; omega
  refine ⟨fun e => go _ ?_, fun e2 => ?_⟩
  · rw [decide_eq_true e]; unfold signR; simp only [true_iff]; omega
  refine ⟨fun e => go _ ?_, fun e3 => ?_⟩
  · rw [decide_eq_true e]; unfold signR; simp only [true_iff]; omega
  refine ⟨fun e => go _ ?_, fun e4 => ?_⟩
  · rw [decide_eq_true e]; unfold signR; simp only [true_iff]; omega
  refine ⟨fun e => go _ ?_, fun e5 => ?_⟩
  · rw [decide_eq_true e]; unfold signR; simp only [true_iff]; omega
  refine ⟨fun e => go _ ?_, fun e6 => ?_⟩
  · rw [decide_eq_true e]; unfold signR; simp only [true_iff]; omega
  refine ⟨fun e => go _ ?_, fun e7 => ?_⟩
  · rw [decide_eq_true e]; unfold signR; simp only [true_iff]; omega
  refine ⟨fun e => go _ ?_, fun e8 => ?_⟩
  · rw [decide_eq_true e]; unfold signR; simp only [true_iff]; omega
  refine ⟨fun e => go _ ?_, fun e9 => ?_⟩
  · rw [decide_eq_true e]; unfold signR; simp only [true_iff]; omega
  refine ⟨fun e => go _ ?_, fun e10 => ?_⟩
  · rw [decide_eq_true e]; unfold signR; simp only [true_iff]; omega
  refine ⟨fun e => go _ ?_, fun e11 => ?_⟩
  · rw [decide_eq_true e]; unfold signR; simp only [true_iff]; omega
  refine ⟨fun e => go _ ?_, fun e12 => ?_⟩
  · rw [decide_eq_true e]; unfold signR; simp only [true_iff]; omega
  refine ⟨fun e => go _ ?_, fun e13 => ?_⟩
  · rw [decide_eq_true e]; unfold signR; simp only [true_iff]; omega
  refine ⟨fun e => go _ ?_, fun e14 => ?_⟩
  · rw [decide_eq_true e]; unfold signR; simp only [true_iff]; omega
  refine ⟨fun e => go _ ?_, fun e15 => ?_⟩
  · rw [decide_eq_true e]; unfold signR; simp only [true_iff]; omega
  refine ⟨fun e => go _ ?_, fun e16 => ?_⟩
  · rw [decide_eq_true e]; unfold signR; simp only [true_iff]; omega
  refine ⟨fun e => go _ ?_, fun e17 => ?_⟩
  · rw [decide_eq_true e]; unfold signR; simp only [true_iff]; omega
  refine go _ ?_
  unfold signR
  simp only [decide_eq_true_eq]
  omega
theorem R7 {r : Int} {K : Int → Hp → Prop} (h : K (classS r) H) : t6 r H K := by
  refine T9 _ ?_
  unfold H8
  unfold classS at h
  refine ⟨fun e => T7 ?_, fun e1 => ⟨fun e => T7 ?_, fun e2 => T7 ?_⟩⟩
  · rw [if_pos (.inl e)] at h; rw [decide_eq_true e]; exact h
  · rw [if_pos (.inr (.inl e))] at h; rw [decide_eq_true e]; exact h
  · by_cases e : r = 13
    · rw [if_pos (.inr (.inr e))] at h; rw [decide_eq_true e]; exact h
    · rw [if_neg (by omega)] at h; rw [decide_eq_false e]; exact h
def goesS (r : Int) : Bool := decide (classS r = 3) || decide (classS r = 4)
theorem a4S {r : Int} {K : Bool → Hp → Prop} (h : K (goesS r) H) : H6 r H K := by
  refine U1 _ ?_
  unfold I0
  exact R7 h
end
end Go.Proofs.YthklmeihgmcljaaDoor
