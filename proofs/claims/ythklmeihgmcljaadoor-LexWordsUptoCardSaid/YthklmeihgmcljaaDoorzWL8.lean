/- LexWords: which texts are words, which names: the program's answers are the document's. -/
import Derived.Lib.ValidLaws
import Derived.Test.YthklmeihgmcljaaDoorzWL7
namespace Go.Proofs.YthklmeihgmcljaaDoor
open Go.RowKit
set_option maxRecDepth 100000
set_option maxHeartbeats 1000000
section
variable {s : ByteArray}
theorem dL {p : Nat} (hp : p < s.size) : Lib.decodeL (s.data.toList.drop p) = Utf8.decode s p := by
  unfold Lib.decodeL
  have e : (⟨(s.data.toList.drop p).toArray⟩ : ByteArray) = s.extract p s.size := by
    apply ByteArray.ext
    apply Array.toList_inj.1
    rw [H8]
    rw [List.take_of_length_le (by rw [List.length_drop, Array.length_toList]; exact Nat.le_refl _)]
  rw [e]
  exact a0c hp
theorem a4p : ∀ (n p : Nat), s.size - p ≤ n → p ≤ s.size → Lib.validD (s.data.toList.drop p) = (chkAt s p).isNone := by
  intro n
  induction n with
  | zero =>
    intro p h hp
    have : p = s.size := by omega
    subst this
    have e : s.data.toList.drop s.size = [] := List.drop_eq_nil_of_le (by rw [Array.length_toList]; exact Nat.le_refl _)
    rw [M8 s _ (Nat.le_refl _), e]
    rfl
  | succ n ih =>
    intro p h hp
    by_cases c : p < s.size
    · rw [Lib.validD_step _ (by rw [O5 c]; exact List.cons_ne_nil _ _), dL c, R1 s p c, List.drop_drop]
      by_cases hb : bad s p
      · rw [if_pos hb, if_pos (show (Utf8.decode s p).1 = 65533 ∧ (Utf8.decode s p).2 = 1 from hb)]; rfl
      · rw [if_neg hb, if_neg (show ¬ ((Utf8.decode s p).1 = 65533 ∧ (Utf8.decode s p).2 = 1) from hb)]
        have := o9 s p
        exact ih _ (by show s.size - (p + wd s p) ≤ n; omega) (M2 c)
    · have : p = s.size := by omega
      subst this
      have e : s.data.toList.drop s.size = [] := List.drop_eq_nil_of_le (by rw [Array.length_toList]; exact Nat.le_refl _)
      rw [M8 s _ (Nat.le_refl _), e]
      rfl
variable (s)
def rlen (p : Nat) : Nat := (runes s (s.size - p) p).length
variable {s}
theorem a1i {p : Nat} (hp : p < s.size) : rlen s p = rlen s (p + wd s p) + 1 := by
  unfold rlen
  rw [a0p hp, List.length_cons]
theorem a4Z {p : Nat} (hp : ¬ p < s.size) : rlen s p = 0 := by
  unfold rlen
  rw [a0X hp]; rfl
theorem a4q : ∀ (n p : Nat), s.size - p ≤ n → s.size - p ≤ 4 * rlen s p := by
  intro n
  induction n with
  | zero => intro p h; omega
  | succ n ih =>
    intro p h
    by_cases c : p < s.size
    · rw [a1i c]
      have h1 := o9 s p
      have h2 : wd s p ≤ 4 := decode_le s p
      have := ih (p + wd s p) (by omega)
      omega
    · omega
variable (s)
def ansN (p n : Nat) : Bool := (chkAt s p).isNone && (decide (n + rlen s p ≤ 32) && nameAt s (s.size - p) p)
variable {s}
theorem a4r (h1 : ¬ s = ⟨#[]⟩) (h2 : wordS s = false) : nameS s = ansN s 0 0 := by
  unfold nameS ansN
  have e := a4p (s := s) _ 0 (Nat.le_refl _) (Nat.zero_le _)
  rw [List.drop_zero] at e
  rw [e, decide_eq_false h1, h2, Bool.false_or, Bool.or_false]
  have e2 : ((runesOf s).length : Int) = (rlen s 0 : Int) := by unfold runesOf rlen; rfl
  rw [e2, Nat.zero_add]
  show _ = ((chkAt s 0).isNone && (decide (rlen s 0 ≤ 32) && nameAt s s.size 0))
  cases (chkAt s 0).isNone with
  | false => rfl
  | true =>
    by_cases c : rlen s 0 ≤ 32
    · rw [decide_eq_true c, decide_eq_false (by omega)]; rfl
    · rw [decide_eq_false c, decide_eq_true (by omega)]; rfl
end
section
variable {H : Hp} {s : ByteArray} (hs : s.size ≤ big)
include hs
theorem a5a {K : Bool → Hp → Prop} (h : K (nameS s) H) : r6 s H K := by
  refine S4 _ ?_
  unfold D5
  have hs2 := hs
  simp only [big] at hs2
  refine E0 (wordS s) (fun _ K' hk => a1X hk) ?_
  by_cases c1 : s = ⟨#[]⟩
  · have : nameS s = false := by unfold nameS; rw [decide_eq_true c1]; rfl
    rw [this] at h
    rw [decide_eq_true c1]
    exact ⟨fun _ => h, fun x => (by cases x)⟩
  rw [decide_eq_false c1]
  by_cases c2 : 128 < s.size
  · have : nameS s = false := by
      have h4 := a4q (s := s) _ 0 (Nat.le_refl _)
      unfold nameS
      have e2 : ((runesOf s).length : Int) = (rlen s 0 : Int) := by unfold runesOf rlen; rfl
      rw [e2, decide_eq_true (show (32 : Int) < (rlen s 0 : Int) by omega)]
      simp
    rw [this] at h
    rw [decide_eq_true (show (128 : Int) < (s.size : Int) by omega)]
    exact ⟨fun _ => h, fun x => (by cases x)⟩
  rw [decide_eq_false (show ¬ (128 : Int) < (s.size : Int) by omega)]
  rw [if_pos (show (false || false) = false from rfl)]
  cases hw : wordS s with
  | true =>
    have : nameS s = false := by unfold nameS; rw [hw]; simp
    rw [this] at h
    exact ⟨fun _ => h, fun x => (by cases x)⟩
  | false =>
    refine ⟨fun x => (by cases x), fun _ => ?_⟩
    rw [a4r c1 hw] at h
    refine L9 (fun (z : Int × Int) H' => H' = H ∧ ∃ p n : Nat, z = ((n : Int), (p : Int)) ∧ p ≤ s.size ∧ n ≤ p ∧ (n = 0 ↔ p = 0) ∧ ansN s p n = ansN s 0 0) (fun z => (s.size - z.2).toNat) ⟨rfl, 0, 0, rfl, Nat.zero_le _, Nat.le_refl _, Iff.rfl, rfl⟩ ?_
    rintro z H1 next ⟨rfl, p, n, rfl, hp, hn, hz, he⟩ hk
    unfold s1
    dsimp only
    refine ⟨fun c => a5z hs (by omega) (a6D ?_), fun c => ?_⟩
    · have hp2 : p < s.size := by omega
      have h1 := o9 s p
      have h2 := M2 hp2
      have hstep := Z1 (s := s) hp2
      unfold ansN at he h
      rw [R1 s p hp2, a1i hp2, hstep] at he
      by_cases hb : bad s p
      · rw [if_pos hb] at he
        have e0 : (((chkAt s 0).isNone && (decide (0 + rlen s 0 ≤ 32) && nameAt s (s.size - 0) 0))) = false := by rw [← he]; rfl
        rw [e0] at h
        rw [decide_eq_true hb]
        exact ⟨fun _ => h, fun x => (by cases x)⟩
      · rw [if_neg hb] at he
        rw [decide_eq_false hb]
        have key : ((!(!false)) || ((!decide (classS (rn s p) = 3)) && ((!decide (classS (rn s p) = 4)) || (decide ((n : Int) = 0))))) = !decide (goesS (rn s p) = true ∧ ¬ (p = 0 ∧ classS (rn s p) ≠ 3)) := by
          unfold goesS
          rw [Bool.eq_iff_iff]
          simp only [Bool.not_false, Bool.not_true, Bool.false_or, Bool.and_eq_true, Bool.or_eq_true, Bool.not_eq_true', decide_eq_true_eq, decide_eq_false_iff_not, ne_eq]
          omega
        rw [key]
        by_cases cg : goesS (rn s p) = true ∧ ¬ (p = 0 ∧ classS (rn s p) ≠ 3)
        · rw [decide_eq_true cg]
          rw [if_pos cg] at he
          refine ⟨fun x => (by cases x), fun _ => ?_⟩
          rw [a0M _ _ (by omega), y1 (a := (n : Int) + 1) ⟨by omega, by omega⟩]
          refine hk _ _ ⟨rfl, p + wd s p, n + 1, rfl, h2, by omega, ⟨fun x => by omega, fun x => by omega⟩, ?_⟩ (by dsimp only; omega)
          unfold ansN
          rw [← he, show n + 1 + rlen s (p + wd s p) = n + (rlen s (p + wd s p) + 1) by omega]
        · rw [decide_eq_false cg]
          rw [if_neg cg, Bool.and_false, Bool.and_false] at he
          rw [← he] at h
          exact ⟨fun _ => h, fun x => (by cases x)⟩
    · unfold t8
      unfold ansN at he h
      rw [M8 s p (by omega), a4Z (by omega), a0r (by omega)] at he
      rw [← he] at h
      rw [show decide ((n : Int) ≤ 32) = ((none : Option Nat).isNone && (decide (n + 0 ≤ 32) && true)) by
        rw [Bool.and_true]
        show _ = decide (n + 0 ≤ 32)
        exact decide_eq_decide.2 ⟨fun x => by omega, fun x => by omega⟩]
      exact h
end
section
variable {H : Hp}
theorem a4s (hT : TabsH H) (hE : ErrH H) {s : ByteArray} (hs : s.size ≤ 1048576) {K : Bool → Hp → Prop} (h : ∀ H', Hle H H' → K true H') : y8 s H K := by
  have hb : s.size ≤ big := by simp only [big]; omega
  refine N8 _ ?_
  unfold A0
  refine a4W hT hE fun H1 h1 => ?_
  refine E0 (wordS s) (fun _ K' hk => a0G hk) ?_
  refine E0 (wordS s) (fun _ K' hk => a1X hk) ?_
  refine E0 (nameS s) (fun _ K' hk => a5w (hT.le h1) hb hk) ?_
  refine E0 (nameS s) (fun _ K' hk => a5a hb hk) ?_
  rw [if_pos rfl]
  have e : (true && (wordS s == wordS s)) = true := by cases wordS s <;> rfl
  rw [if_pos e, e]
  have e2 : (true && (nameS s == nameS s)) = true := by cases nameS s <;> rfl
  rw [e2]
  exact h _ h1
end
end Go.Proofs.YthklmeihgmcljaaDoor
