/- Tokens: the plain reader. No program in sight. -/
import Derived.Test.YthklmeihgmcljaaDoorzAM4
namespace Go.Proofs.YthklmeihgmcljaaDoor
open Go.RowKit
set_option maxRecDepth 100000
set_option maxHeartbeats 1000000
structure Tk where
  kind : Int
  text : ByteArray
  num : Int
  at_ : Int × Int
structure On where
  kind : Int
  text : ByteArray
  num : Int
  stop : Nat
  err : Int
def On.bad (e : Int) : On := ⟨0, ⟨#[]⟩, 0, 0, e⟩
section
variable (s : ByteArray)
def two (p : Nat) : Prop := p + 1 < s.size ∧ ((by8 s p = 61 ∧ by8 s (p + 1) = 61) ∨ (by8 s p = 33 ∧ by8 s (p + 1) = 61) ∨ (by8 s p = 60 ∧ by8 s (p + 1) = 61) ∨ (by8 s p = 62 ∧ by8 s (p + 1) = 61) ∨ (by8 s p = 38 ∧ by8 s (p + 1) = 38) ∨ (by8 s p = 124 ∧ by8 s (p + 1) = 124))
instance (p : Nat) : Decidable (two s p) := by unfold two; infer_instance
def signO (p : Nat) : On :=
  if two s p then ⟨4, s.extract p (p + 2), 0, p + 2, 0⟩
  else if by8 s p = 38 ∨ by8 s p = 124 then .bad 20 else ⟨4, s.extract p (p + 1), 0, p + 1, 0⟩
def wordO (p : Nat) : On :=
  if wordS (s.extract p (Wr s goesS p (0, 0)).1) = true then ⟨3, s.extract p (Wr s goesS p (0, 0)).1, 0, (Wr s goesS p (0, 0)).1, 0⟩
  else if 32 < cnt s goesS p 0 then .bad 22 else ⟨1, s.extract p (Wr s goesS p (0, 0)).1, 0, (Wr s goesS p (0, 0)).1, 0⟩
def numO (p : Nat) : On :=
  if 9223372036854775808 ≤ (dg s p 0).2 ∨ (by8 s p = 48 ∧ 1 < (dg s p 0).1 - p) ∨ ((dg s p 0).1 < s.size ∧ classS (rn s (dg s p 0).1) = 3) then .bad 21
  else ⟨2, s.extract p (dg s p 0).1, ((dg s p 0).2 : Int), (dg s p 0).1, 0⟩
def oneO (p : Nat) : On := if classS (rn s p) = 3 then wordO s p else if classS (rn s p) = 4 then numO s p else if classS (rn s p) = 5 then signO s p else .bad 20
def mvF (z : Nat) : Nat → Nat → Int × Int → Int × Int
  | 0, _, a => a
  | f + 1, p, a => if p < z then mvF z f (p + wd s p) (stepP a (rn s p)) else a
def mv (p z : Nat) (a : Int × Int) : Int × Int := mvF s z (z - p) p a
theorem a1W (z : Nat) : ∀ (f g p : Nat) (a : Int × Int), z - p ≤ f → z - p ≤ g → mvF s z f p a = mvF s z g p a
  | 0, 0, _, _, _, _ => rfl
  | 0, g + 1, p, a, h, _ => by rw [mvF, mvF, if_neg (by omega)]
  | f + 1, 0, p, a, _, h => by rw [mvF, mvF, if_neg (by omega)]
  | f + 1, g + 1, p, a, h, h' => by
    rw [mvF, mvF]
    have := q7 s p
    split
    · rw [a1W z f g _ _ (by omega) (by omega)]
    · rfl
variable {s}
theorem a4U {p z : Nat} {a : Int × Int} (h : p < z) : mv s p z a = mv s (p + wd s p) z (stepP a (rn s p)) := by
  have := q7 s p
  obtain ⟨m, hm⟩ : ∃ m, z - p = m + 1 := ⟨z - p - 1, by omega⟩
  unfold mv
  rw [hm, mvF, if_pos h, a1W s z m (z - (p + wd s p)) _ _ (by omega) (by omega)]
theorem a0s {p z : Nat} {a : Int × Int} (h : ¬ p < z) : mv s p z a = a := by
  unfold mv
  rw [show z - p = 0 by omega, mvF]
theorem a2F {p q : Nat} {a b : Int × Int} (h : Go2 s p a q b) : mv s p q a = b := by
  induction h with
  | refl => exact a0s (Nat.lt_irrefl _)
  | @step p q a b hp h ih =>
    have h1 := h.le
    have h2 := q7 s p
    rw [a4U (by omega)]
    exact ih
variable (s)
def tkF : Nat → Nat → Int × Int → List Tk → List Tk × (Int × Int) × Int
  | 0, _, _, _ => ([], (0, 0), 0)
  | f + 1, p, a, out =>
    if ¬ sk s p < s.size then (out ++ [⟨5, ⟨#[]⟩, 0, mv s p (sk s p) a⟩], (0, 0), 0)
    else if out.length = 32768 then ([], mv s p (sk s p) a, 23)
    else if (oneO s (sk s p)).err ≠ 0 then ([], mv s p (sk s p) a, (oneO s (sk s p)).err)
    else tkF f (oneO s (sk s p)).stop (mv s (sk s p) (oneO s (sk s p)).stop (mv s p (sk s p) a)) (out ++ [⟨(oneO s (sk s p)).kind, (oneO s (sk s p)).text, (oneO s (sk s p)).num, mv s p (sk s p) a⟩])
def tkS : List Tk × (Int × Int) × Int :=
  if 65536 < s.size then ([], (1, 1), 10)
  else match chkAt s 0 with
    | some n => ([], mv s 0 n (1, 1), 11)
    | none => tkF s (s.size + 1) 0 (1, 1) []
end
end Go.Proofs.YthklmeihgmcljaaDoor
