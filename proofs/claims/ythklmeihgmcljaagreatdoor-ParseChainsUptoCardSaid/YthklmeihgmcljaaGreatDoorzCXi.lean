/- Parsing: the text of a sum of sevens, its tokens, and what they are read as. Plain. -/
import Derived.Test.YthklmeihgmcljaaGreatDoorzCXg
namespace Go.Proofs.YthklmeihgmcljaaGreatDoor
open Go.RowKit
set_option maxRecDepth 100000
set_option maxHeartbeats 1000000
def rep (n : Nat) (g : List Pc) : List Pc := (List.replicate n g).flatten
theorem a7e (n : Nat) (g : List Pc) : rep (n + 1) g = g ++ rep n g := by unfold rep; rw [List.replicate_succ, List.flatten_cons]
theorem b9U (n : Nat) (g : List Pc) : rep (n + 1) g = rep n g ++ g := by unfold rep; rw [List.replicate_succ', List.flatten_append]; simp
theorem c2k (n : Nat) (g : List Pc) : (rep n g).length = n * g.length := by
 induction n with
 | zero => rw [Nat.zero_mul]; rfl
 | succ n ih => rw [a7e, List.length_append, ih, Nat.succ_mul]; omega
theorem b8B (n : Nat) (g : List Pc) : (byts (rep n g)).length = n * (byts g).length := by
 induction n with
 | zero => rw [Nat.zero_mul]; rfl
 | succ n ih => rw [a7e, a7d, List.length_append, ih, Nat.succ_mul]; omega
theorem b4P {n : Nat} {g : List Pc} (hg : byts g ≠ []) : (byts (rep (n + 1) g)).head? = (byts g).head? := by
 rw [a7e, a7d, List.head?_append]
 cases h : byts g with
 | nil => exact absurd h hg
 | cons c l => rfl
theorem b6h {d : Option UInt8} {g : List Pc} (hg : byts g ≠ []) (h1 : okT (byts g).head? g = true) (h2 : okT d g = true) : ∀ n, okT d (rep n g) = true
 | 0 => rfl
 | n + 1 => by
  rw [a7e, b2i, b6h hg h1 h2 n, Bool.and_true]
  cases n with
  | zero => exact h2
  | succ n =>
   rw [b4P hg]
   cases h : (byts g).head? with
   | none => exact absurd (List.head?_eq_none_iff.1 h) hg
   | some c => rw [h] at h1; exact h1
abbrev b1e (c : UInt8) : List Pc := [.sp, .sg c, .sp, .dg 55]
abbrev sumPc (c : UInt8) (m : Nat) : List Pc := [.dg 55] ++ rep m (b1e c)
section
variable {c : UInt8} (hc : c = 43 ∨ c = 45)
include hc
theorem c2l (m : Nat) : okT none (sumPc c m) = true := by
 have h2 : okT none (b1e c) = true := by rcases hc with rfl | rfl <;> decide
 have h1 : okT (byts (b1e c)).head? (b1e c) = true := by rcases hc with rfl | rfl <;> decide
 rw [sumPc, b2i, b6h (by show (32 :: _ : List UInt8) ≠ []; exact List.cons_ne_nil _ _) h1 h2, Bool.and_true]
 cases m with
 | zero => rfl
 | succ m =>
  rw [b4P (by show (32 :: _ : List UInt8) ≠ []; exact List.cons_ne_nil _ _)]
  rfl
end
theorem b4Q (c : UInt8) : ∀ (m p : Nat), ∃ (ps : List (Tok × Tok)) (e : Tok), (tks p (rep m (b1e c))).map tkv = pairs ps e ∧ ps.length = m ∧ (∀ q ∈ ps, isSgn ⟨#[c]⟩ q.1 ∧ a4r q.2) ∧ e.f7 = 5
 | 0, p => ⟨[], tkv ⟨5, ⟨#[]⟩, 0, (1, (p : Int) + 1)⟩, rfl, rfl, fun _ h => (by cases h), rfl⟩
 | m + 1, p => by
  obtain ⟨ps, e, h1, h2, h3, h4⟩ := b4Q c m (p + 1 + 1 + 1 + 1)
  refine ⟨(tkv ⟨4, ⟨#[c]⟩, 0, (1, ((p + 1 : Nat) : Int) + 1)⟩, tkv ⟨2, ⟨#[55]⟩, ((55 : UInt8).toNat : Int) - 48, (1, ((p + 1 + 1 + 1 : Nat) : Int) + 1)⟩) :: ps, e, ?_, ?_, ?_, h4⟩
  ·rw [a6B, ← h1, a7e]
   rfl
  ·rw [List.length_cons, h2]
  ·intro q hq
   rcases List.mem_cons.1 hq with rfl | hq
   ·exact ⟨⟨rfl, rfl⟩, rfl, rfl⟩
   ·exact h3 q hq
abbrev sumB (c : UInt8) (m : Nat) : ByteArray := ⟨(byts (sumPc c m)).toArray⟩
theorem b0m (c : UInt8) (m : Nat) : (sumB c m).size = 1 + m * 4 := by
 show (⟨(byts (sumPc c m)).toArray⟩ : ByteArray).size = _
 rw [b0l, a7d, List.length_append, b8B]
 rfl
theorem b2S (c : UInt8) (m : Nat) : sumB c m ++ ⟨#[32, c, 32]⟩ ++ ⟨#[55]⟩ = sumB c (m + 1) := by
 show (⟨(byts (sumPc c m)).toArray⟩ ++ ⟨([32, c, 32] : List UInt8).toArray⟩ ++ ⟨([55] : List UInt8).toArray⟩ : ByteArray) = _
 rw [b4N, b4N]
 have : byts (sumPc c (m + 1)) = byts (sumPc c m) ++ [32, c, 32] ++ [55] := by
  rw [sumPc, b9U, ← List.append_assoc, a7d]
  rw [List.append_assoc (byts _)]
  rfl
 rw [← this]
theorem c2m {c : UInt8} {k : Int} (hk : (c = 43 ∧ k = 6) ∨ (c = 45 ∧ k = 7)) {m : Nat} (hm : m ≤ 299) : ∃ q, ansR (exprP 40) (fun t => toldS [t]) (sumB c m) = if m + 1 ≤ 64 then .ok (X7 k m e7) else .error (41, q) := by
 have hc : c = 43 ∨ c = 45 := by rcases hk with ⟨q, _⟩ | ⟨q, _⟩ <;> simp [q]
 have hl : (sumPc c m).length ≤ 32768 := by rw [List.length_append, c2k]; show 1 + m * 4 ≤ _; omega
 have hz : (byts (sumPc c m)).length ≤ 65536 := by rw [← b0l, show (⟨(byts (sumPc c m)).toArray⟩ : ByteArray).size = 1 + m * 4 from b0m c m]; omega
 obtain ⟨ps, e, h1, h2, h3, h4⟩ := b4Q c m 1
 have ht := c2j (c2l hc m) hl hz
 have e1 : toks (sumB c m) = tkv ⟨2, ⟨#[55]⟩, ((55 : UInt8).toNat : Int) - 48, (1, ((0 : Nat) : Int) + 1)⟩ :: pairs ps e := by
  rw [← h1]
  show (tkS ⟨(byts (sumPc c m)).toArray⟩).1.map tkv = _
  rw [ht]
  rfl
 refine ⟨e.fAt, ?_⟩
 unfold ansR
 rw [show (tkS (sumB c m)).2.2 = 0 by rw [ht], if_pos rfl, e1]
 have hk' : ((⟨#[c]⟩ : ByteArray) = ⟨#[43]⟩ ∧ k = 6) ∨ ((⟨#[c]⟩ : ByteArray) = ⟨#[45]⟩ ∧ k = 7) := by
  rcases hk with ⟨rfl, q⟩ | ⟨rfl, q⟩
  ·exact .inl ⟨rfl, q⟩
  ·exact .inr ⟨rfl, q⟩
 have := c5p hk' (t := tkv ⟨2, ⟨#[55]⟩, ((55 : UInt8).toNat : Int) - 48, (1, ((0 : Nat) : Int) + 1)⟩) ⟨rfl, rfl⟩ h4 h3 (by omega)
 rw [this, h2]
theorem b2k {H : Hp} {e : b7} {k n : Int} {nm : ByteArray} {ts : List PT} (h : EH H e (eX k n nm ts)) : e.f7 = k ∧ e.N6 = n ∧ ∃ xs, SlH H 4 c8 e.E4 xs ∧ u5 (EH H) xs ts := by
 generalize ht : eX k n nm ts = t at h
 cases h with
 | mk a b c d =>
  unfold eX at ht
  injection ht with h1 h2
  injection h1 with q1 q2
  subst h2
  exact ⟨q1.symm, q2.symm, _, a, c, d⟩
theorem c5r {H : Hp} {e : b7} {k n : Int} {nm : ByteArray} {a b : PT} (h : EH H e (eX k n nm [a, b])) : e.f7 = k ∧ e.E4.n = 2 ∧ ∃ x y, EltH H e.E4 0 4 (c8 x) ∧ EltH H e.E4 1 4 (c8 y) ∧ EH H x a ∧ EH H y b := by
 obtain ⟨h1, _, xs, h3, h4, h5⟩ := b2k h
 have hl : xs.length = 2 := h4
 obtain ⟨x, y, rfl⟩ : ∃ x y, xs = [x, y] := by
  match xs, hl with
  | [x, y], _ => exact ⟨x, y, rfl⟩
 exact ⟨h1, by rw [h3.1]; rfl, x, y, h3.2 0 x rfl, h3.2 1 y rfl, h5 0 x a rfl rfl, h5 1 y b rfl rfl⟩
section
variable {H : Hp} (hT : TabsH H) (hE : ErrH H)
include hT hE
theorem b2l {n : Int} {mi : Bool} (_ : -9223372036854775808 ≤ n ∧ n ≤ 9223372036854775807) {K : Bool → Hp → Prop} (h : ∀ H', Hle H H' → K true H') : X0 n mi H K := by
 refine a4R _ _ (b8w hT hE fun H1 l1 => ⟨fun q => (by cases q), fun _ => ⟨fun _ => h _ l1, fun cn => ?_⟩⟩)
 simp only [Bool.or_eq_false_iff, decide_eq_false_iff_not] at cn
 obtain ⟨N, rfl⟩ : ∃ N : Nat, n = N := ⟨n.toNat, by omega⟩
 have core : ∀ (c : UInt8) (k : Int), (c = 43 ∧ k = 6) ∨ (c = 45 ∧ k = 7) → E5 N k ⟨#[32, c, 32]⟩ H1 K := by
  intro c k hk
  unfold E5
  refine Q5 (fun (z : ByteArray × Int) H' => H' = H1 ∧ ∃ m : Nat, z = (sumB c m, (m : Int) + 1) ∧ m + 1 ≤ N) (fun z => (N - z.2).toNat) ⟨rfl, 0, rfl, by omega⟩ ?_
  rintro z H2 next ⟨rfl, m, rfl, hm⟩ hn
  unfold P7
  dsimp only
  have z0 := b0m c m
  have z1 := b0m c (m + 1)
  rw [← b2S] at z1
  refine ⟨fun c1 => ⟨?_, ?_, ?_⟩, fun c1 => ?_⟩
  ·have z3 : (⟨#[32, c, 32]⟩ : ByteArray).size = 3 := rfl
   omega
  ·rw [ByteArray.size_append] at z1
   omega
  ·rw [U7 ⟨by omega, by omega⟩]
   refine hn _ _ ⟨rfl, m + 1, Prod.ext (b2S c m) (by dsimp only; omega), by omega⟩ (by dsimp only; omega)
  ·obtain rfl : N = m + 1 := by omega
   unfold P6
   obtain ⟨q, hq⟩ := c2m hk (m := m) (by omega)
   refine b9Q (hT.le l1) (hE.le l1) (by omega) ?_
   rw [hq]
   by_cases c64 : m + 1 ≤ 64
   ·rw [if_pos c64]
    intro H3 v l3 hv
    refine ⟨fun c2 => absurd c2 (by omega), fun _ => ?_⟩
    refine Q5 (fun (z : Int × b7) H' => H' = H3 ∧ ∃ j : Nat, z.1 = (j : Int) + 1 ∧ j ≤ m ∧ EH H3 z.2 (X7 k j e7)) (fun z => z.1.toNat) ⟨rfl, m, by dsimp only; omega, Nat.le_refl _, hv⟩ ?_
    rintro ⟨i, x⟩ H4 next2 ⟨rfl, j, hj, hjm, hx⟩ hn2
    have hj : i = (j : Int) + 1 := hj
    subst hj
    unfold P5
    dsimp only at hx ⊢
    refine ⟨fun c2 => ?_, fun c2 => ?_⟩
    ·obtain ⟨j, rfl⟩ : ∃ i, j = i + 1 := ⟨j - 1, by omega⟩
     obtain ⟨x1, x2, y, z, x3, x4, x5, x6⟩ := c5r (show EH H4 x (eX k 0 ⟨#[]⟩ [X7 k j e7, e7]) from hx)
     obtain ⟨y1, y2, _⟩ := b2k (show EH H4 z (eX 1 7 ⟨#[]⟩ []) from x6)
     rw [x1, x2]
     refine ⟨z, fun _ => ⟨by decide, by decide, x4⟩, ?_⟩
     rw [y1]
     refine ⟨z, fun _ => ⟨by decide, by decide, x4⟩, ?_⟩
     rw [y2]
     refine ⟨fun c3 => by simp at c3, fun _ => ⟨by decide, by decide, y, x3, ?_⟩⟩
     rw [U7 ⟨by omega, by omega⟩]
     exact hn2 _ _ ⟨rfl, j, by dsimp only; omega, by omega, x5⟩ (by dsimp only; omega)
    ·obtain rfl : j = 0 := by omega
     obtain ⟨y1, y2, _⟩ := b2k (show EH H4 x (eX 1 7 ⟨#[]⟩ []) from hx)
     unfold P4
     rw [y1, y2]
     exact h _ (l1.trans l3)
   ·rw [if_neg c64]
    intro H3 l3
    exact ⟨fun _ => h _ (l1.trans l3), fun c2 => absurd c2 (by omega)⟩
 exact ⟨fun _ => core 45 7 (.inr ⟨rfl, rfl⟩), fun _ => core 43 6 (.inl ⟨rfl, rfl⟩)⟩
end
end Go.Proofs.YthklmeihgmcljaaGreatDoor
