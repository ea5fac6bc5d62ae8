/- Pieces of a text in ASCII (signs, digits, words, blanks) and its tokens. Plain. -/
import Derived.Test.YthklmeihgmcljaaGreatDoorzNXe
namespace Go.Proofs.YthklmeihgmcljaaGreatDoor
open Go.RowKit
set_option maxRecDepth 100000
set_option maxHeartbeats 1000000
def Dr (s : ByteArray) (p : Nat) (l : List UInt8) : Prop := s.data.toList.drop p = l
section
variable {s : ByteArray}
theorem Dr.cons {p : Nat} {c : UInt8} {l : List UInt8} (h : Dr s p (c :: l)) : p < s.size ∧ s.get! p = c ∧ Dr s (p + 1) l := by
 unfold Dr at h ⊢
 have hp : p < s.size := by
  rcases Nat.lt_or_ge p s.size with q | q
  ·exact q
  ·rw [List.drop_eq_nil_of_le (by rw [Array.length_toList]; exact q)] at h; cases h
 rw [a5D hp] at h
 injection h with h1 h2
 exact ⟨hp, h1, h2⟩
theorem Dr.app : ∀ (l r : List UInt8) {p : Nat}, Dr s p (l ++ r) → Dr s (p + l.length) r
 | [], _, _, h => h
 | c :: l, r, p, h => by
  have := Dr.app l r h.cons.2.2
  rw [List.length_cons, show p + (l.length + 1) = p + 1 + l.length by omega]
  exact this
theorem Dr.nil {p : Nat} (h : Dr s p []) : s.size ≤ p := by
 unfold Dr at h
 have := congrArg List.length h
 rw [List.length_drop, Array.length_toList, List.length_nil] at this
 have e : s.data.size = s.size := rfl
 omega
theorem Dr.le {p : Nat} {l : List UInt8} (h : Dr s p l) (hp : p ≤ s.size) : p + l.length = s.size := by
 unfold Dr at h
 have := congrArg List.length h
 rw [List.length_drop, Array.length_toList] at this
 have e : s.data.size = s.size := rfl
 omega
theorem Dr.asc {p : Nat} {c : UInt8} {l : List UInt8} (h : Dr s p (c :: l)) (hc : c.toNat < 128) : rn s p = (c.toNat : Int) ∧ wd s p = 1 := by
 have h1 := h.cons.2.1
 have := a5i (s := s) (p := p) (by unfold by8; rw [h1]; exact hc)
 unfold by8 at this
 rw [h1] at this
 exact this
theorem Dr.by8 {p : Nat} {c : UInt8} {l : List UInt8} (h : Dr s p (c :: l)) : by8 s p = c.toNat := by
 show (s.get! p).toNat = _
 rw [h.cons.2.1]
theorem chkN {p : Nat} (hp : p < s.size) (h : rn s p ≠ 65533) : chkAt s p = chkAt s (p + wd s p) := by
 rw [a8j s p hp, if_neg (fun x => h (by show ((Utf8.decode s p).1 : Int) = 65533; rw [x.1]; rfl))]
theorem Dr.cut (w : List UInt8) {r : List UInt8} {p : Nat} (h : Dr s p (w ++ r)) : s.extract p (p + w.length) = ⟨w.toArray⟩ := by
 apply ByteArray.ext
 apply Array.toList_inj.1
 rw [a2Y, show p + w.length - p = w.length by omega]
 have : s.data.toList.drop p = w ++ r := h
 rw [this, List.take_left']
 rfl
def lineL (w : List UInt8) : Bool := w.all fun c => decide (c.toNat < 128) && !decide (c.toNat = 10)
theorem b6a : ∀ (w : List UInt8) {r : List UInt8} {p : Nat} {a : Int × Int}, lineL w = true → Dr s p (w ++ r) → Go2 s p a (p + w.length) (a.1, a.2 + w.length) ∧ chkAt s p = chkAt s (p + w.length)
 | [], r, p, a, _, h => by
  refine ⟨?_, rfl⟩
  rw [show (a.1, a.2 + (([] : List UInt8).length : Int)) = a from Prod.ext rfl (by simp)]
  exact .refl
 | c :: w, r, p, a, hw, h => by
  unfold lineL at hw
  rw [List.all_cons, Bool.and_eq_true, Bool.and_eq_true, decide_eq_true_eq, Bool.not_eq_true', decide_eq_false_iff_not] at hw
  obtain ⟨⟨w1, w2⟩, w3⟩ := hw
  obtain ⟨p0, _, h1⟩ := h.cons
  obtain ⟨r0, w0⟩ := h.asc w1
  have g0 := Go2.one (s := s) (a := a) p0
  rw [w0, r0] at g0
  have e : stepP a (c.toNat : Int) = (a.1, a.2 + 1) := by unfold stepP; rw [if_neg (by omega)]
  rw [e] at g0
  obtain ⟨i1, i2⟩ := b6a w (a := (a.1, a.2 + 1)) w3 h1
  rw [show p + (c :: w).length = p + 1 + w.length by rw [List.length_cons]; omega]
  refine ⟨?_, ?_⟩
  ·have := g0.trans i1
   rw [show ((a.1, a.2 + 1) : Int × Int).2 + (w.length : Int) = a.2 + ((c :: w).length : Int) by rw [List.length_cons]; show a.2 + 1 + (w.length : Int) = _; omega] at this
   exact this
  ·rw [chkN p0 (by rw [r0]; omega), w0]; exact i2
end
theorem b9H (a b : List UInt8) : (⟨a.toArray⟩ ++ ⟨b.toArray⟩ : ByteArray) = ⟨(a ++ b).toArray⟩ := by
 apply ByteArray.ext
 simp [ByteArray.data_append]
theorem b4C (l : List UInt8) : (⟨l.toArray⟩ : ByteArray).size = l.length := by show l.toArray.size = _; simp
inductive Pc where
 | sg (c : UInt8)
 | dg (c : UInt8)
 | wd (w : List UInt8) (k : Int)
 | sp
def Pc.by_ : Pc → List UInt8
 | .sg c => [c]
 | .dg c => [c]
 | .wd w _ => w
 | .sp => [32]
def byts (l : List Pc) : List UInt8 := l.flatMap Pc.by_
def Pc.tk (p : Nat) : Pc → List Tk
 | .sg c => [⟨4, ⟨#[c]⟩, 0, (1, (p : Int) + 1)⟩]
 | .dg c => [⟨2, ⟨#[c]⟩, (c.toNat : Int) - 48, (1, (p : Int) + 1)⟩]
 | .wd w k => [⟨k, ⟨w.toArray⟩, 0, (1, (p : Int) + 1)⟩]
 | .sp => []
def tks (p : Nat) : List Pc → List Tk
 | [] => [⟨5, ⟨#[]⟩, 0, (1, (p : Int) + 1)⟩]
 | a :: l => a.tk p ++ tks (p + a.by_.length) l
def offB (d : Option UInt8) : Bool := match d with
 | none => true
 | some c => decide (c.toNat < 128) && !goesS c.toNat
def Pc.ok (d : Option UInt8) : Pc → Bool
 | .sg c => (decide (c.toNat < 128) && decide (classS c.toNat = 5)) && ((!decide (c.toNat = 38) && !decide (c.toNat = 124)) && !decide (d = some 61))
 | .dg c => (decide (48 ≤ c.toNat) && decide (c.toNat ≤ 57)) && offB d
 | .wd w k => ((lineL w && w.all fun c => goesS c.toNat) && (decide (w.length ≤ 32) && decide (classS (w.headD 0).toNat = 3))) && (decide (k = if wordS ⟨w.toArray⟩ then 3 else 1) && offB d)
 | .sp => true
def okT (d : Option UInt8) : List Pc → Bool
 | [] => true
 | a :: l => a.ok ((byts l).head?.or d) && okT d l
theorem b2J (a : Pc) (l : List Pc) : byts (a :: l) = a.by_ ++ byts l := by unfold byts; rw [List.flatMap_cons]
theorem a2u (a b : List Pc) : byts (a ++ b) = byts a ++ byts b := by unfold byts; rw [List.flatMap_append]
theorem a6D (d : Option UInt8) (b : List Pc) : ∀ a : List Pc, okT d (a ++ b) = (okT ((byts b).head?.or d) a && okT d b)
 | [] => by show okT d b = (true && okT d b); rw [Bool.true_and]
 | x :: a => by
  show (x.ok ((byts (a ++ b)).head?.or d) && okT d (a ++ b)) = ((x.ok ((byts a).head?.or ((byts b).head?.or d)) && okT ((byts b).head?.or d) a) && okT d b)
  rw [a6D d b a, a2u, List.head?_append, Option.or_assoc, Bool.and_assoc]
section
variable {s : ByteArray}
theorem b4D {p : Nat} {r : List UInt8} (h : Dr s p r) (ho : offB r.head? = true) (hp : p ≤ s.size) : ¬ (p < s.size ∧ goesS (rn s p) = true) ∧ ¬ (p < s.size ∧ 48 ≤ by8 s p ∧ by8 s p ≤ 57) ∧ ¬ (p < s.size ∧ classS (rn s p) = 3) := by
 cases r with
 | nil =>
  have := h.nil
  exact ⟨fun x => by omega, fun x => by omega, fun x => by omega⟩
 | cons c r =>
  have ho : (decide (c.toNat < 128) && !goesS c.toNat) = true := ho
  rw [Bool.and_eq_true, decide_eq_true_eq, Bool.not_eq_true'] at ho
  obtain ⟨o1, o2⟩ := ho
  have r0 := (h.asc o1).1
  have hb := h.by8
  have o3 := o2
  unfold goesS at o3
  rw [Bool.or_eq_false_iff, decide_eq_false_iff_not, decide_eq_false_iff_not] at o3
  refine ⟨fun x => ?_, fun x => ?_, fun x => ?_⟩
  ·rw [r0, o2] at x; exact absurd x.2 (by decide)
  ·have x2 := x.2
   rw [hb] at x2
   refine o3.2 ?_
   have hall : ∀ n : Nat, n < 58 → 48 ≤ n → classS (n : Int) = 4 := by decide
   exact hall _ (by omega) x2.1
  ·rw [r0] at x; exact o3.1 x.2
theorem c5b {a : Pc} {r : List UInt8} {p : Nat} (h : Dr s p (a.by_ ++ r)) (hp : p ≤ s.size) (ho : a.ok r.head? = true) : lineL a.by_ = true ∧ ((a = .sp ∧ sk s p = sk s (p + 1)) ∨
  ∃ k x n, a.tk p = [⟨k, x, n, (1, (p : Int) + 1)⟩] ∧ p < s.size ∧ 1 ≤ a.by_.length ∧ sk s p = p ∧ oneO s p = ⟨k, x, n, p + a.by_.length, 0⟩) := by
 have hend := Dr.app _ _ h
 have hsz := h.le hp
 rw [List.length_append] at hsz
 have nosk : ∀ {c : UInt8} {l : List UInt8}, Dr s p (c :: l) → c.toNat < 128 → (classS c.toNat = 3 ∨ classS c.toNat = 4 ∨ classS c.toNat = 5) → sk s p = p := by
  intro c l hd hc hcl
  have r0 := (hd.asc hc).1
  refine a2E (.inr ⟨fun e => ?_, ?_⟩)
  ·rw [hd.by8] at e
   rw [e] at hcl
   revert hcl
   decide
  ·unfold blankS
   rw [r0]
   rcases hcl with e | e | e <;> rw [e] <;> rfl
 cases a with
 | sp =>
  refine ⟨rfl, .inl ⟨rfl, ?_⟩⟩
  have h : Dr s p (32 :: r) := h
  obtain ⟨r0, w0⟩ := h.asc (by decide)
  rw [a8l h.cons.1 (by rw [h.by8]; decide) (by rw [r0]; decide), w0]
 | sg c =>
  have h : Dr s p (c :: r) := h
  have ho : ((decide (c.toNat < 128) && decide (classS c.toNat = 5)) && ((!decide (c.toNat = 38) && !decide (c.toNat = 124)) && !decide (r.head? = some 61))) = true := ho
  simp only [Bool.and_eq_true, decide_eq_true_eq, Bool.not_eq_true', decide_eq_false_iff_not] at ho
  obtain ⟨⟨o1, o2⟩, ⟨o3, o4⟩, o5⟩ := ho
  obtain ⟨p0, _, h1⟩ := h.cons
  obtain ⟨r0, w0⟩ := h.asc o1
  have n10 : c.toNat ≠ 10 := fun e => by rw [e] at o2; exact absurd o2 (by decide)
  refine ⟨by show (decide (c.toNat < 128) && !decide (c.toNat = 10)) && true = true; rw [decide_eq_true o1, decide_eq_false n10]; rfl, .inr ⟨_, _, _, rfl, p0, Nat.le_refl _, nosk h o1 (.inr (.inr o2)), ?_⟩⟩
  have b0 := h.by8
  have t0 : ¬ two s p := fun x => by
   unfold two at x
   obtain ⟨x1, x2⟩ := x
   have b1 : by8 s (p + 1) ≠ 61 := fun e => by
    cases r with
    | nil => have := h1.nil; omega
    | cons d r =>
     rw [h1.by8] at e
     exact o5 (by show some d = some 61; rw [show d = 61 from UInt8.toNat_inj.1 e])
   omega
  have e1 := Dr.cut [c] h
  unfold oneO
  rw [r0, o2, if_neg (by decide), if_neg (by decide), if_pos rfl]
  unfold signO
  rw [if_neg t0, if_neg (by omega), show p + 1 = p + [c].length from rfl, e1]
  rfl
 | dg c =>
  have h : Dr s p (c :: r) := h
  have ho : ((decide (48 ≤ c.toNat) && decide (c.toNat ≤ 57)) && offB r.head?) = true := ho
  simp only [Bool.and_eq_true, decide_eq_true_eq] at ho
  obtain ⟨⟨o1, o2⟩, o3⟩ := ho
  obtain ⟨p0, _, h1⟩ := h.cons
  obtain ⟨r0, w0⟩ := h.asc (show c.toNat < 128 by omega)
  have hall : ∀ n : Nat, n < 58 → 48 ≤ n → classS (n : Int) = 4 := by decide
  have o4 := hall c.toNat (by omega) o1
  refine ⟨by show (decide (c.toNat < 128) && !decide (c.toNat = 10)) && true = true; rw [decide_eq_true (show c.toNat < 128 by omega), decide_eq_false (show ¬ c.toNat = 10 by omega)]; rfl, .inr ⟨_, _, _, rfl, p0, Nat.le_refl _, nosk h (by omega) (.inr (.inl o4)), ?_⟩⟩
  have b0 := h.by8
  obtain ⟨_, s2, s3⟩ := b4D h1 o3 (by omega)
  have e1 := Dr.cut [c] h
  have hdg : dg s p 0 = (p + 1, c.toNat - 48) := by rw [a9t p0 (by rw [b0]; exact ⟨o1, o2⟩), b1U s2, b0, Nat.zero_mul, Nat.zero_add]
  unfold oneO
  rw [r0, o4, if_neg (by decide), if_pos rfl]
  unfold numO
  rw [hdg]
  dsimp only
  rw [if_neg (by rintro (x | x | x) <;> first | exact s3 x | omega), show p + 1 = p + [c].length from rfl, e1, show ((c.toNat - 48 : Nat) : Int) = (c.toNat : Int) - 48 by omega]
  rfl
 | wd w k =>
  have h : Dr s p (w ++ r) := h
  have hend : Dr s (p + w.length) r := hend
  have hsz : p + (w.length + r.length) = s.size := hsz
  have ho : (((lineL w && w.all fun c => goesS c.toNat) && (decide (w.length ≤ 32) && decide (classS (w.headD 0).toNat = 3))) && (decide (k = if wordS ⟨w.toArray⟩ then 3 else 1) && offB r.head?)) = true := ho
  simp only [Bool.and_eq_true, decide_eq_true_eq] at ho
  obtain ⟨⟨⟨o1, o2⟩, o3, o4⟩, o5, o6⟩ := ho
  refine ⟨o1, .inr ⟨_, _, _, rfl, ?_⟩⟩
  obtain ⟨s1, _, _⟩ := b4D hend o6 (by omega)
  have e1 := Dr.cut w h
  have run : ∀ (v : List UInt8) {q : Nat} (a : Int × Int) (m : Nat), Dr s q (v ++ r) → q + v.length = p + w.length → lineL v = true → (v.all fun c => goesS c.toNat) = true → (Wr s goesS q a).1 = p + w.length ∧ cnt s goesS q m = m + v.length := by
   intro v
   induction v with
   | nil =>
    intro q a m _ e _ _
    have e : q = p + w.length := e
    subst e
    rw [V5 s1, b0b s1]
    exact ⟨rfl, rfl⟩
   | cons c v ih =>
    intro q a m hd e hl hg
    unfold lineL at hl
    rw [List.all_cons, Bool.and_eq_true, Bool.and_eq_true, decide_eq_true_eq] at hl
    rw [List.all_cons, Bool.and_eq_true] at hg
    obtain ⟨q0, _, hd1⟩ := hd.cons
    obtain ⟨r0, w0⟩ := hd.asc hl.1.1
    rw [List.length_cons] at e
    obtain ⟨i1, i2⟩ := ih (q := q + 1) (stepP a (rn s q)) (m + 1) hd1 (by omega) hl.2 hg.2
    rw [a1Z q0 (by rw [r0]; exact hg.1), w0, b4b q0 (by rw [r0]; exact hg.1), w0, List.length_cons]
    exact ⟨i1, by rw [i2]; omega⟩
  obtain ⟨r1, r2⟩ := run w (0, 0) 0 h rfl o1 o2
  cases w with
  | nil => exact absurd o4 (by decide)
  | cons c w =>
   have o4 : classS c.toNat = 3 := o4
   have o1' := o1
   unfold lineL at o1'
   rw [List.all_cons, Bool.and_eq_true, Bool.and_eq_true, decide_eq_true_eq] at o1'
   obtain ⟨r0, _⟩ := Dr.asc (l := w ++ r) h o1'.1.1
   refine ⟨(Dr.cons (l := w ++ r) h).1, by show 1 ≤ (c :: w).length; rw [List.length_cons]; omega, nosk (l := w ++ r) h o1'.1.1 (.inl o4), ?_⟩
   unfold oneO
   rw [r0, if_pos o4]
   unfold wordO
   rw [r1, r2, e1, if_neg (by omega : ¬ 32 < 0 + (c :: w).length), o5]
   split <;> rfl
theorem b2c : ∀ (l : List Pc) (f p x : Nat) (a : Int × Int) (out : List Tk), okT none l = true → Dr s p (byts l) → p ≤ s.size → x ≤ p → sk s x = sk s p → Go2 s x a p (1, (p : Int) + 1) → s.size + 1 - x ≤ f → out.length + l.length ≤ 32768 →
  chkAt s p = none ∧ tkF s f x a out = (out ++ tks p l, (0, 0), 0)
 | [], f, p, x, a, out, _, h, hp, hx, hs, hg, hf, _ => by
  have hend := h.nil
  refine ⟨a7k s _ hend, ?_⟩
  obtain ⟨f, rfl⟩ : ∃ g, f = g + 1 := ⟨f - 1, by omega⟩
  rw [tkF, hs, a2E (.inl (by omega)), if_pos (by omega), a9v hg]
  rfl
 | b :: l, f, p, x, a, out, ho, h, hp, hx, hs, hg, hf, hl => by
  rw [b2J] at h
  have ho : (b.ok ((byts l).head?.or none) && okT none l) = true := ho
  rw [Bool.and_eq_true, Option.or_none] at ho
  obtain ⟨o1, o2⟩ := c5b h hp ho.1
  have hd2 := Dr.app _ _ h
  have hsz := h.le hp
  rw [List.length_append] at hsz
  obtain ⟨g1, g2⟩ := b6a b.by_ (a := (1, (p : Int) + 1)) o1 h
  have e1 : ((1, (p : Int) + 1) : Int × Int).2 + (b.by_.length : Int) = ((p + b.by_.length : Nat) : Int) + 1 := by show (p : Int) + 1 + (b.by_.length : Int) = _; omega
  rw [e1] at g1
  rw [List.length_cons] at hl
  rcases o2 with ⟨rfl, o2⟩ | ⟨k, tx, n, o2, o3, o4, o5, o6⟩
  ·obtain ⟨i1, i2⟩ := b2c l f (p + 1) x a out ho.2 hd2 (by have : Pc.sp.by_.length = 1 := rfl; omega) (by omega) (by rw [hs, o2]) (hg.trans g1) hf (by omega)
   exact ⟨by rw [g2]; exact i1, i2⟩
  ·obtain ⟨f, rfl⟩ : ∃ g, f = g + 1 := ⟨f - 1, by omega⟩
   obtain ⟨i1, i2⟩ := b2c l f (p + b.by_.length) (p + b.by_.length) (1, ((p + b.by_.length : Nat) : Int) + 1) (out ++ [⟨k, tx, n, (1, (p : Int) + 1)⟩]) ho.2 hd2 (by omega) (Nat.le_refl _) rfl .refl (by omega) (by rw [List.length_append, List.length_singleton]; omega)
   refine ⟨by rw [g2]; exact i1, ?_⟩
   rw [tkF, hs, o5, if_neg (by omega), if_neg (by omega), o6, a9v hg]
   dsimp only
   rw [if_neg (by decide), a9v g1, i2, List.append_assoc]
   congr 2
   show _ = b.tk p ++ _
   rw [o2]
theorem c1T {l : List Pc} (ho : okT none l = true) (hl : l.length ≤ 32768) (hz : (byts l).length ≤ 65536) : tkS ⟨(byts l).toArray⟩ = (tks 0 l, (0, 0), 0) := by
 have hd : Dr ⟨(byts l).toArray⟩ 0 (byts l) := rfl
 have hs := b4C (byts l)
 generalize (⟨(byts l).toArray⟩ : ByteArray) = s at hd hs
 obtain ⟨h1, h2⟩ := b2c l (s.size + 1) 0 0 (1, 1) [] ho hd (Nat.zero_le _) (Nat.le_refl _) rfl .refl (by omega) (by rw [List.length_nil]; omega)
 unfold tkS
 rw [if_neg (by omega), h1]
 dsimp only
 rw [h2]
 rfl
end
end Go.Proofs.YthklmeihgmcljaaGreatDoor
