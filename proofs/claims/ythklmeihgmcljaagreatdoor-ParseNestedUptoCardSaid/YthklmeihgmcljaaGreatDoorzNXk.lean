/- Parsing: the text of a sum of sevens, its tokens, and what they are read as. Plain. -/
import Derived.Test.YthklmeihgmcljaaGreatDoorzNXg
namespace Go.Proofs.YthklmeihgmcljaaGreatDoor
open Go.RowKit
set_option maxRecDepth 100000
set_option maxHeartbeats 1000000
def rep (n : Nat) (g : List Pc) : List Pc := (List.replicate n g).flatten
theorem a3b (n : Nat) (g : List Pc) : rep (n + 1) g = g ++ rep n g := by unfold rep; rw [List.replicate_succ, List.flatten_cons]
theorem b4E (n : Nat) (g : List Pc) : rep (n + 1) g = rep n g ++ g := by unfold rep; rw [List.replicate_succ', List.flatten_append]; simp
theorem c1U (n : Nat) (g : List Pc) : (rep n g).length = n * g.length := by
 induction n with
 | zero => rw [Nat.zero_mul]; rfl
 | succ n ih => rw [a3b, List.length_append, ih, Nat.succ_mul]; omega
theorem a7p (n : Nat) (g : List Pc) : (byts (rep n g)).length = n * (byts g).length := by
 induction n with
 | zero => rw [Nat.zero_mul]; rfl
 | succ n ih => rw [a3b, a2u, List.length_append, ih, Nat.succ_mul]; omega
theorem b4F {n : Nat} {g : List Pc} (hg : byts g ≠ []) : (byts (rep (n + 1) g)).head? = (byts g).head? := by
 rw [a3b, a2u, List.head?_append]
 cases h : byts g with
 | nil => exact absurd h hg
 | cons c l => rfl
theorem b6b {d : Option UInt8} {g : List Pc} (hg : byts g ≠ []) (h1 : okT (byts g).head? g = true) (h2 : okT d g = true) : ∀ n, okT d (rep n g) = true
 | 0 => rfl
 | n + 1 => by
  rw [a3b, a6D, b6b hg h1 h2 n, Bool.and_true]
  cases n with
  | zero => exact h2
  | succ n =>
   rw [b4F hg]
   cases h : (byts g).head? with
   | none => exact absurd (List.head?_eq_none_iff.1 h) hg
   | some c => rw [h] at h1; exact h1
section
variable {c : UInt8} (hc : c = 43 ∨ c = 45)
include hc
end
structure Fam where
 head : List Pc
 op : List Pc
 mid : List Pc
 shut : List Pc
 tail : List Pc
def Fam.all (f : Fam) (n : Nat) : List Pc := f.head ++ (rep n f.op ++ (f.mid ++ (rep n f.shut ++ f.tail)))
abbrev hdO (l : List Pc) : Option UInt8 := (byts l).head?
def Fam.ok (f : Fam) : Bool :=
 ((((okT (hdO f.op) f.head && okT (hdO f.mid) f.head) && (okT (hdO f.op) f.op && okT (hdO f.mid) f.op)) && ((okT ((hdO f.shut).or (hdO f.tail)) f.mid && okT (hdO f.tail) f.mid) && (okT (hdO f.shut) f.shut && okT (hdO f.tail) f.shut))) && okT none f.tail)
  && ((hdO f.op).isSome && (hdO f.mid).isSome)
theorem b4G {d : Option UInt8} {g : List Pc} (h1 : okT (hdO g) g = true) (h2 : okT d g = true) (hd : hdO g = none → g = []) (n : Nat) : okT d (rep n g) = true := by
 cases h : hdO g with
 | none =>
  rw [hd h]
  have : ∀ n, rep n [] = [] := fun n => by
   induction n with
   | zero => rfl
   | succ n ih => rw [a3b, ih]; rfl
  rw [this]; rfl
 | some c => exact b6b (fun e => by unfold hdO at h; rw [e] at h; cases h) h1 h2 n
theorem b9I (a b : List Pc) : hdO (a ++ b) = (hdO a).or (hdO b) := by
 unfold hdO
 rw [a2u, List.head?_append]
theorem b6c {g : List Pc} (n : Nat) : hdO (rep (n + 1) g) = hdO g := by
 cases h : byts g with
 | nil =>
  have : ∀ n, byts (rep n g) = [] := fun n => by
   induction n with
   | zero => rfl
   | succ n ih => rw [a3b, a2u, ih, h]; rfl
  unfold hdO
  rw [this, h]
 | cons c l => exact b4F (by rw [h]; exact List.cons_ne_nil _ _)
theorem c1V {f : Fam} (h : f.ok = true) (hs : hdO f.shut = none → f.shut = []) (n : Nat) : okT none (f.all n) = true := by
 unfold Fam.ok at h
 simp only [Bool.and_eq_true] at h
 obtain ⟨⟨⟨⟨⟨a1, a2⟩, a3, a4⟩, ⟨a5, a6⟩, a7, a8⟩, a9⟩, b1, b2⟩ := h
 obtain ⟨o, ho⟩ := Option.isSome_iff_exists.1 b1
 obtain ⟨m, hm⟩ := Option.isSome_iff_exists.1 b2
 have orn : ∀ x : Option UInt8, x.or none = x := fun x => Option.or_none
 unfold Fam.all
 rw [a6D, a6D, a6D, a6D]
 show (okT ((hdO (rep n f.op ++ (f.mid ++ (rep n f.shut ++ f.tail)))).or none) f.head && (okT ((hdO (f.mid ++ (rep n f.shut ++ f.tail))).or none) (rep n f.op) && (okT ((hdO (rep n f.shut ++ f.tail)).or none) f.mid && (okT ((hdO f.tail).or none) (rep n f.shut) && okT none f.tail)))) = true
 simp only [orn, b9I]
 have e1 : (hdO f.mid).or ((hdO (rep n f.shut)).or (hdO f.tail)) = hdO f.mid := by rw [hm]; rfl
 rw [e1, a9, b4G a7 a8 hs, b4G a3 a4 (fun e => by rw [ho] at e; cases e)]
 cases n with
 | zero =>
  have e2 : ∀ g : List Pc, hdO (rep 0 g) = none := fun _ => rfl
  rw [e2, e2]
  show (okT (hdO f.mid) f.head && (true && (okT (hdO f.tail) f.mid && (true && true)))) = true
  rw [a2, a6]; rfl
 | succ n =>
  have e3 : (hdO f.op).or (hdO f.mid) = hdO f.op := by rw [ho]; rfl
  rw [b6c, b6c, e3, a1, a5]; rfl
def tk0 (p : Nat) : List Pc → List Tk
 | [] => []
 | a :: l => a.tk p ++ tk0 (p + a.by_.length) l
theorem b2d (b : List Pc) : ∀ (a : List Pc) (p : Nat), tks p (a ++ b) = tk0 p a ++ tks (p + (byts a).length) b
 | [], p => rfl
 | x :: a, p => by
  show x.tk p ++ tks (p + x.by_.length) (a ++ b) = (x.tk p ++ tk0 (p + x.by_.length) a) ++ _
  rw [b2d b a, b2J, List.length_append, List.append_assoc, Nat.add_assoc]
abbrev wX : Pc := .wd [120] 1
abbrev wA : Pc := .wd [97, 115, 115, 101, 114, 116] 3
abbrev wT4 : Pc := .wd [116, 114, 117, 101] 3
abbrev wIf : Pc := .wd [105, 102] 3
abbrev wSk : Pc := .wd [115, 107, 105, 112] 3
abbrev a8X : Fam := ⟨[wX, .sp, .sg 61, .sp], [.sg 40], [.dg 49], [.sg 41], [.sg 59]⟩
abbrev a8Y : Fam := ⟨[wX, .sp, .sg 61, .sp], [.sg 45], [.dg 49], [], [.sg 59]⟩
abbrev a8Z : Fam := ⟨[wA, .sp], [.sg 33], [wT4], [], [.sg 59]⟩
abbrev a9a : Fam := ⟨[wA, .sp], [.sg 91], [wX, .sp, .sg 60, .sp, .dg 49], [.sg 93], [.sg 59]⟩
abbrev a9b : Fam := ⟨[], [wIf, .sp, wT4, .sp, .sg 123], [wSk, .sg 59], [.sg 125], []⟩
def toksF (f : Fam) (n : Nat) : List Tok := (tks 0 (f.all n)).map tkv
def goodB (r : List Tok) : Bool := match progP r with
 | .ok (b, r') => decide ((hd r').g6 = 5) && decide (chkP b = 0)
 | .error _ => false
def goodsB (f : Fam) : Nat → Bool
 | 0 => true
 | n + 1 => goodB (toksF f n) && goodsB f n
theorem b4H {f : Fam} : ∀ {m : Nat}, goodsB f m = true → ∀ n, n < m → goodB (toksF f n) = true
 | 0, _, n, h => by omega
 | m + 1, h, n, hn => by
  have h : (goodB (toksF f m) && goodsB f m) = true := h
  rw [Bool.and_eq_true] at h
  by_cases c : n = m
  ·rw [c]; exact h.1
  ·exact b4H h.2 n (by omega)
theorem b7c {r : List Tok} (h : goodB r = true) : ∃ b, readsR progP chkP r = .ok b ∧ chkP b = 0 := by
 unfold goodB at h
 split at h
 ·rename_i b r' e
  rw [Bool.and_eq_true, decide_eq_true_eq, decide_eq_true_eq] at h
  refine ⟨b, ?_, h.2⟩
  unfold readsR
  rw [e]
  dsimp only
  rw [if_neg (fun n => n h.1), if_neg (by rw [h.2]; decide), if_neg (by rw [h.2]; decide)]
 ·cases h
theorem c5P : goodsB a8X 40 = true := by kernel_rfl
theorem c5Q : goodsB a8Y 40 = true := by kernel_rfl
theorem c5R : goodsB a8Z 40 = true := by kernel_rfl
theorem c5S : goodsB a9a 40 = true := by kernel_rfl
theorem c5T : goodsB a9b 40 = true := by kernel_rfl
def preF (f : Fam) : List Tok := (tk0 0 (f.head ++ rep 40 f.op)).map tkv
def posF (f : Fam) : Nat := (byts (f.head ++ rep 40 f.op)).length
def a4l (p : Nat) (l : List Pc) : Tok := ((tk0 p l).map tkv).headD ⟨5, ⟨#[]⟩, 0, ⟨0, 0⟩⟩
theorem c5c (R : List Tok) : progP (preF a8X ++ a4l (posF a8X) a8X.op :: R) = .error (41, ⟨1, 45⟩) := by kernel_rfl
theorem c5d (R : List Tok) : progP (preF a8X ++ a4l (posF a8X) a8X.mid :: R) = .error (41, ⟨1, 45⟩) := by kernel_rfl
theorem c5e (R : List Tok) : progP (preF a8Y ++ a4l (posF a8Y) a8Y.op :: R) = .error (41, ⟨1, 45⟩) := by kernel_rfl
theorem c5f (R : List Tok) : progP (preF a8Y ++ a4l (posF a8Y) a8Y.mid :: R) = .error (41, ⟨1, 45⟩) := by kernel_rfl
theorem c5g (R : List Tok) : progP (preF a8Z ++ a4l (posF a8Z) a8Z.op :: R) = .error (41, ⟨1, 48⟩) := by kernel_rfl
theorem c5h (R : List Tok) : progP (preF a8Z ++ a4l (posF a8Z) a8Z.mid :: R) = .error (41, ⟨1, 48⟩) := by kernel_rfl
theorem c5i (R : List Tok) : progP (preF a9a ++ a4l (posF a9a) a9a.op :: R) = .error (41, ⟨1, 48⟩) := by kernel_rfl
theorem c5j (R : List Tok) : progP (preF a9a ++ a4l (posF a9a) a9a.mid :: R) = .error (41, ⟨1, 48⟩) := by kernel_rfl
theorem c5k (R : List Tok) : progP (preF a9b ++ a4l (posF a9b) a9b.op :: R) = .error (41, ⟨1, 361⟩) := by kernel_rfl
theorem c5l (R : List Tok) : progP (preF a9b ++ a4l (posF a9b) a9b.mid :: R) = .error (41, ⟨1, 361⟩) := by kernel_rfl
theorem c1W (a b : Nat) (g : List Pc) : rep (a + b) g = rep a g ++ rep b g := by
 induction a with
 | zero => rw [Nat.zero_add]; rfl
 | succ a ih => rw [show a + 1 + b = (a + b) + 1 by omega, a3b, ih, a3b, List.append_assoc]
theorem b4I {p : Nat} {l : List Pc} (h : tk0 p l ≠ []) (X : List Pc) : ∃ R, (tks p (l ++ X)).map tkv = a4l p l :: R := by
 rw [b2d]
 unfold a4l
 cases hl : tk0 p l with
 | nil => exact absurd hl h
 | cons t r => exact ⟨_, rfl⟩
def small (l : List Pc) : Prop := l.length ≤ 9 ∧ (byts l).length ≤ 9
structure FamOk (f : Fam) (c : Nat) : Prop where
 ok : f.ok = true
 sh : hdO f.shut = none → f.shut = []
 good : goodsB f 40 = true
 o0 : tk0 (posF f) f.op ≠ []
 m0 : tk0 (posF f) f.mid ≠ []
 oD : ∀ R, progP (preF f ++ a4l (posF f) f.op :: R) = .error (41, ⟨1, c⟩)
 mD : ∀ R, progP (preF f ++ a4l (posF f) f.mid :: R) = .error (41, ⟨1, c⟩)
 at_ : c = (byts f.head).length + 40 * (byts f.op).length + 1
 z1 : small f.head
 z2 : small f.op
 z3 : small f.mid
 z4 : small f.shut
 z5 : small f.tail
theorem K4 {l : List Pc} (h : (decide (l.length ≤ 9) && decide ((byts l).length ≤ 9)) = true) : small l := by
 rw [Bool.and_eq_true, decide_eq_true_eq, decide_eq_true_eq] at h
 exact h
theorem ok0 : FamOk a8X 45 := ⟨by kernel_rfl, fun h => (by cases h), c5P, List.cons_ne_nil _ _, List.cons_ne_nil _ _, c5c, c5d, rfl, K4 (by kernel_rfl), K4 (by kernel_rfl), K4 (by kernel_rfl), K4 (by kernel_rfl), K4 (by kernel_rfl)⟩
theorem ok1 : FamOk a8Y 45 := ⟨by kernel_rfl, fun _ => rfl, c5Q, List.cons_ne_nil _ _, List.cons_ne_nil _ _, c5e, c5f, rfl, K4 (by kernel_rfl), K4 (by kernel_rfl), K4 (by kernel_rfl), K4 (by kernel_rfl), K4 (by kernel_rfl)⟩
theorem ok2 : FamOk a8Z 48 := ⟨by kernel_rfl, fun _ => rfl, c5R, List.cons_ne_nil _ _, List.cons_ne_nil _ _, c5g, c5h, rfl, K4 (by kernel_rfl), K4 (by kernel_rfl), K4 (by kernel_rfl), K4 (by kernel_rfl), K4 (by kernel_rfl)⟩
theorem ok3 : FamOk a9a 48 := ⟨by kernel_rfl, fun h => (by cases h), c5S, List.cons_ne_nil _ _, List.cons_ne_nil _ _, c5i, c5j, rfl, K4 (by kernel_rfl), K4 (by kernel_rfl), K4 (by kernel_rfl), K4 (by kernel_rfl), K4 (by kernel_rfl)⟩
theorem ok4 : FamOk a9b 361 := ⟨by kernel_rfl, fun h => (by cases h), c5T, List.cons_ne_nil _ _, List.cons_ne_nil _ _, c5k, c5l, rfl, K4 (by kernel_rfl), K4 (by kernel_rfl), K4 (by kernel_rfl), K4 (by kernel_rfl), K4 (by kernel_rfl)⟩
section
variable {f : Fam} {c : Nat} (F : FamOk f c)
include F
theorem b6d (n : Nat) (hn : n ≤ 200) : (f.all n).length ≤ 32768 ∧ (byts (f.all n)).length ≤ 65536 := by
 have h1 := F.z1
 have h2 := F.z2
 have h3 := F.z3
 have h4 := F.z4
 have h5 := F.z5
 unfold small at h1 h2 h3 h4 h5
 have m1 := Nat.mul_le_mul hn h2.1
 have m2 := Nat.mul_le_mul hn h2.2
 have m3 := Nat.mul_le_mul hn h4.1
 have m4 := Nat.mul_le_mul hn h4.2
 unfold Fam.all
 simp only [List.length_append, c1U, a2u, a7p]
 omega
theorem c1X {n : Nat} (hn : n ≤ 200) : ∃ b, ansR progP chkP ⟨(byts (f.all n)).toArray⟩ = (if n ≤ 39 then .ok b else .error (41, ⟨1, c⟩)) ∧ chkP b = 0 := by
 have hl := b6d F n hn
 have ht := c1T (c1V F.ok F.sh n) hl.1 hl.2
 have e1 : toks ⟨(byts (f.all n)).toArray⟩ = toksF f n := by
  show (tkS _).1.map tkv = _
  rw [ht]; rfl
 have e2 : (tkS ⟨(byts (f.all n)).toArray⟩).2.2 = 0 := by rw [ht]
 unfold ansR
 rw [if_pos e2, e1]
 by_cases c39 : n ≤ 39
 ·obtain ⟨b, hb, h0⟩ := b7c (b4H F.good n (by omega))
  exact ⟨b, by rw [if_pos c39]; exact hb, h0⟩
 ·obtain ⟨k, rfl⟩ : ∃ k, n = 40 + k := ⟨n - 40, by omega⟩
  refine ⟨⟨[], []⟩, ?_, by kernel_rfl⟩
  rw [if_neg c39]
  have e3 : ∃ R, toksF f (40 + k) = preF f ++ a4l (posF f) f.op :: R ∨ toksF f (40 + k) = preF f ++ a4l (posF f) f.mid :: R := by
   have e4 : toksF f (40 + k) = preF f ++ (tks (posF f) (rep k f.op ++ (f.mid ++ (rep (40 + k) f.shut ++ f.tail)))).map tkv := by
    unfold toksF Fam.all preF posF
    rw [c1W 40 k f.op, List.append_assoc (rep 40 f.op), ← List.append_assoc f.head, b2d, List.map_append, Nat.zero_add]
   rw [e4]
   cases k with
   | zero =>
    obtain ⟨R, hR⟩ := b4I F.m0 (rep (40 + 0) f.shut ++ f.tail)
    exact ⟨R, .inr (by show preF f ++ (tks (posF f) (f.mid ++ (rep (40 + 0) f.shut ++ f.tail))).map tkv = _; rw [hR])⟩
   | succ k =>
    obtain ⟨R, hR⟩ := b4I F.o0 (rep k f.op ++ (f.mid ++ (rep (40 + (k + 1)) f.shut ++ f.tail)))
    exact ⟨R, .inl (by rw [a3b, List.append_assoc, hR])⟩
  obtain ⟨R, hR⟩ := e3
  unfold readsR
  rcases hR with hR | hR <;> rw [hR]
  ·rw [F.oD]
  ·rw [F.mD]
end
theorem c5m {s : ByteArray} {b : PP} (h : ansR progP chkP s = .ok b) : b.Sm := by
 unfold ansR at h
 split at h
 ·rename_i he
  unfold readsR at h
  split at h
  ·cases h
  ·rename_i b' r' eo
   have hs := (b4B _ _ _ (b0Y he).2.2 eo).1
   split at h
   ·cases h
   split at h
   ·cases h
   split at h
   ·cases h
   cases h
   exact hs
 ·cases h
abbrev bS (l : List Pc) : ByteArray := ⟨(byts l).toArray⟩
theorem b1a (a b : List Pc) : bS a ++ bS b = bS (a ++ b) := by show (⟨(byts a).toArray⟩ ++ ⟨(byts b).toArray⟩ : ByteArray) = _; rw [b9H, ← a2u]
theorem a3m (a : List Pc) : (bS a).size = (byts a).length := b4C _
section
variable {H : Hp} (hT : TabsH H) (hE : ErrH H)
include hT hE
theorem a4q {f : Fam} {c : Nat} (F : FamOk f c) {N : Nat} (hN : N ≤ 200) {K : Bool → Hp → Prop} (h : ∀ H', Hle H H' → K true H') : y7 N (bS f.head) (bS f.op) (bS f.mid) (bS f.shut) (bS f.tail) H K := by
 have h1 := F.z1
 have h2 := F.z2
 have h3 := F.z3
 have h4 := F.z4
 have h5 := F.z5
 unfold small at h1 h2 h3 h4 h5
 have lens : ∀ i, i ≤ 200 → i * (byts f.op).length ≤ 1800 ∧ i * (byts f.shut).length ≤ 1800 := fun i hi => ⟨Nat.mul_le_mul hi h2.2, Nat.mul_le_mul hi h4.2⟩
 unfold y7
 refine Q4 (fun (z : ByteArray × Int) H' => H' = H ∧ ∃ i : Nat, z = (bS (f.head ++ rep i f.op), (i : Int)) ∧ i ≤ N) (fun z => (N - z.2).toNat) ⟨rfl, 0, by show _ = (bS (f.head ++ []), _); rw [List.append_nil]; rfl, Nat.zero_le _⟩ ?_
 rintro z H2 next ⟨rfl, i, rfl, hi⟩ hn
 unfold P5
 dsimp only
 have li := lens i (by omega)
 refine ⟨fun c1 => ⟨?_, ?_⟩, fun c1 => ?_⟩
 ·rw [a3m, a3m, a2u, List.length_append, a7p]; omega
 ·rw [R1 ⟨by omega, by omega⟩, b1a]
  exact hn _ _ ⟨rfl, i + 1, by rw [b4E, List.append_assoc]; rfl, by omega⟩ (by dsimp only; omega)
 ·obtain rfl : i = N := by omega
  unfold P4
  rw [b1a]
  refine ⟨by rw [a3m, a3m, a2u, List.length_append, a7p]; omega, ?_⟩
  refine Q4 (fun (z : ByteArray × Int) H' => H' = H2 ∧ ∃ j : Nat, z = (bS (f.head ++ rep i f.op ++ f.mid ++ rep j f.shut), (j : Int)) ∧ j ≤ i) (fun z => (i - z.2).toNat) ⟨rfl, 0, by show _ = (bS (f.head ++ rep i f.op ++ f.mid ++ []), _); rw [List.append_nil]; rfl, Nat.zero_le _⟩ ?_
  rintro z H3 next2 ⟨rfl, j, rfl, hj⟩ hn2
  unfold P3
  dsimp only
  have lj := lens j (by omega)
  have hz : (bS (f.head ++ rep i f.op ++ f.mid ++ rep j f.shut)).size ≤ 4000 := by
   rw [a3m]
   simp only [a2u, List.length_append, a7p]
   omega
  refine ⟨fun c2 => ⟨?_, ?_⟩, fun c2 => ?_⟩
  ·have := a3m f.shut; omega
  ·rw [R1 ⟨by omega, by omega⟩, b1a]
   exact hn2 _ _ ⟨rfl, j + 1, by rw [b4E, List.append_assoc _ (rep j f.shut)]; rfl, by omega⟩ (by dsimp only; omega)
  ·obtain rfl : j = i := by omega
   unfold P2
   have z5 := a3m f.tail
   refine ⟨by omega, ?_⟩
   have e : bS (f.head ++ rep j f.op ++ f.mid ++ rep j f.shut) ++ bS f.tail = bS (f.all j) := by
    rw [b1a]
    unfold Fam.all
    simp only [List.append_assoc]
   rw [e]
   obtain ⟨b, hb, h0⟩ := c1X F hN
   have hz2 : (bS (f.all j)).size ≤ 65536 := by rw [a3m]; exact (b6d F j hN).2
   refine b0j hT hE (by omega) ?_
   show Ans H3 zP PH (ansR progP chkP (bS (f.all j))) _
   by_cases c39 : j ≤ 39
   ·rw [if_pos c39] at hb
    rw [hb]
    intro H4 v l4 hv
    refine ⟨fun _ => ⟨fun _ => b4w (hT.le l4) hv (c5m hb) fun H5 l5 => ?_, fun q => absurd (by decide) q⟩, fun q => absurd (by omega) q⟩
    rw [show vEnd (allV b) = chkP b from b5W _, h0]
    exact h _ (l4.trans l5)
   ·rw [if_neg c39] at hb
    rw [hb]
    intro H4 l4
    refine ⟨fun q => absurd q (by omega), fun _ => ?_⟩
    have s1 := a3m f.head
    have s2 := a3m f.op
    have at_ := F.at_
    rw [s1, s2, R1 (a := 40 * ((byts f.op).length : Int)) ⟨by omega, by omega⟩, R1 (a := ((byts f.head).length : Int) + 40 * ((byts f.op).length : Int)) ⟨by omega, by omega⟩, R1 ⟨by omega, by omega⟩]
    have e4 : (c : Int) = ((byts f.head).length : Int) + 40 * ((byts f.op).length : Int) + 1 := by omega
    rw [decide_eq_true (show ((1 : Int) = 1 ∧ (c : Int) = _) from ⟨rfl, e4⟩)]
    exact h _ l4
theorem b2e {n so : Int} (_ : -9223372036854775808 ≤ n ∧ n ≤ 9223372036854775807) (_ : -9223372036854775808 ≤ so ∧ so ≤ 9223372036854775807) {K : Bool → Hp → Prop} (h : ∀ H', Hle H H' → K true H') : X2 n so H K := by
 refine a4L _ _ (b8t hT hE fun H1 l1 => ⟨fun q => (by cases q), fun _ => ⟨fun _ => h _ l1, fun cn => ?_⟩⟩)
 simp only [Bool.or_eq_false_iff, decide_eq_false_iff_not] at cn
 obtain ⟨N, rfl⟩ : ∃ N : Nat, n = N := ⟨n.toNat, by omega⟩
 have hN : N ≤ 200 := by omega
 have hk : ∀ H', Hle H1 H' → K true H' := fun H' l => h _ (l1.trans l)
 have t1 := hT.le l1
 have e1 := hE.le l1
 exact ⟨fun _ => a4q t1 e1 ok1 hN hk, fun _ => ⟨fun _ => a4q t1 e1 ok2 hN hk, fun _ => ⟨fun _ => a4q t1 e1 ok3 hN hk, fun _ => ⟨fun _ => a4q t1 e1 ok4 hN hk, fun _ => a4q t1 e1 ok0 hN hk⟩⟩⟩⟩
end
end Go.Proofs.YthklmeihgmcljaaGreatDoor
