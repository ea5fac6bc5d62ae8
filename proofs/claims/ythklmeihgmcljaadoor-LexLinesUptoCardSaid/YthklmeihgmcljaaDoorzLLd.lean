/- LexLines: behind so many line feeds and so many blanks a name stands at that place. -/
import Derived.Test.YthklmeihgmcljaaDoorzLL7
namespace Go.Proofs.YthklmeihgmcljaaDoor
open Go.RowKit
set_option maxRecDepth 100000
set_option maxHeartbeats 1000000
def Dr (s : ByteArray) (p : Nat) (l : List UInt8) : Prop := s.data.toList.drop p = l
section
variable {s : ByteArray}
theorem Dr.cons {p : Nat} {c : UInt8} {l : List UInt8} (h : Dr s p (c :: l)) : p < s.size ∧ s.get! p = c ∧ Dr s (p + 1) l := by
  unfold Dr at h ⊢
  have hp : p < s.size := by
    rcases Nat.lt_or_ge p s.size with q | q
    · exact q
    · rw [List.drop_eq_nil_of_le (by rw [Array.length_toList]; exact q)] at h; cases h
  rw [M2 hp] at h
  injection h with h1 h2
  exact ⟨hp, h1, h2⟩
theorem Dr.nil {p : Nat} (h : Dr s p []) : s.size ≤ p := by
  unfold Dr at h
  have := congrArg List.length h
  rw [List.length_drop, Array.length_toList, List.length_nil] at this
  have e : s.data.size = s.size := rfl
  omega
theorem Dr.le {p : Nat} {l : List UInt8} (h : Dr s p l) (hp : p ≤ s.size) : p + l.length = s.size := by
  unfold Dr at h
  have := congrArg List.length h
  rw [List.length_drop, Array.length_toList] at this
  have e : s.data.size = s.size := rfl
  omega
theorem Dr.asc {p : Nat} {c : UInt8} {l : List UInt8} (h : Dr s p (c :: l)) (hc : c.toNat < 128) : rn s p = (c.toNat : Int) ∧ wd s p = 1 := by
  have h1 := h.cons.2.1
  have := K9 (s := s) (p := p) (by unfold by8; rw [h1]; exact hc)
  unfold by8 at this
  rw [h1] at this
  exact this
theorem Dr.eac {p : Nat} {l : List UInt8} (h : Dr s p (195 :: 169 :: l)) : rn s p = 233 ∧ wd s p = 2 := by
  obtain ⟨h1, h2, h3⟩ := h.cons
  obtain ⟨h4, h5, _⟩ := h3.cons
  unfold rn wd
  rw [Lib.decode_at, h2, h5]
  have e1 : (195 : UInt8).toNat = 195 := rfl
  have e2 : (169 : UInt8).toNat = 169 := rfl
  rw [e1, e2]
  have : Lib.decodeN (s.size - p) 195 169 (s.get! (p + 2)).toNat (s.get! (p + 3)).toNat = (233, 2) := by
    unfold Lib.decodeN
    simp [show 1 < s.size - p by omega]
  rw [this]
  exact ⟨rfl, rfl⟩
theorem chkN {p : Nat} (hp : p < s.size) (h : rn s p ≠ 65533) : chkAt s p = chkAt s (p + wd s p) := by
  rw [S3 s p hp, if_neg (fun x => h (by show ((Utf8.decode s p).1 : Int) = 65533; rw [x.1]; rfl))]
end
abbrev lnL : List UInt8 := [35, 32, 195, 169, 10]
def linesL (k : Nat) : List UInt8 := (List.replicate k lnL).flatten
theorem W7 (k : Nat) : linesL (k + 1) = lnL ++ linesL k := by unfold linesL; rw [List.replicate_succ, List.flatten_cons]
theorem a1D (k : Nat) : linesL k ++ lnL = linesL (k + 1) := by
  unfold linesL
  rw [List.replicate_succ', List.flatten_append]
  simp
theorem a0a (k : Nat) : (linesL k).length = 5 * k := by
  induction k with
  | zero => rfl
  | succ k ih => rw [W7, List.length_append, ih]; show 5 + 5 * k = _; omega
theorem Y0 (a b : List UInt8) : (⟨a.toArray⟩ ++ ⟨b.toArray⟩ : ByteArray) = ⟨(a ++ b).toArray⟩ := by
  apply ByteArray.ext
  simp [ByteArray.data_append]
theorem S5 (l : List UInt8) : (⟨l.toArray⟩ : ByteArray).size = l.length := by show l.toArray.size = _; simp
section
variable {s : ByteArray}
theorem a4d : ∀ (k p : Nat) (a : Int × Int) (l : List UInt8), Dr s p (linesL k ++ l) → sk s p = sk s (p + 5 * k) ∧ Dr s (p + 5 * k) l ∧ Go2 s p a (p + 5 * k) (a.1 + k, if k = 0 then a.2 else 1) ∧ chkAt s p = chkAt s (p + 5 * k) := by
  intro k
  induction k with
  | zero =>
    intro p a l h
    refine ⟨rfl, h, ?_, rfl⟩
    have : (a.1 + ((0 : Nat) : Int), if 0 = 0 then a.2 else 1) = a := by rw [if_pos rfl]; exact Prod.ext (by simp) rfl
    rw [this]
    exact .refl
  | succ k ih =>
    intro p a l h
    rw [W7] at h
    have h0 : Dr s p (35 :: 32 :: 195 :: 169 :: 10 :: (linesL k ++ l)) := h
    obtain ⟨p0, b0, h1⟩ := h0.cons
    obtain ⟨p1, b1, h2⟩ := h1.cons
    obtain ⟨p2, b2, h3⟩ := h2.cons
    obtain ⟨p3, b3, h4⟩ := h3.cons
    obtain ⟨p4, b4, h5⟩ := h4.cons
    obtain ⟨r0, w0⟩ := h0.asc (by decide)
    obtain ⟨r1, w1⟩ := h1.asc (by decide)
    obtain ⟨r2, w2⟩ := h2.eac
    obtain ⟨r4, w4⟩ := h4.asc (by decide)
    have r0 : rn s p = 35 := r0
    have r1 : rn s (p + 1) = 32 := r1
    have r4 : rn s (p + 4) = 10 := r4
    obtain ⟨i1, i2, i3, i4⟩ := ih (p + 5) (a.1 + 1, 1) l h5
    have hnl : nl s p = p + 4 := by
      rw [X5 4 (by omega) (fun q hq => by
        unfold by8
        obtain rfl | rfl | rfl | rfl := (by omega : q = 0 ∨ q = 1 ∨ q = 2 ∨ q = 3)
        · rw [Nat.add_zero, b0]; decide
        · rw [b1]; decide
        · rw [show p + 2 = p + 1 + 1 by omega, b2]; decide
        · rw [show p + 3 = p + 1 + 1 + 1 by omega, b3]; decide)]
      exact O8 (fun x => x.2 (by unfold by8; rw [show p + 4 = p + 1 + 1 + 1 + 1 by omega, b4]; rfl))
    have e5 : p + 5 + 5 * k = p + 5 * (k + 1) := by omega
    rw [e5] at i1 i2 i3 i4
    refine ⟨?_, i2, ?_, ?_⟩
    · rw [V7 p0 (by unfold by8; rw [b0]; rfl), hnl, Q1 (p := p + 4) (by omega) (by unfold by8; rw [show p + 4 = p + 1 + 1 + 1 + 1 by omega, b4]; decide) (by rw [r4]; decide)]
      rw [show wd s (p + 4) = 1 from w4]
      exact i1
    · have g0 := Go2.one (s := s) (a := a) p0
      rw [w0, r0] at g0
      have g1 := Go2.one (s := s) (a := stepP a 35) p1
      rw [w1, r1] at g1
      have g2 := Go2.one (s := s) (a := stepP (stepP a 35) 32) p2
      rw [w2, r2] at g2
      have g4 := Go2.one (s := s) (a := stepP (stepP (stepP a 35) 32) 233) (show p + 4 < s.size by omega)
      rw [show wd s (p + 4) = 1 from w4, r4] at g4
      have e6 : stepP (stepP (stepP (stepP a 35) 32) 233) 10 = (a.1 + 1, 1) := rfl
      rw [e6] at g4
      have := (((g0.trans g1).trans g2).trans g4).trans i3
      have e7 : ((a.1 + 1, (1 : Int)).1 + (k : Int), if k = 0 then ((a.1 + 1, (1 : Int)) : Int × Int).2 else 1) = (a.1 + ((k + 1 : Nat) : Int), if k + 1 = 0 then a.2 else 1) := by
        rw [if_neg (Nat.succ_ne_zero k)]
        refine Prod.ext (by show a.1 + 1 + (k : Int) = _; omega) ?_
        show (if k = 0 then (1 : Int) else 1) = 1
        split <;> rfl
      rw [e7] at this
      exact this
    · rw [chkN p0 (by rw [r0]; decide), w0, chkN p1 (by rw [r1]; decide), w1, chkN (p := p + 1 + 1) p2 (by rw [r2]; decide), w2, show p + 1 + 1 + 2 = p + 4 by omega, chkN (p := p + 4) (by omega) (by rw [r4]; decide), show wd s (p + 4) = 1 from w4]
      exact i4
theorem a3t : ∀ (k p : Nat) (a : Int × Int) (l : List UInt8), Dr s p (List.replicate k 32 ++ l) → sk s p = sk s (p + k) ∧ Dr s (p + k) l ∧ Go2 s p a (p + k) (a.1, a.2 + k) ∧ chkAt s p = chkAt s (p + k) := by
  intro k
  induction k with
  | zero =>
    intro p a l h
    refine ⟨rfl, h, ?_, rfl⟩
    have : (a.1, a.2 + ((0 : Nat) : Int)) = a := Prod.ext rfl (by simp)
    rw [this]
    exact .refl
  | succ k ih =>
    intro p a l h
    rw [List.replicate_succ] at h
    have h0 : Dr s p (32 :: (List.replicate k 32 ++ l)) := h
    obtain ⟨p0, b0, h1⟩ := h0.cons
    obtain ⟨r0, w0⟩ := h0.asc (by decide)
    have r0 : rn s p = 32 := r0
    obtain ⟨i1, i2, i3, i4⟩ := ih (p + 1) (a.1, a.2 + 1) l h1
    rw [show p + 1 + k = p + (k + 1) by omega] at i1 i2 i3 i4
    refine ⟨?_, i2, ?_, ?_⟩
    · rw [Q1 p0 (by unfold by8; rw [b0]; decide) (by rw [r0]; decide), w0]; exact i1
    · have g0 := Go2.one (s := s) (a := a) p0
      rw [w0, r0] at g0
      have := g0.trans i3
      rw [show ((a.1, a.2 + 1) : Int × Int).2 + (k : Int) = a.2 + ((k + 1 : Nat) : Int) by show a.2 + 1 + (k : Int) = _; omega] at this
      exact this
    · rw [chkN p0 (by rw [r0]; decide), w0]; exact i4
end
abbrev nmL : List UInt8 := [195, 169, 49]
theorem a4e (d r : Nat) (hd : d ≤ 300) (hr : r ≤ 300) : tkS ⟨(linesL d ++ (List.replicate r 32 ++ nmL)).toArray⟩ = ([⟨1, ⟨#[195, 169, 49]⟩, 0, ((d : Int) + 1, (r : Int) + 1)⟩, ⟨5, ⟨#[]⟩, 0, ((d : Int) + 1, (r : Int) + 3)⟩], (0, 0), 0) := by
  have hz := S5 (linesL d ++ (List.replicate r 32 ++ nmL))
  rw [List.length_append, List.length_append, a0a, List.length_replicate, show nmL.length = 3 from rfl] at hz
  have h0 : Dr ⟨(linesL d ++ (List.replicate r 32 ++ nmL)).toArray⟩ 0 (linesL d ++ (List.replicate r 32 ++ nmL)) := rfl
  generalize (⟨(linesL d ++ (List.replicate r 32 ++ nmL)).toArray⟩ : ByteArray) = s at hz h0
  obtain ⟨a1, a2, a3, a4⟩ := a4d d 0 (1, 1) _ h0
  obtain ⟨b1, b2, b3, b4⟩ := a3t r _ ((1, 1).1 + (d : Int), if d = 0 then ((1, 1) : Int × Int).2 else 1) _ a2
  have hx : (if d = 0 then ((1, 1) : Int × Int).2 else 1) = 1 := by split <;> rfl
  rw [hx] at a3 b3
  rw [Nat.zero_add] at a1 a2 a3 a4 b1 b2 b3 b4
  obtain ⟨p0, q0, c1⟩ := b2.cons
  obtain ⟨p1, q1, c2⟩ := c1.cons
  obtain ⟨r0, w0⟩ := b2.eac
  obtain ⟨p2, q2, c3⟩ := c2.cons
  obtain ⟨r2, w2⟩ := c2.asc (by decide)
  have r2 : rn s (5 * d + r + 2) = 49 := r2
  have w2 : wd s (5 * d + r + 2) = 1 := w2
  have hend := c3.nil
  have hsk : sk s 0 = 5 * d + r := by
    rw [a1, b1]
    exact E3 (.inr ⟨by unfold by8; rw [q0]; decide, by rw [r0]; decide⟩)
  have hchk : chkAt s 0 = none := by
    rw [a4, b4, chkN p0 (by rw [r0]; decide), w0, chkN (p := 5 * d + r + 2) p2 (by rw [r2]; decide), w2]
    exact Q4 s _ (by omega)
  have hW : (Wr s goesS (5 * d + r) (0, 0)).1 = 5 * d + r + 3 := by
    rw [B8 p0 (by rw [r0]; decide), w0, B8 (p := 5 * d + r + 2) p2 (by rw [r2]; decide), w2, t7 (fun x => by have := x.1; omega)]
  have hC : cnt s goesS (5 * d + r) 0 = 2 := by
    rw [X7 p0 (by rw [r0]; decide), w0, X7 (p := 5 * d + r + 2) p2 (by rw [r2]; decide), w2, X8 (fun x => by have := x.1; omega)]
  have hE : s.extract (5 * d + r) (5 * d + r + 3) = ⟨#[195, 169, 49]⟩ := by
    apply ByteArray.ext
    apply Array.toList_inj.1
    rw [E9, show 5 * d + r + 3 - (5 * d + r) = 3 by omega]
    have : s.data.toList.drop (5 * d + r) = nmL := b2
    rw [this]
    rfl
  have hO : oneO s (5 * d + r) = ⟨1, ⟨#[195, 169, 49]⟩, 0, 5 * d + r + 3, 0⟩ := by
    unfold oneO
    rw [if_pos (by rw [r0]; decide)]
    unfold wordO
    rw [hW, hE, hC, if_neg (by decide), if_neg (by decide)]
  have g2 := Go2.one (s := s) (a := (1 + (d : Int), 1 + (r : Int))) p0
  rw [w0, r0] at g2
  have g3 := Go2.one (s := s) (a := stepP (1 + (d : Int), 1 + (r : Int)) 233) (show 5 * d + r + 2 < s.size from p2)
  rw [w2, r2] at g3
  have hm1 := Z6 (a3.trans b3)
  have hm2 := Z6 (g2.trans g3)
  unfold tkS
  rw [if_neg (by omega), hchk]
  dsimp only
  rw [tkF, hsk, hm1, if_neg (by omega), if_neg (by decide), hO]
  dsimp only
  rw [if_neg (by decide)]
  obtain ⟨f, hf⟩ : ∃ f, s.size = f + 1 := ⟨s.size - 1, by omega⟩
  have hm3 : mv s (5 * d + r) (5 * d + r + 3) (1 + (d : Int), 1 + (r : Int)) = (1 + (d : Int), 1 + (r : Int) + 1 + 1) := hm2
  rw [show ((((1 : Int), (1 : Int)) : Int × Int).1 + (d : Int), (1 : Int) + (r : Int)) = (1 + (d : Int), 1 + (r : Int)) from rfl, hm3]
  rw [show tkF s s.size = tkF s (f + 1) by rw [hf], tkF, E3 (.inl (by omega)), if_pos (by omega), V9 (Nat.lt_irrefl _)]
  simp only [List.nil_append, List.singleton_append, Prod.mk.injEq, List.cons.injEq, Tk.mk.injEq, true_and, and_true]
  omega
section
variable {H : Hp}
theorem a3u (hT : TabsH H) (hE : ErrH H) {d r : Int} (_ : -9223372036854775808 ≤ d ∧ d ≤ 9223372036854775807) (_ : -9223372036854775808 ≤ r ∧ r ≤ 9223372036854775807) {K : Bool → Hp → Prop} (h : ∀ H', Hle H H' → K true H') : y1 d r H K := by
  refine L6 _ _ ?_
  unfold y6
  refine a4a hT hE fun H1 h1 => ⟨fun x => (by cases x), fun _ => ⟨fun _ => h _ h1, fun c => ?_⟩⟩
  simp only [Bool.or_eq_false_iff, decide_eq_false_iff_not] at c
  obtain ⟨D, rfl⟩ : ∃ D : Nat, d = D := ⟨d.toNat, by omega⟩
  obtain ⟨Q, rfl⟩ : ∃ Q : Nat, r = Q := ⟨r.toNat, by omega⟩
  refine M7 (fun (z : ByteArray × Int) H' => H' = H1 ∧ ∃ i : Nat, z = (⟨(linesL i).toArray⟩, (i : Int)) ∧ i ≤ D) (fun z => (D - z.2).toNat) ⟨rfl, 0, rfl, Nat.zero_le _⟩ ?_
  rintro z H2 next ⟨rfl, i, rfl, hi⟩ hk
  unfold r8
  dsimp only
  have hl := a0a i
  have hz := S5 (linesL i)
  refine ⟨fun c1 => ⟨?_, ?_⟩, fun c1 => ?_⟩
  · rw [hz, hl]; show 5 * i + 5 ≤ _; omega
  · rw [D6 ⟨by omega, by omega⟩]
    refine hk _ _ ⟨rfl, i + 1, ?_, by omega⟩ (by dsimp only; omega)
    rw [← a1D, ← Y0]
    rfl
  · obtain rfl : i = D := by omega
    unfold r7
    refine M7 (fun (z : ByteArray × Int) H' => H' = H2 ∧ ∃ j : Nat, z = (⟨(linesL i ++ List.replicate j 32).toArray⟩, (j : Int)) ∧ j ≤ Q) (fun z => (Q - z.2).toNat) ⟨rfl, 0, by rw [List.replicate_zero, List.append_nil]; rfl, Nat.zero_le _⟩ ?_
    rintro z H3 next2 ⟨rfl, j, rfl, hj⟩ hk2
    unfold r6
    dsimp only
    have hz2 := S5 (linesL i ++ List.replicate j 32)
    rw [List.length_append, List.length_replicate, hl] at hz2
    refine ⟨fun c2 => ⟨?_, ?_⟩, fun c2 => ?_⟩
    · rw [hz2]; show 5 * i + j + 1 ≤ _; omega
    · rw [D6 ⟨by omega, by omega⟩]
      refine hk2 _ _ ⟨rfl, j + 1, ?_, by omega⟩ (by dsimp only; omega)
      rw [List.replicate_succ', ← List.append_assoc, ← Y0 (linesL i ++ List.replicate j 32) [32]]
      rfl
    · obtain rfl : j = Q := by omega
      unfold r5
      have e : (⟨(linesL i ++ List.replicate j 32).toArray⟩ ++ (⟨#[195, 169, 49]⟩ : ByteArray)) = ⟨(linesL i ++ (List.replicate j 32 ++ nmL)).toArray⟩ := by
        rw [← List.append_assoc, ← Y0 (linesL i ++ List.replicate j 32) nmL]
      refine ⟨by rw [hz2]; show 5 * i + j + 3 ≤ _; omega, ?_⟩
      rw [e]
      have ht := a4e i j (by omega) (by omega)
      have hz3 := S5 (linesL i ++ (List.replicate j 32 ++ nmL))
      rw [List.length_append, List.length_append, hl, List.length_replicate, show nmL.length = 3 from rfl] at hz3
      refine U9 (hT.le h1) (hE.le h1) (by omega) fun e1 H4 l4 s4 => ?_
      rw [ht] at s4 ⊢
      have hn : e1.n = 2 := s4.1
      refine ⟨_, fun _ => ⟨by decide, by omega, s4.2 0 _ rfl⟩, _, fun _ => ⟨by decide, by omega, s4.2 1 _ rfl⟩, ?_⟩
      rw [hn, D6 (a := (i : Int) + 1) ⟨by omega, by omega⟩, D6 (a := (j : Int) + 1) ⟨by omega, by omega⟩, D6 (a := (j : Int) + 3) ⟨by omega, by omega⟩]
      have := h _ (h1.trans l4)
      simpa using this
end
end Go.Proofs.YthklmeihgmcljaaDoor
