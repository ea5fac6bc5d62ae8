/- Parsing: what is known of it; the laws ParseExact, ParseParts. -/
import Derived.Test.YthklmeihgmcljaaGreatDoorzCXc
namespace Go.Proofs.YthklmeihgmcljaaGreatDoor
open Go.RowKit
set_option maxRecDepth 100000
set_option maxHeartbeats 2000000
theorem k1 : ansR progP chkP ⟨#[118, 97, 114, 32, 120, 59, 32, 120, 32, 61, 32, 49, 32, 43, 32, 50, 32, 42, 32, 120, 59]⟩ = .ok ⟨[⟨⟨#[120]⟩, 0⟩], [sX 1 ⟨#[120]⟩ [eX 6 0 ⟨#[]⟩ [eX 1 1 ⟨#[]⟩ [], eX 8 0 ⟨#[]⟩ [eX 1 2 ⟨#[]⟩ [], eX 2 0 ⟨#[120]⟩ []]]] [] [] []]⟩ := by kernel_rfl
theorem k2 : ansR progP chkP ⟨#[120, 32, 61, 32, 59]⟩ = .error (40, ⟨1, 5⟩) := by kernel_rfl
theorem c2i {H : Hp} {e : b7} {k n : Int} {nm : ByteArray} {ts : List PT} (h : EH H e (eX k n nm ts)) : e.f7 = k := by
 generalize ht : eX k n nm ts = t at h
 cases h with
 | mk a b c d => unfold eX at ht; injection ht with h1 h2; injection h1 with q1; exact q1.symm
theorem c5n {H : Hp} {x : g5} {k : Int} {nm : ByteArray} {t : PT} (h : SH H x (sX k nm [t] [] [] [])) : ∃ e, SlH H 4 c8 x.l8 [e] ∧ EH H e t := by
 generalize ht : sX k nm [t] [] [] [] = u at h
 cases h with
 | @mk _ xs ts ys us zs bs vs ws a1 a2 a3 b1 b2 b3 c1 c2 c3 c4 d1 d2 d3 d4 =>
  unfold sX at ht
  injection ht with h1 h2
  injection h1 with q1 q2 q3 q4 q5 q6
  have e1 : us = [] := List.length_eq_zero_iff.1 q4.symm
  have e2 : vs = [] := List.length_eq_zero_iff.1 q5.symm
  have e3 : ws = [] := List.length_eq_zero_iff.1 q6.symm
  subst e1; subst e2; subst e3
  simp only [List.nil_append, List.append_nil] at h2
  subst h2
  have hl : xs.length = 1 := a3.1
  obtain ⟨e, rfl⟩ : ∃ e, xs = [e] := List.length_eq_one_iff.1 hl
  exact ⟨e, a1, a3.2 0 e t rfl rfl⟩
section
variable {H : Hp} (hT : TabsH H) (hE : ErrH H)
include hT hE
theorem b8w {K : Bool → Hp → Prop} (h : ∀ H', Hle H H' → K true H') : a1g H K := by
 refine a6z (b4K hT hE (by decide) ?_)
 rw [k1]
 intro H1 v l1' hv
 refine b4K (hT.le l1') (hE.le l1') (by decide) ?_
 rw [k2]
 intro H2 l2
 obtain ⟨hd, _, xs, hb, _, rel⟩ := hv.le l2
 obtain ⟨x, rfl⟩ : ∃ x, xs = [x] := List.length_eq_one_iff.1 rel.1
 have hx := rel.2 0 x _ rfl rfl
 obtain ⟨e, he, hk⟩ := c5n hx
 have n1 : (v.a3z.n : Int) = 1 := by have := hd.1; simp at this; omega
 have n2 : (v.a2K.n : Int) = 1 := by have := hb.1; simp at this; omega
 have n3 : (x.l8.n : Int) = 1 := by have := he.1; simp at this; omega
 obtain ⟨y, hy, hY⟩ := hb.get (i := 0) (by omega) (by omega)
 obtain rfl : x = y := by simpa using hy
 obtain ⟨z, hz, hZ⟩ := he.get (i := 0) (by omega) (by omega)
 obtain rfl : e = z := by simpa using hz
 refine ⟨x, fun _ => ⟨by omega, by omega, hY⟩, x, fun _ => ⟨by omega, by omega, hY⟩, e, fun _ => ⟨by omega, by omega, hZ⟩, ?_⟩
 rw [n1, n2, n3, c2i hk]
 exact h H2 (l1'.trans l2)
variable {s : ByteArray}
end
abbrev e7 : PT := eX 1 7 ⟨#[]⟩ []
def a4r (t : Tok) : Prop := t.f7 = 2 ∧ t.N6 = 7
def isSgn (sg : ByteArray) (t : Tok) : Prop := t.f7 = 4 ∧ t.A8 = sg
theorem b2h {s : ByteArray} {t : Tok} {r : List Tok} (h : a4r t) : isT s (t :: r) = false := by
 unfold isT hd
 rw [List.headD_cons, h.1]
 rfl
theorem c5X {g : Nat} {t : Tok} {r : List Tok} (h : a4r t) : factP (g + 1) (t :: r) = .ok (e7, r) := by
 show factS (factP g) (t :: r) = _
 have hk : (hd (t :: r)).f7 = 2 := h.1
 have hn : (hd (t :: r)).N6 = 7 := h.2
 unfold factS
 have hb : factB (t :: r) = true := by unfold factB; rw [hk]; rfl
 rw [if_neg (by rw [hb]; decide), if_neg (by rw [b2h h]; decide), if_neg (by rw [b2h h]; decide), if_neg (by rw [b2h h]; decide), if_pos hk, hn]
 rfl
theorem c0p {g : Nat} {t : Tok} {r : List Tok} (h : a4r t) (hm : whG sMul kMul r = 0) : termOf (factP (g + 1)) (t :: r) = .ok (e7, r) := by
 unfold termOf chainP
 rw [S5 (c5X h), a6A hm]
theorem noMul {sg : ByteArray} {t : Tok} {r : List Tok} (h : isSgn sg t) (h1 : sg ≠ ⟨#[42]⟩) (h2 : sg ≠ ⟨#[47]⟩) (h3 : sg ≠ ⟨#[37]⟩) : whG sMul kMul (t :: r) = 0 := by
 have q : ∀ s : ByteArray, sg ≠ s → isT s (t :: r) = false := fun s n => by
  unfold isT hd
  rw [List.headD_cons, h.2, decide_eq_false n, Bool.and_false]
 simp only [a0k, q _ h1, q _ h2, q _ h3]
 rfl
theorem noMulEnd {t : Tok} {r : List Tok} (h : t.f7 = 5) : whG sMul kMul (t :: r) = 0 := by
 have q : ∀ s : ByteArray, isT s (t :: r) = false := fun s => by
  unfold isT hd
  rw [List.headD_cons, h]; rfl
 simp only [a0k, q]
 rfl
theorem noAddEnd {t : Tok} {r : List Tok} (h : t.f7 = 5) : whG sAdd kAdd (t :: r) = 0 := by
 have q : ∀ s : ByteArray, isT s (t :: r) = false := fun s => by
  unfold isT hd
  rw [List.headD_cons, h]; rfl
 simp only [a0k, q]
 rfl
def pairs (ps : List (Tok × Tok)) (e : Tok) : List Tok := ps.flatMap (fun p => [p.1, p.2]) ++ [e]
theorem a6B {p : Tok × Tok} {ps : List (Tok × Tok)} {e : Tok} : pairs (p :: ps) e = p.1 :: p.2 :: pairs ps e := by
 unfold pairs
 simp
theorem b8x (ps : List (Tok × Tok)) (e : Tok) : (pairs ps e).length = 2 * ps.length + 1 := by
 induction ps with
 | nil => rfl
 | cons p ps ih => rw [a6B, List.length_cons, List.length_cons, ih, List.length_cons]; omega
def X7 (k : Int) (n : Nat) (a : PT) : PT := Nat.rec a (fun _ t => eX k 0 ⟨#[]⟩ [t, e7]) n
theorem b7g (k : Int) (n : Nat) (a : PT) : X7 k n (eX k 0 ⟨#[]⟩ [a, e7]) = X7 k (n + 1) a := by
 induction n with
 | zero => rfl
 | succ n ih => show eX k 0 ⟨#[]⟩ [X7 k n _, e7] = _; rw [ih]; rfl
section
variable {g : Nat} {k : Int} {sg : ByteArray} (hk : (sg = ⟨#[43]⟩ ∧ k = 6) ∨ (sg = ⟨#[45]⟩ ∧ k = 7))
include hk
theorem c5o {t : Tok} {r : List Tok} (h : isSgn sg t) : whG sAdd kAdd (t :: r) = k := by
 have y : isT sg (t :: r) = true := by
  unfold isT hd
  rw [List.headD_cons, h.1, h.2]; simp
 rcases hk with ⟨rfl, rfl⟩ | ⟨rfl, rfl⟩
 ·rw [a0k, if_pos y]
 ·rw [a0k, if_neg (by rw [b2G y (by decide)]; decide), a0k, if_pos y]
theorem b2R {ps : List (Tok × Tok)} {e : Tok} (he : e.f7 = 5) (h : ∀ p ∈ ps, isSgn sg p.1 ∧ a4r p.2) : whG sMul kMul (pairs ps e) = 0 := by
 cases ps with
 | nil => exact noMulEnd he
 | cons p ps =>
  rw [a6B]
  refine noMul (h p (by simp)).1 ?_ ?_ ?_ <;> rcases hk with ⟨rfl, _⟩ | ⟨rfl, _⟩ <;> decide
theorem b8y {e : Tok} (he : e.f7 = 5) : ∀ (ps : List (Tok × Tok)) (n : Nat) (a : PT), (∀ p ∈ ps, isSgn sg p.1 ∧ a4r p.2) → ps.length ≤ n → chainF (whG sAdd kAdd) (termOf (factP (g + 1))) n a (pairs ps e) = .ok (X7 k ps.length a, [e])
 | [], n, a, _, _ => a6A (noAddEnd he)
 | p :: ps, 0, a, _, hn => by simp at hn
 | p :: ps, n + 1, a, h, hn => by
  have hp := h p (by simp)
  have hps := fun q hq => h q (List.mem_cons_of_mem _ hq)
  have hw : whG sAdd kAdd (p.1 :: p.2 :: pairs ps e) = k := c5o hk hp.1
  have k0 : k ≠ 0 := by rcases hk with ⟨_, rfl⟩ | ⟨_, rfl⟩ <;> decide
  rw [a6B, a9a (by rw [hw]; exact k0), hw, List.tail_cons, S5 (c0p hp.2 (b2R hk he hps)), b8y he ps n _ hps (by simpa using hn), b7g]
  rfl
theorem c5Y {t e : Tok} {ps : List (Tok × Tok)} (ht : a4r t) (he : e.f7 = 5) (h : ∀ p ∈ ps, isSgn sg p.1 ∧ a4r p.2) : exprP (g + 1) (t :: pairs ps e) = .ok (X7 k ps.length e7, [e]) := by
 unfold exprP exprOf
 unfold chainP
 rw [S5 (c0p ht (b2R hk he h)), b8y hk he ps _ _ h (by rw [b8x]; omega)]
end
theorem b7h (d : Int) (s : W) : wT e7 d s = wStep s d := by
 show wT (.mk _ []) d s = _
 rw [wT, wTs]
theorem b8z (k : Int) (a b : PT) (d : Int) (s : W) : wT (eX k 0 ⟨#[]⟩ [a, b]) d s = wT b (d + 1) (wT a (d + 1) (wStep s d)) := by
 show wT (.mk _ [a, b]) d s = _
 rw [wT, wTs, wTs, wTs]
theorem a6C {s : W} {d : Int} (h : s.fbad = 0) (hn : s.fn < 4096) (hd : d ≤ 64) : (wStep s d).fbad = 0 ∧ (wStep s d).fn = s.fn + 1 := by
 unfold wStep
 rw [if_pos h, if_neg (by omega), if_neg (by omega)]
 exact ⟨rfl, rfl⟩
theorem b1d {s : W} {d : Int} (h : s.fbad = 0) (hn : s.fn < 4096) (hd : 64 < d) : (wStep s d).fbad = 32 := by
 unfold wStep
 rw [if_pos h, if_neg (by omega), if_pos hd]
theorem b4L (k : Int) : ∀ (m : Nat) (d : Int) (s : W), s.fbad = 0 → s.fn + 2 * m + 1 ≤ 4096 → d + m ≤ 64 → (wT (X7 k m e7) d s).fbad = 0 ∧ (wT (X7 k m e7) d s).fn = s.fn + 2 * m + 1
 | 0, d, s, h, hn, hd => by
  have := a6C h (by omega) (show d ≤ 64 by omega)
  rw [show X7 k 0 e7 = e7 from rfl, b7h]
  exact ⟨this.1, by rw [this.2]; omega⟩
 | m + 1, d, s, h, hn, hd => by
  rw [show X7 k (m + 1) e7 = eX k 0 ⟨#[]⟩ [X7 k m e7, e7] from rfl, b8z, b7h]
  have a := a6C h (by omega) (show d ≤ 64 by omega)
  have b := b4L k m (d + 1) (wStep s d) a.1 (by rw [a.2]; omega) (by omega)
  have c := a6C (d := d + 1) b.1 (by rw [b.2, a.2]; omega) (by omega)
  exact ⟨c.1, by rw [c.2, b.2, a.2]; omega⟩
theorem b4M (k : Int) : ∀ (m : Nat) (d : Int) (s : W), s.fbad = 0 → s.fn + 2 * m + 1 ≤ 4096 → 64 < d + m → (wT (X7 k m e7) d s).fbad = 32
 | 0, d, s, h, hn, hd => by
  rw [show X7 k 0 e7 = e7 from rfl, b7h]
  exact b1d h (by omega) (by omega)
 | m + 1, d, s, h, hn, hd => by
  rw [show X7 k (m + 1) e7 = eX k 0 ⟨#[]⟩ [X7 k m e7, e7] from rfl, b8z]
  by_cases c : 64 < d
  ·have a := b1d h (show s.fn < 4096 by omega) c
   have a0 : (wStep s d).fbad ≠ 0 := by rw [a]; decide
   have e1 : wT (X7 k m e7) (d + 1) (wStep s d) = wStep s d := b0J _ _ _ a0
   rw [e1, b0J _ _ _ a0]
   exact a
  ·have a := a6C h (show s.fn < 4096 by omega) (show d ≤ 64 by omega)
   have b := b4M k m (d + 1) (wStep s d) a.1 (by rw [a.2]; omega) (by omega)
   rw [b0J _ _ _ (by rw [b]; decide)]
   exact b
theorem b0k {k : Int} (hk : k = 6 ∨ k = 7) : ∀ m : Nat, formT (X7 k m e7) = true ∧ namesT (X7 k m e7) = true
 | 0 => by
  rw [show X7 k 0 e7 = e7 from rfl]
  exact ⟨by show formT (.mk _ []) = true; rw [formT, formTs]; decide, by show namesT (.mk _ []) = true; rw [namesT, namesTs]; decide⟩
 | m + 1 => by
  have ih := b0k hk m
  have i0 := b0k hk 0
  rw [show X7 k 0 e7 = e7 from rfl] at i0
  rw [show X7 k (m + 1) e7 = eX k 0 ⟨#[]⟩ [X7 k m e7, e7] from rfl]
  constructor
  ·show formT (.mk (.expr k 0 ⟨#[]⟩ 2) [X7 k m e7, e7]) = true
   rw [formT, formTs, formTs, formTs, ih.1, i0.1]
   rcases hk with rfl | rfl <;> decide
  ·show namesT (.mk (.expr k 0 ⟨#[]⟩ 2) [X7 k m e7, e7]) = true
   rw [namesT, namesTs, namesTs, namesTs, ih.2, i0.2]
   rcases hk with rfl | rfl <;> decide
theorem b9T {k : Int} (hk : k = 6 ∨ k = 7) {m : Nat} (hm : m ≤ 299) : toldS [X7 k m e7] = if m + 1 ≤ 64 then 0 else 32 := by
 have f := b0k hk m
 have w1 : wTs [X7 k m e7] 1 w0S = wT (X7 k m e7) 1 w0S := by rw [wTs, wTs]
 unfold toldS
 rw [w1]
 by_cases c : m + 1 ≤ 64
 ·have g := (b4L k m 1 w0S rfl (by show (0 : Int) + 2 * (m : Int) + 1 ≤ 4096; omega) (by omega)).1
  rw [if_pos c, if_pos g, formTs, formTs, f.1, namesTs, namesTs, f.2]
  rfl
 ·have b := b4M k m 1 w0S rfl (by show (0 : Int) + 2 * (m : Int) + 1 ≤ 4096; omega) (by omega)
  rw [if_neg c, if_neg (by rw [b]; decide), b]
theorem c5p {k : Int} {sg : ByteArray} (hk : (sg = ⟨#[43]⟩ ∧ k = 6) ∨ (sg = ⟨#[45]⟩ ∧ k = 7)) {t e : Tok} {ps : List (Tok × Tok)} (ht : a4r t) (he : e.f7 = 5) (h : ∀ p ∈ ps, isSgn sg p.1 ∧ a4r p.2) (hm : ps.length ≤ 299) :
  readsR (exprP 40) (fun t => toldS [t]) (t :: pairs ps e) = if ps.length + 1 ≤ 64 then .ok (X7 k ps.length e7) else .error (41, e.fAt) := by
 have hk' : k = 6 ∨ k = 7 := by rcases hk with ⟨_, q⟩ | ⟨_, q⟩ <;> simp [q]
 unfold readsR
 rw [c5Y (g := 39) hk ht he h]
 dsimp only
 rw [if_neg (fun n => n he)]
 have ts := b9T hk' hm
 by_cases c : ps.length + 1 ≤ 64
 ·rw [if_pos c] at ts ⊢
  rw [if_neg (by rw [ts]; decide), if_neg (by rw [ts]; decide)]
 ·rw [if_neg c] at ts ⊢
  rw [if_pos ts]
  rfl
end Go.Proofs.YthklmeihgmcljaaGreatDoor
