/- Tokens: how many runes a piece has; the plain reader of tokens. No program in sight. -/
import Derived.Test.YthklmeihgmcljaaGreatDoorzTM3
namespace Go.Proofs.YthklmeihgmcljaaGreatDoor
open Go.RowKit
set_option maxRecDepth 100000
set_option maxHeartbeats 1000000
section
variable (s : ByteArray)
def cntF (is : Int → Bool) : Nat → Nat → Nat → Nat
 | 0, _, n => n
 | f + 1, p, n => if p < s.size ∧ is (rn s p) = true then cntF is f (p + wd s p) (n + 1) else n
theorem b4Y (is : Int → Bool) : ∀ (f g p n : Nat), s.size - p ≤ f → s.size - p ≤ g → cntF s is f p n = cntF s is g p n
 | 0, 0, _, _, _, _ => rfl
 | 0, g + 1, p, n, h, _ => by rw [cntF, cntF, if_neg (by omega)]
 | f + 1, 0, p, n, _, h => by rw [cntF, cntF, if_neg (by omega)]
 | f + 1, g + 1, p, n, h, h' => by
  rw [cntF, cntF]
  have := N9 s p
  split
  ·rw [b4Y is f g _ _ (by omega) (by omega)]
  ·rfl
def cnt (is : Int → Bool) (p n : Nat) : Nat := cntF s is (s.size - p) p n
variable {s}
theorem b9V {is : Int → Bool} {p n : Nat} (hp : p < s.size) (hi : is (rn s p) = true) : cnt s is p n = cnt s is (p + wd s p) (n + 1) := by
 have := N9 s p
 obtain ⟨m, hm⟩ : ∃ m, s.size - p = m + 1 := ⟨s.size - p - 1, by omega⟩
 unfold cnt
 rw [hm, cntF, if_pos ⟨hp, hi⟩, b4Y s is m (s.size - (p + wd s p)) _ _ (by omega) (by omega)]
theorem b4Z {is : Int → Bool} {p n : Nat} (h : ¬ (p < s.size ∧ is (rn s p) = true)) : cnt s is p n = n := by
 unfold cnt
 cases s.size - p with
 | zero => rw [cntF]
 | succ f => rw [cntF, if_neg h]
theorem Go2.size {p q : Nat} {a b : Int × Int} (h : Go2 s p a q b) (hp : p ≤ s.size) : q ≤ s.size := by
 induction h with
 | refl => exact hp
 | step hq _ ih => exact ih (a5Q hq)
theorem b3d {is : Int → Bool} {p e : Nat} : ∀ (n q m : Nat) (a : Int × Int), s.size - q ≤ n → p ≤ q → q ≤ s.size → (Wr s is q a).1 = e → (runes (s.extract p e) (e - q) (q - p)).length + m = cnt s is q m
 | 0, q, m, a, h, h1, h2, he => by
  rw [X4 (by omega)] at he
  dsimp only at he
  subst he
  rw [b4Z (by omega), Nat.sub_self, runes]
  exact Nat.zero_add _
 | n + 1, q, m, a, h, h1, h2, he => by
  by_cases c : q < s.size ∧ is (rn s q) = true
  ·have hw := N9 s q
   have hl := a5Q c.1
   rw [a1S c.1 c.2] at he
   have hg := a3m (s := s) is _ (q + wd s q) (stepP a (rn s q)) (Nat.le_refl _)
   have h3 := hg.le
   have h4 := hg.size hl
   rw [he] at h3 h4
   have ih := b3d (p := p) n (q + wd s q) (m + 1) _ (by omega) (by omega) hl he
   have hz : (s.extract p e).size = e - p := a3Q (by omega) h4
   have hd : Utf8.decode (s.extract p e) (q - p) = Utf8.decode s q := by
    have := a8Z (s := s) (p := p) (e := e) (i := q - p) h4 (by omega) (by rw [show p + (q - p) = q by omega]; exact h3)
    rw [this, show p + (q - p) = q by omega]
   obtain ⟨k, hk⟩ : ∃ k, e - q = k + 1 := ⟨e - q - 1, by omega⟩
   rw [b9V c.1 c.2, ← ih, hk, runes, if_pos (by omega), hd, List.length_cons]
   rw [show q - p + (Utf8.decode s q).2 = q + wd s q - p by show q - p + wd s q = _; omega]
   rw [a9E (s.extract p e) k (e - (q + wd s q)) _ (by omega) (by omega)]
   omega
  ·rw [X4 c] at he
   dsimp only at he
   subst he
   rw [b4Z c, Nat.sub_self, runes]
   exact Nat.zero_add _
theorem b0I {is : Int → Bool} {p : Nat} {a : Int × Int} (hp : p ≤ s.size) : (runesOf (s.extract p (Wr s is p a).1)).length = cnt s is p 0 := by
 have hg := a3m (s := s) is _ p a (Nat.le_refl _)
 have hz := a3Q hg.le (hg.size hp)
 have := b3d (s := s) (is := is) (p := p) (e := (Wr s is p a).1) _ p 0 a (Nat.le_refl _) (Nat.le_refl _) hp rfl
 rw [Nat.sub_self] at this
 unfold runesOf
 rw [hz]
 exact this
end
structure Tk where
 kind : Int
 text : ByteArray
 num : Int
 at_ : Int × Int
structure On where
 kind : Int
 text : ByteArray
 num : Int
 stop : Nat
 err : Int
def On.bad (e : Int) : On := ⟨0, ⟨#[]⟩, 0, 0, e⟩
section
variable (s : ByteArray)
def two (p : Nat) : Prop := p + 1 < s.size ∧ ((by8 s p = 61 ∧ by8 s (p + 1) = 61) ∨ (by8 s p = 33 ∧ by8 s (p + 1) = 61) ∨ (by8 s p = 60 ∧ by8 s (p + 1) = 61) ∨ (by8 s p = 62 ∧ by8 s (p + 1) = 61) ∨ (by8 s p = 38 ∧ by8 s (p + 1) = 38) ∨ (by8 s p = 124 ∧ by8 s (p + 1) = 124))
instance (p : Nat) : Decidable (two s p) := by unfold two; infer_instance
def signO (p : Nat) : On :=
 if two s p then ⟨4, s.extract p (p + 2), 0, p + 2, 0⟩
 else if by8 s p = 38 ∨ by8 s p = 124 then .bad 20 else ⟨4, s.extract p (p + 1), 0, p + 1, 0⟩
def wordO (p : Nat) : On :=
 if wordS (s.extract p (Wr s goesS p (0, 0)).1) = true then ⟨3, s.extract p (Wr s goesS p (0, 0)).1, 0, (Wr s goesS p (0, 0)).1, 0⟩
 else if 32 < cnt s goesS p 0 then .bad 22 else ⟨1, s.extract p (Wr s goesS p (0, 0)).1, 0, (Wr s goesS p (0, 0)).1, 0⟩
def numO (p : Nat) : On :=
 if 9223372036854775808 ≤ (dg s p 0).2 ∨ (by8 s p = 48 ∧ 1 < (dg s p 0).1 - p) ∨ ((dg s p 0).1 < s.size ∧ classS (rn s (dg s p 0).1) = 3) then .bad 21
 else ⟨2, s.extract p (dg s p 0).1, ((dg s p 0).2 : Int), (dg s p 0).1, 0⟩
def oneO (p : Nat) : On := if classS (rn s p) = 3 then wordO s p else if classS (rn s p) = 4 then numO s p else if classS (rn s p) = 5 then signO s p else .bad 20
def mvF (z : Nat) : Nat → Nat → Int × Int → Int × Int
 | 0, _, a => a
 | f + 1, p, a => if p < z then mvF z f (p + wd s p) (stepP a (rn s p)) else a
def mv (p z : Nat) (a : Int × Int) : Int × Int := mvF s z (z - p) p a
theorem b6I (z : Nat) : ∀ (f g p : Nat) (a : Int × Int), z - p ≤ f → z - p ≤ g → mvF s z f p a = mvF s z g p a
 | 0, 0, _, _, _, _ => rfl
 | 0, g + 1, p, a, h, _ => by rw [mvF, mvF, if_neg (by omega)]
 | f + 1, 0, p, a, _, h => by rw [mvF, mvF, if_neg (by omega)]
 | f + 1, g + 1, p, a, h, h' => by
  rw [mvF, mvF]
  have := N9 s p
  split
  ·rw [b6I z f g _ _ (by omega) (by omega)]
  ·rfl
variable {s}
theorem c2F {p z : Nat} {a : Int × Int} (h : p < z) : mv s p z a = mv s (p + wd s p) z (stepP a (rn s p)) := by
 have := N9 s p
 obtain ⟨m, hm⟩ : ∃ m, z - p = m + 1 := ⟨z - p - 1, by omega⟩
 unfold mv
 rw [hm, mvF, if_pos h, b6I s z m (z - (p + wd s p)) _ _ (by omega) (by omega)]
theorem b2N {p z : Nat} {a : Int × Int} (h : ¬ p < z) : mv s p z a = a := by
 unfold mv
 rw [show z - p = 0 by omega, mvF]
theorem b7F {p q : Nat} {a b : Int × Int} (h : Go2 s p a q b) : mv s p q a = b := by
 induction h with
 | refl => exact b2N (Nat.lt_irrefl _)
 | @step p q a b hp h ih =>
  have h1 := h.le
  have h2 := N9 s p
  rw [c2F (by omega)]
  exact ih
variable (s)
def tkF : Nat → Nat → Int × Int → List Tk → List Tk × (Int × Int) × Int
 | 0, _, _, _ => ([], (0, 0), 0)
 | f + 1, p, a, out =>
  if ¬ sk s p < s.size then (out ++ [⟨5, ⟨#[]⟩, 0, mv s p (sk s p) a⟩], (0, 0), 0)
  else if out.length = 32768 then ([], mv s p (sk s p) a, 23)
  else if (oneO s (sk s p)).err ≠ 0 then ([], mv s p (sk s p) a, (oneO s (sk s p)).err)
  else tkF f (oneO s (sk s p)).stop (mv s (sk s p) (oneO s (sk s p)).stop (mv s p (sk s p) a)) (out ++ [⟨(oneO s (sk s p)).kind, (oneO s (sk s p)).text, (oneO s (sk s p)).num, mv s p (sk s p) a⟩])
def tkS : List Tk × (Int × Int) × Int :=
 if 65536 < s.size then ([], (1, 1), 10)
 else match chkAt s 0 with
  | some n => ([], mv s 0 n (1, 1), 11)
  | none => tkF s (s.size + 1) 0 (1, 1) []
end
section
variable {H : Hp}
theorem c2G (a b : Nat) (h : a + b ≤ 4398046511104) : IntKind.wrap .i64 ((a : Int) + (b : Int)) = ((a + b : Nat) : Int) := by
 rw [U4 ⟨by omega, by omega⟩]; omega
end
abbrev plv (b : Int × Int) : b8 := b8.mk b.1 b.2
def Pl (a : Int × Int) (p : Nat) : Prop := 1 ≤ a.1 ∧ a.1 ≤ p + 1 ∧ 1 ≤ a.2 ∧ a.2 ≤ p + 1
section
variable {s : ByteArray}
theorem Pl.step {a : Int × Int} {p : Nat} (h : Pl a p) : Pl (stepP a (rn s p)) (p + wd s p) := by
 have := N9 s p
 unfold Pl at h ⊢
 unfold stepP
 split <;> (dsimp only; omega)
theorem Go2.pl {p q : Nat} {a b : Int × Int} (h : Go2 s p a q b) : Pl a p → Pl b q := by
 induction h with
 | refl => exact id
 | step _ _ ih => exact fun k => ih k.step
theorem Pl0 : Pl (1, 1) 0 := ⟨by decide, by decide, by decide, by decide⟩
theorem c7b {n : Nat} : ∀ {p : Nat} (a : Int × Int), s.size - p ≤ n → ∃ b, Go2 s p a (sk s p) b := by
 induction n with
 | zero => intro p a h; rw [a4O (.inl (by omega))]; exact ⟨a, .refl⟩
 | succ n ih =>
  intro p a h
  by_cases hp : p < s.size
  ·by_cases c : by8 s p = 35
   ·have h1 := b1C hp c
    have h2 := a3m (s := s) notNl _ p a (Nat.le_refl _)
    rw [← b7D _ p a (Nat.le_refl _)] at h2
    obtain ⟨b, hb⟩ := ih (p := nl s p) (Wr s notNl p a).2 (by omega)
    rw [b0k hp c]
    exact ⟨b, h2.trans hb⟩
   ·by_cases d : blankS (rn s p) = true
    ·have := N9 s p
     obtain ⟨b, hb⟩ := ih (p := p + wd s p) (stepP a (rn s p)) (by omega)
     rw [a8Y hp c d]
     exact ⟨b, .step hp hb⟩
    ·rw [a4O (.inr ⟨c, by simpa using d⟩)]; exact ⟨a, .refl⟩
  ·rw [a4O (.inl hp)]; exact ⟨a, .refl⟩
theorem b0m {p : Nat} (hp : p ≤ s.size) : p ≤ sk s p ∧ sk s p ≤ s.size := by
 obtain ⟨b, h⟩ := c7b (s := s) (p := p) (0, 0) (Nat.le_refl _)
 exact ⟨h.le, h.size hp⟩
theorem c5B {n : Nat} : ∀ {p : Nat}, s.size - p ≤ n → sk s p < s.size → by8 s (sk s p) ≠ 35 ∧ blankS (rn s (sk s p)) = false := by
 induction n with
 | zero => intro p h k; rw [a4O (.inl (by omega))] at k; omega
 | succ n ih =>
  intro p h
  by_cases hp : p < s.size
  ·by_cases c : by8 s p = 35
   ·have h1 := b1C hp c
    rw [b0k hp c]
    exact ih (by omega)
   ·by_cases d : blankS (rn s p) = true
    ·have := N9 s p
     rw [a8Y hp c d]
     exact ih (by omega)
    ·intro _
     rw [a4O (.inr ⟨c, by simpa using d⟩)]
     exact ⟨c, by simpa using d⟩
  ·intro k; rw [a4O (.inl hp)] at k; omega
theorem b8S {p : Nat} (a : Int × Int) (hp : p < s.size) (h : by8 s p < 128) : ∃ b, Go2 s p a (p + 1) b := by
 have := Go2.one (s := s) (a := a) hp
 rw [(a5P h).2] at this
 exact ⟨_, this⟩
theorem b3e {p : Nat} (h : classS (rn s p) = 5) : by8 s p < 128 := by
 refine b1B ?_
 unfold classS at h
 split at h
 ·cases h
 ·split at h
  ·cases h
  ·split at h
   ·rename_i q; unfold signR at q; omega
   ·split at h
    ·cases h
    ·split at h
     ·cases h
     ·split at h <;> cases h
theorem c5C {p : Nat} (a : Int × Int) (hp : p < s.size) (h : (oneO s p).err = 0) : ∃ b, Go2 s p a (oneO s p).stop b := by
 unfold oneO at h ⊢
 split at h
 ·rename_i c
  rw [if_pos c]
  have g := a3m (s := s) goesS _ p (0, 0) (Nat.le_refl _)
  obtain ⟨b, hb⟩ : ∃ b, Go2 s p a (Wr s goesS p (0, 0)).1 b := by
   have := a3m (s := s) goesS _ p a (Nat.le_refl _)
   have e : (Wr s goesS p a).1 = (Wr s goesS p (0, 0)).1 := by
    have : ∀ (f q : Nat) (a b : Int × Int), (whl s goesS f q a).1 = (whl s goesS f q b).1 := by
     intro f
     induction f with
     | zero => intro q a b; rw [whl, whl]
     | succ f ih =>
      intro q a b
      rw [whl, whl]
      split
      ·exact ih _ _ _
      ·rfl
    exact this _ _ _ _
   rw [e] at this
   exact ⟨_, this⟩
  unfold wordO at h ⊢
  split at h
  ·rename_i d; rw [if_pos d]; exact ⟨b, hb⟩
  ·rename_i d
   rw [if_neg d]
   split at h
   ·cases h
   ·rename_i e; rw [if_neg e]; exact ⟨b, hb⟩
 ·rename_i c
  rw [if_neg c]
  split at h
  ·rename_i c2
   rw [if_pos c2]
   unfold numO at h ⊢
   split at h
   ·cases h
   ·rename_i d
    rw [if_neg d]
    have g := a3m (s := s) digitR _ p a (Nat.le_refl _)
    rw [(b0l _ p 0 a (Nat.le_refl _)).2.2.2.2] at g
    exact ⟨_, g⟩
  ·rename_i c2
   rw [if_neg c2]
   split at h
   ·rename_i c3
    rw [if_pos c3]
    have ha := b3e c3
    obtain ⟨b, hb⟩ := b8S a hp ha
    unfold signO at h ⊢
    split at h
    ·rename_i d
     rw [if_pos d]
     unfold two at d
     obtain ⟨b2, hb2⟩ := b8S (s := s) (p := p + 1) b d.1 (by omega)
     exact ⟨b2, hb.trans hb2⟩
    ·rename_i d
     rw [if_neg d]
     split at h
     ·cases h
     ·rename_i e; rw [if_neg e]; exact ⟨b, hb⟩
   ·cases h
theorem c5D {n : Nat} : ∀ {p q : Nat} (a : Int × Int), s.size - p ≤ n → chkAt s p = some q → q < s.size ∧ ∃ b, Go2 s p a q b := by
 induction n with
 | zero => intro p q a h k; rw [a1f s p (by omega)] at k; cases k
 | succ n ih =>
  intro p q a h k
  by_cases hp : p < s.size
  ·rw [a3P s p hp] at k
   split at k
   ·cases k; exact ⟨hp, a, .refl⟩
   ·have := N9 s p
    obtain ⟨h1, b, h2⟩ := ih (stepP a (rn s p)) (by show s.size - (p + wd s p) ≤ n; omega) k
    exact ⟨h1, b, .step hp h2⟩
  ·rw [a1f s p (by omega)] at k; cases k
end
section
variable {H : Hp} {s : ByteArray} (hs : s.size ≤ big)
include hs
end
abbrev tokO (o : On) : b5 := b5.mk o.kind o.text o.num (b8.mk 0 0)
abbrev tkv (t : Tk) : b5 := b5.mk t.kind t.text t.num (plv t.at_)
theorem w8 {a : Int} (h0 : 0 ≤ a) (h1 : a < 256) : IntKind.wrap .u8 a = a := by
 simp [IntKind.wrap, IntKind.bits, IntKind.signed]; omega
section
variable {s : ByteArray}
theorem c1h {p v : Nat} (hp : p ≤ s.size) : p ≤ (dg s p v).1 ∧ (dg s p v).1 ≤ s.size := by
 have h := b0l (s := s) _ p v (0, 0) (Nat.le_refl _)
 have := h.2.1
 exact ⟨h.1, by omega⟩
theorem c8t {p : Nat} (h : p + 2 ≤ s.size) : s.extract p (p + 2) = ⟨#[s.get! p, s.get! (p + 1)]⟩ := by
 apply ByteArray.ext
 apply Array.toList_inj.1
 rw [ByteArray.data_extract, Array.toList_extract, List.extract_eq_take_drop, a5r (by omega), a5r (by omega), show p + 2 - p = 2 by omega]
 rfl
theorem b5a {p : Nat} (h : p + 2 ≤ s.size) (x y : UInt8) : s.extract p (p + 2) = ⟨#[x, y]⟩ ↔ by8 s p = x.toNat ∧ by8 s (p + 1) = y.toNat := by
 rw [c8t h]
 unfold by8
 rw [UInt8.toNat_inj, UInt8.toNat_inj]
 constructor
 ·intro e
  injection e with e
  have e := congrArg Array.toList e
  injection e with e1 e2
  injection e2 with e2 _
  exact ⟨e1, e2⟩
 ·rintro ⟨e1, e2⟩; rw [e1, e2]
end
section
variable {H : Hp} {s : ByteArray} (hs : s.size ≤ big)
include hs
end
section
variable {H : Hp} {s : ByteArray} (hs : s.size ≤ big)
include hs
end
section
variable {s : ByteArray}
theorem a7D {p : Nat} (hp : p < s.size) (h : (oneO s p).err = 0) : p < (oneO s p).stop ∧ (oneO s p).stop ≤ s.size := by
 obtain ⟨b, g⟩ := c5C (0, 0) hp h
 refine ⟨?_, g.size (by omega)⟩
 have hw := N9 s p
 rcases Nat.lt_or_ge p (oneO s p).stop with q | q
 ·exact q
 exfalso
 unfold oneO at h q
 split at h
 ·rename_i c
  rw [if_pos c] at q
  have e := a1S (s := s) (is := goesS) (a := (0, 0)) hp (by unfold goesS; rw [decide_eq_true c]; rfl)
  have g2 := (a3m (s := s) goesS _ (p + wd s p) (stepP (0, 0) (rn s p)) (Nat.le_refl _)).le
  unfold wordO at h q
  split at h
  ·rename_i d; rw [if_pos d, e] at q; dsimp only at q; omega
  ·rename_i d
   rw [if_neg d] at q
   split at h
   ·cases h
   ·rename_i d2; rw [if_neg d2, e] at q; dsimp only at q; omega
 ·rename_i c
  rw [if_neg c] at q
  split at h
  ·rename_i c2
   rw [if_pos c2] at q
   unfold numO at h q
   split at h
   ·cases h
   ·rename_i d
    rw [if_neg d] at q
    dsimp only at q
    have hd := a7U.1 (show digitR (rn s p) = true by unfold digitR; rw [decide_eq_true c2])
    have ha := b1B (s := s) (p := p) (by omega)
    have hr := (a5P ha).1
    rw [b2M hp (by omega)] at q
    have := (c1h (s := s) (p := p + 1) (v := 0 * 10 + (by8 s p - 48)) (by omega)).1
    omega
  ·rename_i c2
   rw [if_neg c2] at q
   split at h
   ·rename_i c3
    rw [if_pos c3] at q
    unfold signO at h q
    split at h
    ·rename_i d; rw [if_pos d] at q; dsimp only at q; omega
    ·rename_i d
     rw [if_neg d] at q
     split at h
     ·cases h
     ·rename_i d2; rw [if_neg d2] at q; dsimp only at q; omega
   ·cases h
theorem c2H : ∀ (f g p : Nat) (a : Int × Int) (out : List Tk), s.size + 1 - p ≤ f → s.size + 1 - p ≤ g → p ≤ s.size → tkF s f p a out = tkF s g p a out := by
 intro f
 induction f with
 | zero => intro g p a out h1 h2 hp; omega
 | succ f ih =>
  intro g p a out h1 h2 hp
  cases g with
  | zero => omega
  | succ g =>
   rw [tkF, tkF]
   obtain ⟨k1, k2⟩ := b0m hp
   split
   ·rfl
   ·rename_i c
    split
    ·rfl
    ·split
     ·rfl
     ·rename_i c2
      have := a7D (p := sk s p) (by omega) (Classical.byContradiction fun x => c2 x)
      exact ih _ _ _ _ (by omega) (by omega) (by omega)
end
section
variable {H : Hp} {s : ByteArray} (hs : s.size ≤ big)
include hs
end
end Go.Proofs.YthklmeihgmcljaaGreatDoor
