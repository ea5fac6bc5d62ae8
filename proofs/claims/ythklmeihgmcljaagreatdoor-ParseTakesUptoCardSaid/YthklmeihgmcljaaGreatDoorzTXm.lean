/- Parsing: what is read has its form, and its names are names. Plain. -/
import Derived.Test.YthklmeihgmcljaaGreatDoorzTXk
namespace Go.Proofs.YthklmeihgmcljaaGreatDoor
open Go.RowKit
set_option maxRecDepth 100000
set_option maxHeartbeats 1000000
def TkG (t : Tok) : Prop := (t.c8 = 1 → nameS t.B6 = true) ∧ 0 ≤ t.J5
def GdK (r : List Tok) : Prop := ∀ t ∈ r, TkG t
theorem GdK.tail {r : List Tok} (h : GdK r) : GdK r.tail := fun t ht => h t (List.mem_of_mem_tail ht)
theorem GdK.hd {r : List Tok} (h : GdK r) : TkG (hd r) := by
 cases r with
 | nil => exact ⟨fun e => absurd e (by decide), by decide⟩
 | cons t r => exact h t (by simp)
section
variable {s : ByteArray}
theorem dL {p : Nat} (hp : p < s.size) : Lib.decodeL (s.data.toList.drop p) = Utf8.decode s p := by
 unfold Lib.decodeL
 have e : (⟨(s.data.toList.drop p).toArray⟩ : ByteArray) = s.extract p s.size := by
  apply ByteArray.ext
  apply Array.toList_inj.1
  rw [a1F]
  rw [List.take_of_length_le (by rw [List.length_drop, Array.length_toList]; exact Nat.le_refl _)]
 rw [e]
 exact b1a hp
theorem b9z : ∀ (n p : Nat), s.size - p ≤ n → p ≤ s.size → Lib.validD (s.data.toList.drop p) = (chkAt s p).isNone := by
 intro n
 induction n with
 | zero =>
  intro p h hp
  have : p = s.size := by omega
  subst this
  have e : s.data.toList.drop s.size = [] := List.drop_eq_nil_of_le (by rw [Array.length_toList]; exact Nat.le_refl _)
  rw [a1f s _ (Nat.le_refl _), e]
  rfl
 | succ n ih =>
  intro p h hp
  by_cases c : p < s.size
  ·rw [Lib.validD_step _ (by rw [a5r c]; exact List.cons_ne_nil _ _), dL c, a3P s p c, List.drop_drop]
   by_cases hb : bad s p
   ·rw [if_pos hb, if_pos (show (Utf8.decode s p).1 = 65533 ∧ (Utf8.decode s p).2 = 1 from hb)]; rfl
   ·rw [if_neg hb, if_neg (show ¬ ((Utf8.decode s p).1 = 65533 ∧ (Utf8.decode s p).2 = 1) from hb)]
    have := N9 s p
    exact ih _ (by show s.size - (p + wd s p) ≤ n; omega) (a5Q c)
  ·have : p = s.size := by omega
   subst this
   have e : s.data.toList.drop s.size = [] := List.drop_eq_nil_of_le (by rw [Array.length_toList]; exact Nat.le_refl _)
   rw [a1f s _ (Nat.le_refl _), e]
   rfl
theorem c0S {p e : Nat} (he : e ≤ s.size) : ∀ (n q : Nat) (a : Int × Int), e - q ≤ n → p ≤ q → q ≤ e → (Wr s goesS q a).1 = e →
  chkAt (s.extract p e) (q - p) = none ∧ ((p < q ∨ classS (rn s q) = 3) → nameAt (s.extract p e) ((s.extract p e).size - (q - p)) (q - p) = true) := by
 intro n
 induction n with
 | zero =>
  intro q a h hp hq hw
  have hz := a3Q (s := s) (p := p) (e := e) (by omega) he
  exact ⟨a1f _ _ (by omega), fun _ => a8X (by omega) _⟩
 | succ n ih =>
  intro q a h hp hq hw
  have hz := a3Q (s := s) (p := p) (e := e) (by omega) he
  by_cases cq : q = e
  ·exact ⟨a1f _ _ (by omega), fun _ => a8X (by omega) _⟩
  ·by_cases c : q < s.size ∧ goesS (rn s q) = true
   ·rw [a1S c.1 c.2] at hw
    have hle := (a3m (s := s) goesS _ (q + wd s q) (stepP a (rn s q)) (Nat.le_refl _)).le
    rw [hw] at hle
    have hwp := N9 s q
    have hd := a8Z (s := s) (p := p) (e := e) (i := q - p) he (by omega) (by rw [show p + (q - p) = q by omega]; exact hle)
    rw [show p + (q - p) = q by omega] at hd
    obtain ⟨i1, i2⟩ := ih (q + wd s q) (stepP a (rn s q)) (by omega) (by omega) hle hw
    rw [show q + wd s q - p = q - p + wd s q by omega] at i1 i2
    have hlt : q - p < (s.extract p e).size := by omega
    refine ⟨?_, fun hc => ?_⟩
    ·rw [a3P _ _ hlt, if_neg (fun x => ?_), hd]
     ·exact i1
     ·unfold bad at x
      rw [hd] at x
      have x1 : rn s q = 65533 := by show ((Utf8.decode s q).1 : Int) = 65533; rw [x.1]; rfl
      rw [x1] at c
      exact absurd c.2 (by decide)
    ·have hn : ¬ (q - p = 0 ∧ classS ((Utf8.decode s q).1 : Int) ≠ 3) := fun x => by
      rcases hc with hc | hc
      ·omega
      ·exact x.2 hc
     rw [b0H hlt, hd, if_pos ⟨c.2, hn⟩]
     exact i2 (.inl (by omega))
   ·rw [X4 c] at hw
    exact absurd hw cq
theorem c0T {p : Nat} (hp : p < s.size) (h : (oneO s p).err = 0) : ((oneO s p).kind = 1 → nameS (oneO s p).text = true) ∧ 0 ≤ (oneO s p).num := by
 unfold oneO at h ⊢
 by_cases c3 : classS (rn s p) = 3
 ·rw [if_pos c3] at h ⊢
  unfold wordO at h ⊢
  split at h
  ·rename_i d
   rw [if_pos d]
   exact ⟨fun x => absurd x (by show ¬ (3 : Int) = 1; decide), by show (0 : Int) ≤ 0; decide⟩
  rename_i d
  rw [if_neg d]
  split at h
  ·cases h
  rename_i d2
  rw [if_neg d2]
  refine ⟨fun _ => ?_, by show (0 : Int) ≤ 0; decide⟩
  show nameS (s.extract p (Wr s goesS p (0, 0)).1) = true
  have hr := b0I (s := s) (is := goesS) (a := (0, 0)) (Nat.le_of_lt hp)
  have hg := a3m (s := s) goesS _ p (0, 0) (Nat.le_refl _)
  have hez := hg.size (Nat.le_of_lt hp)
  obtain ⟨n1, n2⟩ := c0S (s := s) (p := p) hez _ p (0, 0) (Nat.le_refl _) (Nat.le_refl _) hg.le rfl
  rw [Nat.sub_self, Nat.sub_zero] at n2
  rw [Nat.sub_self] at n1
  have hlt : p < (Wr s goesS p (0, 0)).1 := by
   rw [a1S hp (by unfold goesS; rw [decide_eq_true c3]; rfl)]
   have := (a3m (s := s) goesS _ (p + wd s p) (stepP (0, 0) (rn s p)) (Nat.le_refl _)).le
   have := N9 s p
   omega
  have hz := a3Q hg.le hez
  have hne : s.extract p (Wr s goesS p (0, 0)).1 ≠ ⟨#[]⟩ := fun x => by
   rw [x] at hz
   have : (⟨#[]⟩ : ByteArray).size = 0 := rfl
   omega
  have hv := b9z (s := s.extract p (Wr s goesS p (0, 0)).1) _ 0 (Nat.le_refl _) (Nat.zero_le _)
  rw [n1, List.drop_zero] at hv
  unfold nameS
  rw [if_neg, n2 (.inr c3)]
  rw [hr, hv, decide_eq_false hne]
  simp only [Bool.not_eq_true] at d
  rw [d, decide_eq_false (by omega)]
  decide
 rw [if_neg c3] at h ⊢
 split at h
 ·rename_i c4
  rw [if_pos c4]
  unfold numO at h ⊢
  split at h
  ·cases h
  rename_i d
  rw [if_neg d]
  exact ⟨fun x => absurd x (by show ¬ (2 : Int) = 1; decide), by show (0 : Int) ≤ ((dg s p 0).2 : Int); omega⟩
 rename_i c4
 rw [if_neg c4]
 split at h
 ·rename_i c5
  rw [if_pos c5]
  unfold signO at h ⊢
  split at h
  ·rename_i d
   rw [if_pos d]
   exact ⟨fun x => absurd x (by show ¬ (4 : Int) = 1; decide), by show (0 : Int) ≤ 0; decide⟩
  rename_i d
  rw [if_neg d]
  split at h
  ·cases h
  rename_i d2
  rw [if_neg d2]
  exact ⟨fun x => absurd x (by show ¬ (4 : Int) = 1; decide), by show (0 : Int) ≤ 0; decide⟩
 ·cases h
theorem b9A : ∀ (f p : Nat) (a : Int × Int) (out : List Tk), p ≤ s.size → (∀ t ∈ out, (t.kind = 1 → nameS t.text = true) ∧ 0 ≤ t.num) → ∀ t ∈ (tkF s f p a out).1, (t.kind = 1 → nameS t.text = true) ∧ 0 ≤ t.num
 | 0, p, a, out, _, _ => fun t ht => by cases ht
 | f + 1, p, a, out, hp, ho => by
  have hk := b0m hp
  rw [tkF]
  by_cases c : ¬ sk s p < s.size
  ·rw [if_pos c]
   intro t ht
   rcases List.mem_append.1 ht with q | q
   ·exact ho t q
   ·rw [List.mem_singleton.1 q]
    exact ⟨fun x => absurd x (by show ¬ (5 : Int) = 1; decide), by show (0 : Int) ≤ 0; decide⟩
  rw [if_neg c]
  by_cases c2 : out.length = 32768
  ·rw [if_pos c2]; exact fun t ht => by cases ht
  rw [if_neg c2]
  by_cases c3 : (oneO s (sk s p)).err ≠ 0
  ·rw [if_pos c3]; exact fun t ht => by cases ht
  rw [if_neg c3]
  have c3' : (oneO s (sk s p)).err = 0 := Classical.byContradiction c3
  have hps : sk s p < s.size := Classical.byContradiction c
  have hst := a7D hps c3'
  refine b9A f _ _ _ hst.2 fun t ht => ?_
  rcases List.mem_append.1 ht with q | q
  ·exact ho t q
  ·rw [List.mem_singleton.1 q]
   exact c0T hps c3'
theorem c3k : GdK (toks s) := fun t ht => by
 obtain ⟨u, hu, rfl⟩ := List.mem_map.1 ht
 unfold tkS at hu
 split at hu
 ·cases hu
 split at hu
 ·cases hu
 ·exact b9A _ _ _ _ (Nat.zero_le _) (fun t ht => by cases ht) u hu
end
def Gd (t : PT) : Prop := formT t = true ∧ namesT t = true
def GdL (ts : List PT) : Prop := formTs ts = true ∧ namesTs ts = true
def FmP {α : Type} (G : α → Prop) (p : PM α) : Prop := ∀ r a r', GdK r → p r = .ok (a, r') → G a ∧ GdK r'
theorem FmP.bind {α β : Type} {G : α → Prop} {G2 : β → Prop} {p : PM α} {f : α → PM β} (hp : FmP G p) (hf : ∀ a, G a → FmP G2 (f a)) : FmP G2 (bindP p f) := fun r b r' ht h => by
 obtain ⟨a, r1, h1, h2⟩ := bind_ok h
 obtain ⟨ga, t1⟩ := hp _ _ _ ht h1
 exact hf a ga _ _ _ t1 h2
theorem a2J {α : Type} {G : α → Prop} {a : α} (h : G a) : FmP G (pureP a) := fun r b r' ht e => by cases e; exact ⟨h, ht⟩
theorem a3t (s : ByteArray) : FmP (fun _ => True) (mustP s) := fun r b r' ht h => by
 unfold mustP at h
 split at h
 ·cases h; exact ⟨trivial, ht.tail⟩
 ·cases h
theorem b2U {α : Type} {G : α → Prop} (b : List Tok → Bool) : FmP G (deadE (α := α) b) := fun r a r' _ h => by
 unfold deadE at h
 split at h <;> cases h
theorem GdL.nil : GdL [] := ⟨rfl, rfl⟩
theorem GdL.one {t : PT} (h : Gd t) : GdL [t] := ⟨by rw [formTs, formTs, h.1]; rfl, by rw [namesTs, namesTs, h.2]; rfl⟩
theorem GdL.app {a b : List PT} (h : GdL a) (k : GdL b) : GdL (a ++ b) := ⟨by rw [b1P, h.1, k.1]; rfl, by rw [b0L, h.2, k.2]; rfl⟩
theorem GdL.two {t u : PT} (h : Gd t) (k : Gd u) : GdL [t, u] := GdL.app (GdL.one h) (GdL.one k)
theorem Gd.mk {l : Lab} {cs : List PT} (h : formL l = true) (hn : nameOk l = true) (hc : GdL cs) : Gd (.mk l cs) := ⟨by rw [formT, h, hc.1]; rfl, by rw [namesT, hn, hc.2]; rfl⟩
def okW (w : List Tok → Int) : Prop := ∀ r, w r ≠ 0 → formE (w r) 0 ⟨#[]⟩ 2 = true ∧ nameOk (.expr (w r) 0 ⟨#[]⟩ 2) = true
theorem c3l : okW (whG sMul kMul) := fun r => by
 simp only [a1G]
 split
 ·exact fun _ => ⟨by kernel_rfl, by kernel_rfl⟩
 split
 ·exact fun _ => ⟨by kernel_rfl, by kernel_rfl⟩
 split
 ·exact fun _ => ⟨by kernel_rfl, by kernel_rfl⟩
 ·exact fun h => absurd rfl h
theorem c3m : okW (whG sAdd kAdd) := fun r => by
 simp only [a1G]
 split
 ·exact fun _ => ⟨by kernel_rfl, by kernel_rfl⟩
 split
 ·exact fun _ => ⟨by kernel_rfl, by kernel_rfl⟩
 ·exact fun h => absurd rfl h
theorem b3x {w : List Tok → Int} (hw : okW w) {part : PM PT} (hp : FmP Gd part) : ∀ (n : Nat) (e : PT), Gd e → FmP Gd (chainF w part n e)
 | 0, e, he => fun r b r' ht h => by cases h; exact ⟨he, ht⟩
 | n + 1, e, he => fun r b r' ht h => by
  unfold chainF at h
  split at h
  ·cases h; exact ⟨he, ht⟩
  ·rename_i c
   exact FmP.bind hp (fun a ha => b3x hw hp n _ (Gd.mk (l := .expr (w r) 0 ⟨#[]⟩ 2) (hw r c).1 (hw r c).2 (.two he ha))) _ _ _ ht.tail h
theorem b3y {s : ByteArray} {k : Int} (hk : k = 5 ∨ k = 6) {part : PM PT} (hp : FmP Gd part) : ∀ (n : Nat) (e : PT), Gd e → FmP Gd (joinsF s k part n e)
 | 0, e, he => fun r b r' ht h => by cases h; exact ⟨he, ht⟩
 | n + 1, e, he => fun r b r' ht h => by
  unfold joinsF at h
  split at h
  ·exact FmP.bind hp (fun a ha => b3y hk hp n _ (Gd.mk (by rcases hk with rfl | rfl <;> kernel_rfl) rfl (.two he ha))) _ _ _ ht.tail h
  ·cases h; exact ⟨he, ht⟩
theorem b3z {w : List Tok → Int} (hw : okW w) {part : PM PT} (hp : FmP Gd part) : FmP Gd (chainP w part) := hp.bind fun e he r _ _ ht h => b3x hw hp r.length e he _ _ _ ht h
theorem b3A {s : ByteArray} {k : Int} (hk : k = 5 ∨ k = 6) {part : PM PT} (hp : FmP Gd part) : FmP Gd (joinsP s k part) := hp.bind fun e he r _ _ ht h => b3y hk hp r.length e he _ _ _ ht h
theorem b3B {f : PM PT} (hf : FmP Gd f) : FmP Gd (exprOf f) := b3z c3m (b3z c3l hf)
theorem b0M {s : ByteArray} {n : Nat} {k : Int} (h : nameS s = true) : nameOk (.expr k 0 s n) = true := by
 unfold nameOk
 split
 ·exact h
 ·rfl
theorem c0U {f : PM PT} (hf : FmP Gd f) : FmP Gd (factS f) := fun r a r' ht h => by
 have he := b3B hf
 have t1 := ht.hd
 unfold factS at h
 split at h
 ·cases h
 rename_i b0
 split at h
 ·exact (hf.bind fun e h => a2J (.mk (by kernel_rfl) rfl (.one h))) _ _ _ ht.tail h
 rename_i b1
 split at h
 ·exact (he.bind fun e h => (a3t _).bind fun _ _ => a2J h) _ _ _ ht.tail h
 rename_i b2
 split at h
 ·cases h; exact ⟨.mk (by kernel_rfl) rfl .nil, ht.tail⟩
 rename_i b3
 split at h
 ·cases h
  refine ⟨.mk ?_ rfl .nil, ht.tail⟩
  have : decide (0 ≤ (hd r).J5) = true := decide_eq_true t1.2
  show formE 1 (hd r).J5 ⟨#[]⟩ 0 = true
  unfold formE
  rw [if_neg (by simp), if_pos rfl, this]
  rfl
 rename_i b4
 have hk : (hd r).c8 = 1 := by
  unfold factB at b0
  simp only [Bool.not_eq_false, Bool.or_eq_true, decide_eq_true_eq] at b0
  rcases b0 with (((q | q) | q) | q) | q
  ·exact q
  ·exact absurd q b4
  ·exact absurd q b1
  ·exact absurd q b3
  ·exact absurd q b2
 have hn := t1.1 hk
 have hf4 : formE 4 0 (hd r).B6 1 = true := by
  unfold formE
  rw [if_neg (by simp), if_neg (by decide), if_neg (by decide), if_pos (by decide)]
  rfl
 have hf2 : formE 2 0 (hd r).B6 0 = true := by
  unfold formE
  rw [if_neg (by simp), if_neg (by decide), if_pos (by decide)]
  rfl
 split at h
 ·exact (he.bind fun e h => (a3t _).bind fun _ _ => a2J (.mk hf4 (b0M hn) (.one h))) _ _ _ ht.tail.tail h
 ·cases h; exact ⟨.mk hf2 (b0M hn) .nil, ht.tail⟩
theorem b5z : ∀ g, FmP Gd (factP g)
 | 0 => b2U _
 | g + 1 => c0U (b5z g)
theorem b1h (g : Nat) : FmP Gd (exprP g) := b3B (b5z g)
theorem c3n : FmP (fun op => formC 3 op 2 0 = true) relP := fun r a r' ht h => by
 unfold relP at h
 split at h
 ·cases h
 ·rename_i c
  cases h
  refine ⟨?_, ht.tail⟩
  revert c
  unfold relR
  simp only [a1G]
  split
  ·exact fun _ => by kernel_rfl
  split
  ·exact fun _ => by kernel_rfl
  split
  ·exact fun _ => by kernel_rfl
  split
  ·exact fun _ => by kernel_rfl
  split
  ·exact fun _ => by kernel_rfl
  split
  ·exact fun _ => by kernel_rfl
  ·exact fun h => absurd rfl h
theorem b3C {l : PM PT} (hl : FmP Gd l) : FmP Gd (condOf l) := b3A (.inr rfl) (b3A (.inl rfl) hl)
theorem c3o {l ex : PM PT} (hl : FmP Gd l) (hx : FmP Gd ex) : FmP Gd (litS l ex) := fun r a r' ht h => by
 have hc := b3C hl
 unfold litS at h
 split at h
 ·cases h
 split at h
 ·cases h; exact ⟨.mk (by kernel_rfl) rfl .nil, ht.tail⟩
 split at h
 ·cases h; exact ⟨.mk (by kernel_rfl) rfl .nil, ht.tail⟩
 split at h
 ·exact (hl.bind fun e h => a2J (.mk (by kernel_rfl) rfl (.one h))) _ _ _ ht.tail h
 split at h
 ·exact (hc.bind fun e h => (a3t _).bind fun _ _ => a2J h) _ _ _ ht.tail h
 ·exact (hx.bind fun a ha => c3n.bind fun op ho => hx.bind fun b hb => a2J (.mk ho rfl (.two ha hb))) _ _ _ ht h
theorem b7b : ∀ g, FmP Gd (litP g)
 | 0 => b2U _
 | g + 1 => c3o (b7b g) (b1h _)
theorem c0V (g : Nat) : FmP Gd (condP g) := b3C (b7b g)
theorem a9P {stop : List Tok → Bool} {st : PM PT} (hs : FmP Gd st) : ∀ (n : Nat) (l : List PT), GdL l → FmP GdL (stmtsF stop st n l)
 | 0, l, hl => fun r b r' ht h => by cases h; exact ⟨hl, ht⟩
 | n + 1, l, hl => fun r b r' ht h => by
  unfold stmtsF at h
  split at h
  ·cases h; exact ⟨hl, ht⟩
  ·exact FmP.bind hs (fun a ha => a9P hs n _ (hl.app (.one ha))) _ _ _ ht h
theorem b8b {st : PM PT} (hs : FmP Gd st) : FmP GdL (blockOf st) := (a3t _).bind fun _ _ => FmP.bind (G := GdL) (fun r _ _ ht h => a9P hs r.length [] .nil _ _ _ ht h) fun l hl r _ r' ht h => by
 cases h; exact ⟨hl, ht.tail⟩
theorem b0w {s : PT} (h : Gd s) : FmP Gd (endS s) := (a3t _).bind fun _ _ => a2J h
theorem a9g {k : Int} {s : ByteArray} {es cs vs ws : List PT} (h : formS k s es.length cs.length vs.length ws.length = true) (hn : nameOk (.stmt k s es.length cs.length vs.length ws.length) = true) (he : GdL es) (hc : GdL cs) (hv : GdL vs) (hw : GdL ws) : Gd (sX k s es cs vs ws) := .mk h hn (hc.app (he.app (hv.app hw)))
theorem b5Z {s : ByteArray} {k : Int} {a b c d : Nat} (h : nameS s = true) : nameOk (.stmt k s a b c d) = true := by
 unfold nameOk
 split
 ·exact h
 ·rfl
theorem b7c {k : Int} {s : ByteArray} {es : List PT} {ex : PM PT} (hk : (k = 1 ∧ es.length = 0) ∨ (k = 2 ∧ es.length = 1)) (hs : nameS s = true) (he : GdL es) (hx : FmP Gd ex) : FmP Gd (setS k s es ex) := (a3t _).bind fun _ _ => hx.bind fun e h => b0w (a9g (by
  rw [List.length_append]
  rcases hk with ⟨rfl, q⟩ | ⟨rfl, q⟩ <;> rw [q] <;> rfl) (b5Z hs) (he.app (.one h)) .nil .nil .nil)
theorem c0W {st sub ex co : PM PT} (hs : FmP Gd st) (hb : FmP Gd sub) (hx : FmP Gd ex) (hc : FmP Gd co) : FmP Gd (stmtS st sub ex co) := fun r a r' ht h => by
 have t1 := ht.hd
 have hbl := b8b hs
 have f3 : ∀ a b : Nat, formS 3 ⟨#[]⟩ 0 1 a b = true := fun a b => rfl
 have f4 : ∀ a : Nat, formS 4 ⟨#[]⟩ 0 1 a 0 = true := fun a => rfl
 unfold stmtS at h
 split at h
 ·cases h
 split at h
 ·rename_i hk
  have hn := t1.1 hk
  split at h
  ·exact (hb.bind fun e h => (a3t _).bind fun _ _ => b7c (.inr ⟨rfl, rfl⟩) hn (.one h) hx) _ _ _ ht.tail.tail h
  ·exact b7c (.inl ⟨rfl, rfl⟩) hn .nil hx _ _ _ ht.tail h
 split at h
 ·refine (hc.bind fun c hc' => hbl.bind fun th hth r1 a1 r2 ht1 h1 => ?_) _ _ _ ht.tail h
  split at h1
  ·exact (hbl.bind fun el hel => a2J (a9g (f3 _ _) rfl .nil (.one hc') hth hel)) _ _ _ ht1.tail h1
  ·cases h1; exact ⟨a9g (f3 _ _) rfl .nil (.one hc') hth .nil, ht1⟩
 split at h
 ·exact (hc.bind fun c hc' => hbl.bind fun th hth => a2J (a9g (f4 _) rfl .nil (.one hc') hth .nil)) _ _ _ ht.tail h
 split at h
 ·exact (hc.bind fun c hc' => b0w (a9g (by kernel_rfl) rfl .nil (.one hc') .nil .nil)) _ _ _ ht.tail h
 split at h
 ·exact (hc.bind fun c hc' => b0w (a9g (by kernel_rfl) rfl .nil (.one hc') .nil .nil)) _ _ _ ht.tail h
 ·exact b0w (a9g (by kernel_rfl) rfl .nil .nil .nil .nil) _ _ _ ht.tail h
theorem b5A : ∀ g, FmP Gd (stmtP g)
 | 0 => b2U _
 | g + 1 => c0W (b5A g) (b1h _) (b1h _) (c0V _)
def GdD (d : k7) : Prop := (0 ≤ d.a0o ∧ d.a0o ≤ 2147483647) ∧ nameS d.o9 = true
theorem c0X (arr : Bool) : FmP GdD (declP arr) := fun r a r' ht h => by
 have t1 := ht.hd
 unfold declP at h
 split at h
 ·cases h
 rename_i hk
 have hn := t1.1 (Classical.byContradiction hk)
 split at h
 ·refine ((a3t _).bind fun _ _ r1 a1 r2 ht1 h1 => ?_) _ _ _ ht.tail h
  split at h1
  ·cases h1
  rename_i c
  simp only [Bool.not_eq_true, Bool.or_eq_false_iff, decide_eq_false_iff_not] at c
  exact ((a3t _).bind fun _ _ => (a3t _).bind fun _ _ => a2J ⟨⟨by show 0 ≤ (hd r1).J5; omega, by show (hd r1).J5 ≤ _; omega⟩, hn⟩) _ _ _ ht1.tail h1
 ·exact ((a3t _).bind fun _ _ => a2J ⟨⟨by show (0 : Int) ≤ 0; decide, by show (0 : Int) ≤ _; decide⟩, hn⟩) _ _ _ ht.tail h
theorem b3D : ∀ (n : Nat) (l : List k7), (∀ d ∈ l, GdD d) → FmP (fun l => ∀ d ∈ l, GdD d) (declsF n l)
 | 0, l, hl => fun r b r' ht h => by cases h; exact ⟨hl, ht⟩
 | n + 1, l, hl => fun r b r' ht h => by
  unfold declsF at h
  split at h
  ·exact FmP.bind (c0X _) (fun d hd => b3D n _ fun x hx => by
    rcases List.mem_append.1 hx with q | q
    ·exact hl x q
    ·rw [List.mem_singleton.1 q]; exact hd) _ _ _ ht.tail h
  ·cases h; exact ⟨hl, ht⟩
theorem b5B : ∀ l : List k7, (∀ d ∈ l, GdD d) → GdL (l.map dT)
 | [], _ => .nil
 | d :: l, h => by
  have hd := h d (by simp)
  have hg : Gd (dT d) := .mk (by show (decide (0 ≤ d.a0o) && decide (d.a0o ≤ 2147483647)) = true; rw [decide_eq_true hd.1.1, decide_eq_true hd.1.2]; rfl) (by show (if true = true then nameS d.o9 else true) = true; rw [if_pos rfl]; exact hd.2) .nil
  exact GdL.app (a := [dT d]) (.one hg) (b5B l fun x hx => h x (List.mem_cons_of_mem _ hx))
theorem c0Y : FmP (fun b => GdL b.nodes) progP := FmP.bind (G := fun l => ∀ d ∈ l, GdD d) (fun r _ _ ht h => b3D r.length [] (fun _ q => (by cases q)) _ _ _ ht h) fun ds hd => FmP.bind (G := GdL) (fun r _ _ ht h => a9P (b5A 40) r.length [] .nil _ _ _ ht h) fun b hb => a2J ((b5B ds hd).app hb)
def Fb (s : W) : Prop := s.fbad = 0 ∨ s.fbad = 32 ∨ s.fbad = 33
theorem c0Z {s : W} {d : Int} (h : Fb s) : Fb (wStep s d) := by
 unfold wStep
 unfold Fb at h ⊢
 repeat' split
 all_goals first | exact h | (dsimp only; omega)
mutual
theorem c7o : ∀ (t : PT) (d : Int) (s : W), Fb s → Fb (wT t d s)
 | .mk _ cs, d, s, h => by rw [wT]; exact b5C cs _ _ (c0Z h)
theorem b5C : ∀ (ts : List PT) (d : Int) (s : W), Fb s → Fb (wTs ts d s)
 | [], _, s, h => by rw [wTs]; exact h
 | t :: ts, d, s, h => by rw [wTs]; exact b5C ts d _ (c7o t d s h)
end
theorem b5D {s : ByteArray} {b : PP} (h : ansR progP chkP s = .ok b) : chkP b = 0 := by
 unfold ansR at h
 split at h
 ·unfold readsR at h
  split at h
  ·cases h
  ·rename_i b' r' eo
   have hg := (c0Y _ _ _ c3k eo).1
   split at h
   ·cases h
   split at h
   ·cases h
   split at h
   ·cases h
   rename_i c2 c3
   cases h
   show toldS b.nodes = 0
   have c2 : ¬ toldS b.nodes = 32 := c2
   have c3 : ¬ toldS b.nodes = 33 := c3
   have hw : Fb (wTs b.nodes 1 w0S) := b5C _ _ _ (.inl rfl)
   unfold Fb at hw
   unfold toldS at c2 c3 ⊢
   rw [hg.1, hg.2] at c2 c3 ⊢
   by_cases q : (wTs b.nodes 1 w0S).fbad = 0
   ·rw [if_pos q]; rfl
   ·rw [if_neg q] at c2 c3
    rcases hw with e | e | e
    ·exact absurd e q
    ·exact absurd e c2
    ·exact absurd e c3
 ·cases h
end Go.Proofs.YthklmeihgmcljaaGreatDoor
