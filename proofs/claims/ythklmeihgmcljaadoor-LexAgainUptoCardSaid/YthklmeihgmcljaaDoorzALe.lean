/- LexAgain: tokens with blanks (or a comment and a line feed) behind each are read as the same ones, but their places. -/
import Derived.Test.YthklmeihgmcljaaDoorzAS6
import Derived.Test.YthklmeihgmcljaaDoorzALa
import Derived.Test.YthklmeihgmcljaaDoorzALd
namespace Go.Proofs.YthklmeihgmcljaaDoor
open Go.RowKit
set_option maxRecDepth 100000
set_option maxHeartbeats 1000000
def psL (c : Bool) : List UInt8 := 32 :: (if c = true then [35, 32, 61, 32, 10, 9] else [])
def tT (c : Bool) (l : List Tk) : List UInt8 := l.flatMap fun t => t.text.data.toList ++ psL c
theorem a3L (c : Bool) (a b : List Tk) : tT c (a ++ b) = tT c a ++ tT c b := by unfold tT; rw [List.flatMap_append]
theorem a2e (c : Bool) (t : Tk) (l : List Tk) : tT c (t :: l) = t.text.data.toList ++ (psL c ++ tT c l) := by
  unfold tT; rw [List.flatMap_cons, List.append_assoc]
theorem a2f (c : Bool) : 1 ≤ (psL c).length ∧ (psL c).length ≤ 7 := by cases c <;> decide
theorem a1B {n n' b0 b1 b2 b3 c1 c2 c3 : Nat} (h1 : 1 < (Lib.decodeN n b0 b1 b2 b3).2 → c1 = b1 ∧ 1 < n') (h2 : 2 < (Lib.decodeN n b0 b1 b2 b3).2 → c2 = b2 ∧ 2 < n') (h3 : 3 < (Lib.decodeN n b0 b1 b2 b3).2 → c3 = b3 ∧ 3 < n')
    (hb : ¬ ((Lib.decodeN n b0 b1 b2 b3).1 = 65533 ∧ (Lib.decodeN n b0 b1 b2 b3).2 = 1)) : Lib.decodeN n' b0 c1 c2 c3 = Lib.decodeN n b0 b1 b2 b3 := by
  unfold Lib.decodeN at h1 h2 h3 hb ⊢
  by_cases a0 : b0 < 128
  · rw [if_pos a0, if_pos a0]
  rw [if_neg a0] at h1 h2 h3 hb ⊢
  rw [if_neg a0]
  by_cases a1 : b0 / 32 = 6 ∧ (1 < n ∧ b1 / 64 = 2)
  · rw [if_pos a1] at h1 h2 h3 hb ⊢
    split at h1
    · rename_i q
      obtain ⟨rfl, k1⟩ := h1 (by show 1 < 2; decide)
      rw [if_pos ⟨a1.1, k1, a1.2.2⟩, if_pos q]
    · rename_i q
      rw [if_neg q] at hb
      exact absurd ⟨rfl, rfl⟩ hb
  rw [if_neg a1] at h1 h2 h3 hb ⊢
  by_cases a2 : b0 / 16 = 14 ∧ (1 < n ∧ b1 / 64 = 2) ∧ (2 < n ∧ b2 / 64 = 2)
  · rw [if_pos a2] at h1 h2 h3 hb ⊢
    split at h1
    · rename_i q
      rw [if_pos q] at h2
      obtain ⟨rfl, k1⟩ := h1 (by show 1 < 3; decide)
      obtain ⟨rfl, k2⟩ := h2 (by show 2 < 3; decide)
      rw [if_neg (by omega), if_pos ⟨a2.1, ⟨k1, a2.2.1.2⟩, k2, a2.2.2.2⟩, if_pos q]
    · rename_i q
      rw [if_neg q] at hb
      exact absurd ⟨rfl, rfl⟩ hb
  rw [if_neg a2] at h1 h2 h3 hb ⊢
  by_cases a3 : b0 / 8 = 30 ∧ (1 < n ∧ b1 / 64 = 2) ∧ (2 < n ∧ b2 / 64 = 2) ∧ (3 < n ∧ b3 / 64 = 2)
  · rw [if_pos a3] at h1 h2 h3 hb ⊢
    split at h1
    · rename_i q
      rw [if_pos q] at h2 h3
      obtain ⟨rfl, k1⟩ := h1 (by show 1 < 4; decide)
      obtain ⟨rfl, k2⟩ := h2 (by show 2 < 4; decide)
      obtain ⟨rfl, k3⟩ := h3 (by show 3 < 4; decide)
      rw [if_neg (by omega), if_neg (by omega), if_pos ⟨a3.1, ⟨k1, a3.2.1.2⟩, ⟨k2, a3.2.2.1.2⟩, k3, a3.2.2.2.2⟩, if_pos q]
    · rename_i q
      rw [if_neg q] at hb
      exact absurd ⟨rfl, rfl⟩ hb
  rw [if_neg a3] at hb
  exact absurd ⟨rfl, rfl⟩ hb
structure Ag (s t : ByteArray) (p q len : Nat) : Prop where
  hs : p + len ≤ s.size
  ht : q + len < t.size
  eq : ∀ j, j < len → t.get! (q + j) = s.get! (p + j)
  nx : t.get! (q + len) = 32
theorem Dr.get {t : ByteArray} : ∀ {l : List UInt8} {q j : Nat} {c : UInt8}, Dr t q l → l[j]? = some c → q + j < t.size ∧ t.get! (q + j) = c
  | [], _, _, _, _, h => by simp at h
  | x :: l, q, 0, c, h, hj => by
    obtain ⟨h1, h2, _⟩ := h.cons
    have : x = c := Option.some.inj hj
    exact ⟨h1, by rw [Nat.add_zero, h2, this]⟩
  | x :: l, q, j + 1, c, h, hj => by
    have := Dr.get (j := j) h.cons.2.2 hj
    rw [show q + (j + 1) = q + 1 + j by omega]
    exact this
section
variable {s t : ByteArray} {p q len : Nat}
theorem Ag.of (h1 : p + len ≤ s.size) {r : List UInt8} (h : Dr t q ((s.extract p (p + len)).data.toList ++ 32 :: r)) : Ag s t p q len := by
  have hl : (s.extract p (p + len)).data.toList.length = len := by
    rw [Array.length_toList]
    have := A5 (s := s) (p := p) (e := p + len) (by omega) h1
    have e : (s.extract p (p + len)).data.size = (s.extract p (p + len)).size := rfl
    omega
  have hn := Dr.get (j := len) (c := 32) h (by rw [List.getElem?_append_right (by omega), hl, Nat.sub_self]; rfl)
  refine ⟨h1, hn.1, fun j hj => ?_, hn.2⟩
  have hc := N8 (s := s.extract p (p + len)) (p := j) (by rw [A5 (by omega) h1]; omega)
  rw [M0 h1 (by omega)] at hc
  exact (Dr.get (j := j) h (by rw [List.getElem?_append_left (by omega)]; exact hc)).2
theorem Ag.dec (h : Ag s t p q len) {i : Nat} (hi : i < len) (hb : ¬ bad s (p + i)) (hw : i + wd s (p + i) ≤ len) : Utf8.decode t (q + i) = Utf8.decode s (p + i) := by
  unfold wd at hw
  unfold bad at hb
  have ht := h.ht
  rw [Lib.decode_at s (p + i)] at hw hb ⊢
  rw [Lib.decode_at t (q + i), h.eq i hi]
  refine a1B (fun x => ⟨?_, by omega⟩) (fun x => ⟨?_, by omega⟩) (fun x => ⟨?_, by omega⟩) hb
  · rw [show q + i + 1 = q + (i + 1) by omega, h.eq (i + 1) (by omega), show p + (i + 1) = p + i + 1 by omega]
  · rw [show q + i + 2 = q + (i + 2) by omega, h.eq (i + 2) (by omega), show p + (i + 2) = p + i + 2 by omega]
  · rw [show q + i + 3 = q + (i + 3) by omega, h.eq (i + 3) (by omega), show p + (i + 3) = p + i + 3 by omega]
theorem Ag.a4r (h : Ag s t p q len) : rn t (q + len) = 32 := by
  have := (G7 (s := t) (p := q + len) (by unfold by8; rw [h.nx]; decide)).1
  unfold by8 at this
  rw [h.nx] at this
  exact this
theorem Ag.ext (h : Ag s t p q len) : t.extract q (q + len) = s.extract p (p + len) := by
  have h1 := h.hs
  have h2 := h.ht
  apply ByteArray.ext
  apply Array.toList_inj.1
  apply List.ext_getElem?
  intro j
  by_cases c : j < len
  · have a := N8 (s := t.extract q (q + len)) (p := j) (by rw [A5 (by omega) (by omega)]; omega)
    have b := N8 (s := s.extract p (p + len)) (p := j) (by rw [A5 (by omega) (by omega)]; omega)
    rw [a, b, M0 (by omega) (by omega), M0 h1 (by omega), h.eq j c]
  · rw [List.getElem?_eq_none, List.getElem?_eq_none]
    · rw [Array.length_toList]
      have := A5 (s := s) (p := p) (e := p + len) (by omega) h1
      have e : (s.extract p (p + len)).data.size = (s.extract p (p + len)).size := rfl
      omega
    · rw [Array.length_toList]
      have := A5 (s := t) (p := q) (e := q + len) (by omega) (by omega)
      have e : (t.extract q (q + len)).data.size = (t.extract q (q + len)).size := rfl
      omega
theorem Z2 {p : Nat} (hp : p < s.size) (h : chkAt s p = none) : ¬ bad s p ∧ chkAt s (p + wd s p) = none := by
  rw [M5 s p hp] at h
  by_cases c : bad s p
  · rw [if_pos c] at h; cases h
  · rw [if_neg c] at h; exact ⟨c, h⟩
theorem a2g {p q : Nat} {a b : Int × Int} (h : Go2 s p a q b) : chkAt s p = none → chkAt s q = none := by
  induction h with
  | refl => exact id
  | step hp _ ih => exact fun k => ih (Z2 hp k).2
theorem Ag.run (h : Ag s t p q len) {is : Int → Bool} (h32 : is 32 = false) : ∀ (n i : Nat) (a b : Int × Int), len - i ≤ n → i ≤ len → chkAt s (p + i) = none → (Wr s is (p + i) a).1 = p + len →
    (Wr t is (q + i) b).1 = q + len ∧ (∀ m, cnt t is (q + i) m = cnt s is (p + i) m) ∧ chkAt t (q + i) = chkAt t (q + len) := by
  have last : ∀ (a b : Int × Int), (Wr s is (p + len) a).1 = p + len → (Wr t is (q + len) b).1 = q + len ∧ (∀ m, cnt t is (q + len) m = cnt s is (p + len) m) ∧ chkAt t (q + len) = chkAt t (q + len) := by
    intro a b hw
    have n1 : ¬ (q + len < t.size ∧ is (rn t (q + len)) = true) := fun x => by rw [h.a4r, h32] at x; cases x.2
    have n2 : ¬ (p + len < s.size ∧ is (rn s (p + len)) = true) := fun x => by
      rw [B7 x.1 x.2] at hw
      have g := (G6 (s := s) is _ (p + len + wd s (p + len)) (stepP a (rn s (p + len))) (Nat.le_refl _)).le
      have := q7 s (p + len)
      omega
    exact ⟨by rw [u0 n1], fun m => by rw [T8 n1, T8 n2], rfl⟩
  intro n
  induction n with
  | zero =>
    intro i a b hn hi _ hw
    obtain rfl : i = len := by omega
    exact last a b hw
  | succ n ih =>
    intro i a b hn hi hc hw
    by_cases ci : i = len
    · subst ci; exact last a b hw
    have h1 := h.hs
    have h2 := h.ht
    by_cases c : p + i < s.size ∧ is (rn s (p + i)) = true
    · rw [B7 c.1 c.2] at hw
      have g := (G6 (s := s) is _ (p + i + wd s (p + i)) (stepP a (rn s (p + i))) (Nat.le_refl _)).le
      obtain ⟨k1, k2⟩ := Z2 c.1 hc
      rw [hw] at g
      have hd := h.dec (i := i) (by omega) k1 (by omega)
      have er : rn t (q + i) = rn s (p + i) := by unfold rn; rw [hd]
      have ew : wd t (q + i) = wd s (p + i) := by unfold wd; rw [hd]
      have hwp := q7 s (p + i)
      have hq : q + i < t.size := by omega
      have hbt : ¬ bad t (q + i) := by unfold bad; rw [hd]; exact k1
      rw [Nat.add_assoc] at hw k2
      obtain ⟨j1, j2, j3⟩ := ih (i + wd s (p + i)) (stepP a (rn s (p + i))) (stepP b (rn t (q + i))) (by omega) (by omega) k2 hw
      refine ⟨?_, fun m => ?_, ?_⟩
      · rw [B7 hq (by rw [er]; exact c.2), ew, Nat.add_assoc]; exact j1
      · rw [Y8 hq (by rw [er]; exact c.2), Y8 c.1 c.2, ew, Nat.add_assoc, Nat.add_assoc]; exact j2 _
      · rw [M5 t _ hq, if_neg hbt]
        show chkAt t (q + i + wd t (q + i)) = _
        rw [ew, Nat.add_assoc]; exact j3
    · rw [u0 c] at hw
      dsimp only at hw
      omega
end
theorem Go2.first {s : ByteArray} {p q : Nat} {a b : Int × Int} (h : Go2 s p a q b) (hq : p < q) : p + wd s p ≤ q := by
  cases h with
  | refl => omega
  | step _ g => exact g.le
def Tok (s : ByteArray) (k : Tk) : Prop := ∃ p, p < s.size ∧ chkAt s p = none ∧ (oneO s p).err = 0 ∧ k.kind = (oneO s p).kind ∧ k.text = (oneO s p).text ∧ k.num = (oneO s p).num
section
variable {s : ByteArray}
theorem a1C {p : Nat} (h : (oneO s p).err = 0) : (oneO s p).text = s.extract p (oneO s p).stop := by
  unfold oneO at h ⊢
  by_cases c3 : classS (rn s p) = 3
  · rw [if_pos c3] at h ⊢
    unfold wordO at h ⊢
    by_cases d : wordS (s.extract p (Wr s goesS p (0, 0)).1) = true
    · rw [if_pos d]
    · rw [if_neg d] at h ⊢
      by_cases d2 : 32 < cnt s goesS p 0
      · rw [if_pos d2] at h; cases h
      · rw [if_neg d2]
  rw [if_neg c3] at h ⊢
  by_cases c4 : classS (rn s p) = 4
  · rw [if_pos c4] at h ⊢
    unfold numO at h ⊢
    split at h
    · cases h
    · rename_i d; rw [if_neg d]
  rw [if_neg c4] at h ⊢
  by_cases c5 : classS (rn s p) = 5
  · rw [if_pos c5] at h ⊢
    unfold signO at h ⊢
    by_cases d : two s p
    · rw [if_pos d]
    · rw [if_neg d] at h ⊢
      by_cases d2 : by8 s p = 38 ∨ by8 s p = 124
      · rw [if_pos d2] at h; cases h
      · rw [if_neg d2]
  · rw [if_neg c5] at h; cases h
theorem a4s : ∀ (f p : Nat) (a : Int × Int) (out : List Tk), s.size + 1 - p ≤ f → p ≤ s.size → chkAt s p = none → out.length ≤ 32768 → (∀ k ∈ out, Tok s k) → (tkF s f p a out).2.2 = 0 →
    ∃ (l : List Tk) (b : Int × Int), (tkF s f p a out).1 = l ++ [⟨5, ⟨#[]⟩, 0, b⟩] ∧ l.length ≤ 32768 ∧ ∀ k ∈ l, Tok s k := by
  intro f
  induction f with
  | zero => intro p a out h hp; omega
  | succ f ih =>
    intro p a out h hp hc ho hk he
    obtain ⟨b, hg⟩ := a4D (s := s) (p := p) a (Nat.le_refl _)
    obtain ⟨k1, k2⟩ := a0O hp
    have hc2 := a2g hg hc
    rw [tkF] at he ⊢
    by_cases c : ¬ sk s p < s.size
    · rw [if_pos c]
      exact ⟨out, _, rfl, ho, hk⟩
    rw [if_neg c] at he ⊢
    by_cases c2 : out.length = 32768
    · rw [if_pos c2] at he; cases he
    rw [if_neg c2] at he ⊢
    by_cases c3 : (oneO s (sk s p)).err ≠ 0
    · rw [if_pos c3] at he; exact absurd he c3
    rw [if_neg c3] at he ⊢
    have h0 : (oneO s (sk s p)).err = 0 := Classical.byContradiction c3
    have hps : sk s p < s.size := Classical.byContradiction c
    obtain ⟨q1, q2⟩ := R8 hps h0
    obtain ⟨b2, hg2⟩ := a1p b hps h0
    refine ih _ _ _ (by omega) q2 (a2g hg2 hc2) (by simp only [List.length_append, List.length_singleton]; omega) (fun k hm => ?_) he
    rcases List.mem_append.1 hm with hm | hm
    · exact hk k hm
    · rw [List.mem_singleton.1 hm]
      exact ⟨_, hps, hc2, h0, rfl, rfl, rfl⟩
theorem a4t (h : (tkS s).2.2 = 0) : ∃ (l : List Tk) (b : Int × Int), (tkS s).1 = l ++ [⟨5, ⟨#[]⟩, 0, b⟩] ∧ l.length ≤ 32768 ∧ ∀ k ∈ l, Tok s k := by
  unfold tkS at h ⊢
  by_cases c : 65536 < s.size
  · rw [if_pos c] at h; cases h
  rw [if_neg c] at h ⊢
  cases hc : chkAt s 0 with
  | some n => rw [hc] at h; cases h
  | none =>
    rw [hc] at h
    dsimp only at h ⊢
    exact a4s _ 0 _ [] (by omega) (Nat.zero_le _) hc (by decide) (fun k hk => by cases hk) h
end
section
variable {s t : ByteArray}
theorem a7h {k : Tk} (hk : Tok s k) {q : Nat} {r : List UInt8} (h : Dr t q (k.text.data.toList ++ 32 :: r)) :
    q + k.text.size < t.size ∧ 1 ≤ k.text.size ∧ sk t q = q ∧ oneO t q = ⟨k.kind, k.text, k.num, q + k.text.size, 0⟩ ∧ chkAt t q = chkAt t (q + k.text.size) := by
  obtain ⟨p, hp, hc, h0, hk1, hk2, hk3⟩ := hk
  obtain ⟨q1, q2⟩ := R8 hp h0
  have htx := a1C h0
  obtain ⟨len, hlen⟩ : ∃ len, (oneO s p).stop = p + len := ⟨(oneO s p).stop - p, by omega⟩
  rw [hlen] at q1 q2 htx
  have hsz : k.text.size = len := by rw [hk2, htx, A5 (by omega) q2]; omega
  rw [hk2, htx] at h
  have g := Ag.of q2 h
  have e1 := g.ext
  have g2 := g.ht
  obtain ⟨nb0, _⟩ := Z2 hp hc
  have hwd : wd s p ≤ len := by
    obtain ⟨b, hgo⟩ := a1p (0, 0) hp h0
    rw [hlen] at hgo
    have := hgo.first (by omega)
    omega
  have hdec := g.dec (i := 0) (by omega) nb0 (by rw [Nat.add_zero]; omega)
  rw [Nat.add_zero, Nat.add_zero] at hdec
  have er : rn t q = rn s p := by unfold rn; rw [hdec]
  have eb : by8 t q = by8 s p := by unfold by8; have := g.eq 0 (by omega); rw [Nat.add_zero, Nat.add_zero] at this; rw [this]
  have hcl : classS (rn t q) = 3 ∨ classS (rn t q) = 4 ∨ classS (rn t q) = 5 := by
    rw [er]
    by_cases c3 : classS (rn s p) = 3
    · exact .inl c3
    by_cases c4 : classS (rn s p) = 4
    · exact .inr (.inl c4)
    by_cases c5 : classS (rn s p) = 5
    · exact .inr (.inr c5)
    · unfold oneO at h0; rw [if_neg c3, if_neg c4, if_neg c5] at h0; cases h0
  have hsk : sk t q = q := by
    refine G0 (.inr ⟨fun x => ?_, ?_⟩)
    · have h35 := (G7 (s := t) (p := q) (by omega)).1
      rw [x] at h35
      rw [h35] at hcl
      revert hcl
      decide
    · unfold blankS
      rcases hcl with x | x | x <;> rw [x] <;> rfl
  rw [hsz]
  refine ⟨g2, by omega, hsk, ?_⟩
  rw [hk1, hk2, hk3]
  have e32 : ∀ is : Int → Bool, is 32 = false → is (rn t (q + len)) = false := fun is h => by rw [g.a4r]; exact h
  unfold oneO at h0 hlen htx ⊢
  rw [er]
  by_cases c3 : classS (rn s p) = 3
  · rw [if_pos c3] at h0 hlen htx ⊢
    rw [if_pos c3]
    have hW : (Wr s goesS p (0, 0)).1 = p + len := by
      unfold wordO at hlen h0
      by_cases d : wordS (s.extract p (Wr s goesS p (0, 0)).1) = true
      · rw [if_pos d] at hlen; exact hlen
      · rw [if_neg d] at hlen h0
        by_cases d2 : 32 < cnt s goesS p 0
        · rw [if_pos d2] at h0; cases h0
        · rw [if_neg d2] at hlen; exact hlen
    obtain ⟨r1, r2, r3⟩ := g.run (is := goesS) (by decide) _ 0 (0, 0) (0, 0) (Nat.le_refl _) (Nat.zero_le _) hc hW
    rw [Nat.add_zero] at r1 r3
    have r2 : cnt t goesS q 0 = cnt s goesS p 0 := r2 0
    refine ⟨?_, r3⟩
    unfold wordO at h0 ⊢
    rw [r1, e1, r2, hW]
    rw [hW] at h0
    by_cases d : wordS (s.extract p (p + len)) = true
    · rw [if_pos d, if_pos d]
    · rw [if_neg d] at h0 ⊢
      rw [if_neg d]
      by_cases d2 : 32 < cnt s goesS p 0
      · rw [if_pos d2] at h0; cases h0
      · rw [if_neg d2, if_neg d2]
  rw [if_neg c3] at h0 hlen htx ⊢
  rw [if_neg c3]
  by_cases c4 : classS (rn s p) = 4
  · rw [if_pos c4] at h0 hlen htx ⊢
    rw [if_pos c4]
    unfold numO at h0 hlen htx ⊢
    by_cases d : 9223372036854775808 ≤ (dg s p 0).2 ∨ (by8 s p = 48 ∧ 1 < (dg s p 0).1 - p) ∨ ((dg s p 0).1 < s.size ∧ classS (rn s (dg s p 0).1) = 3)
    · rw [if_pos d] at h0; cases h0
    rw [if_neg d] at hlen htx ⊢
    have hlen : (dg s p 0).1 = p + len := hlen
    obtain ⟨_, _, d3, d4, d5⟩ := Q5 (s := s) _ p 0 (0, 0) (Nat.le_refl _)
    rw [hlen] at d3 d4 d5
    rw [show p + len - p = len by omega] at d3 d4
    have hlist : (t.data.toList.drop q).take len = (s.data.toList.drop p).take len := by
      have : (t.extract q (q + len)).data.toList = (s.extract p (p + len)).data.toList := by rw [e1]
      rw [F0, F0, show q + len - q = len by omega, show p + len - p = len by omega] at this
      exact this
    have hdig : ∀ j, j < len → 48 ≤ by8 t (q + j) ∧ by8 t (q + j) ≤ 57 := fun j hj => by
      have hm : ((s.data.toList.drop p).take len)[j]? = some (s.get! (p + j)) := by
        rw [List.getElem?_take_of_lt hj, List.getElem?_drop, N8 (by omega)]
      have := d4 _ (List.mem_of_getElem? hm)
      unfold isDig at this
      unfold by8
      rw [g.eq j hj]; exact this
    have hd1 : (dg t q 0).1 = q + len := a6L (Nat.le_of_lt g2) (fun x => by have := x.2.1; unfold by8 at this; rw [g.nx] at this; exact absurd this (by decide)) _ q 0 (Nat.le_refl _) (by omega) fun x hx hx2 => by
      have := hdig (x - q) (by omega)
      rw [show q + (x - q) = x by omega] at this
      exact this
    have hd2 : (dg t q 0).2 = (dg s p 0).2 := by
      have := (Q5 (s := t) _ q 0 (0, 0) (Nat.le_refl _)).2.2.1
      rw [this, hd1, show q + len - q = len by omega, hlist, ← d3]
    obtain ⟨_, _, r3⟩ := g.run (is := digitR) (by decide) _ 0 (0, 0) (0, 0) (Nat.le_refl _) (Nat.zero_le _) hc d5
    refine ⟨?_, r3⟩
    rw [hd1, hd2, eb, e1, if_neg]
    · rw [hlen]
    · rintro (x | x | x)
      · exact d (.inl x)
      · exact d (.inr (.inl ⟨x.1, by rw [hlen]; omega⟩))
      · rw [g.a4r] at x; exact absurd x.2 (by decide)
  rw [if_neg c4] at h0 hlen htx ⊢
  rw [if_neg c4]
  by_cases c5 : classS (rn s p) = 5
  · rw [if_pos c5] at h0 hlen htx ⊢
    rw [if_pos c5]
    have ha := V8 c5
    have r0 := G7 (s := t) (p := q) (by omega)
    unfold signO at h0 hlen htx ⊢
    by_cases d : two s p
    · rw [if_pos d] at hlen htx ⊢
      have hlen : len = 2 := by have : p + 2 = p + len := hlen; omega
      subst hlen
      have eb1 : by8 t (q + 1) = by8 s (p + 1) := by unfold by8; rw [g.eq 1 (by omega)]
      have dt : two t q := by
        unfold two at d ⊢
        rw [eb, eb1]
        exact ⟨by omega, d.2⟩
      rw [if_pos dt, e1]
      have r1 := G7 (s := t) (p := q + 1) (by unfold two at dt; omega)
      refine ⟨rfl, ?_⟩
      rw [chkN (p := q) (by omega) (by omega), r0.2, chkN (p := q + 1) (by omega) (by unfold two at dt; omega), r1.2]
    · rw [if_neg d] at h0 hlen htx ⊢
      by_cases d2 : by8 s p = 38 ∨ by8 s p = 124
      · rw [if_pos d2] at h0; cases h0
      rw [if_neg d2] at hlen htx ⊢
      have hlen : len = 1 := by have : p + 1 = p + len := hlen; omega
      subst hlen
      have dt : ¬ two t q := fun x => by
        unfold two at x
        have : by8 t (q + 1) = 32 := by unfold by8; rw [g.nx]; rfl
        omega
      rw [if_neg dt, eb, if_neg d2, e1]
      refine ⟨rfl, ?_⟩
      rw [chkN (p := q) (by omega) (by omega), r0.2]
  · rw [if_neg c5] at h0; cases h0
theorem a2h {c : Bool} {x : Nat} {r : List UInt8} (h : Dr t x (psL c ++ r)) : sk t x = sk t (x + (psL c).length) ∧ chkAt t x = chkAt t (x + (psL c).length) ∧ Dr t (x + (psL c).length) r := by
  have h0 : Dr t x (32 :: ((if c = true then [35, 32, 61, 32, 10, 9] else []) ++ r)) := h
  obtain ⟨p0, b0, h1⟩ := h0.cons
  obtain ⟨r0, w0⟩ := h0.asc (by decide)
  have r0 : rn t x = 32 := r0
  have s0 : sk t x = sk t (x + 1) := by rw [N7 p0 (by unfold by8; rw [b0]; decide) (by rw [r0]; decide), w0]
  have c0 : chkAt t x = chkAt t (x + 1) := by rw [chkN p0 (by rw [r0]; decide), w0]
  cases c with
  | false => exact ⟨s0, c0, h1⟩
  | true =>
    have h1 : Dr t (x + 1) (35 :: 32 :: 61 :: 32 :: 10 :: 9 :: r) := h1
    obtain ⟨p1, b1, h2⟩ := h1.cons
    obtain ⟨p2, b2, h3⟩ := h2.cons
    obtain ⟨p3, b3, h4⟩ := h3.cons
    obtain ⟨p4, b4, h5⟩ := h4.cons
    obtain ⟨p5, b5, h6⟩ := h5.cons
    obtain ⟨p6, b6, h7⟩ := h6.cons
    obtain ⟨r1, w1⟩ := h1.asc (by decide)
    obtain ⟨r2, w2⟩ := h2.asc (by decide)
    obtain ⟨r3, w3⟩ := h3.asc (by decide)
    obtain ⟨r4, w4⟩ := h4.asc (by decide)
    obtain ⟨r5, w5⟩ := h5.asc (by decide)
    obtain ⟨r6, w6⟩ := h6.asc (by decide)
    have hnl : nl t (x + 1) = x + 1 + 1 + 1 + 1 + 1 := by
      have a1 : by8 t (x + 1) ≠ 10 := by unfold by8; rw [b1]; decide
      have a2 : by8 t (x + 1 + 1) ≠ 10 := by unfold by8; rw [b2]; decide
      have a3 : by8 t (x + 1 + 1 + 1) ≠ 10 := by unfold by8; rw [b3]; decide
      have a4 : by8 t (x + 1 + 1 + 1 + 1) ≠ 10 := by unfold by8; rw [b4]; decide
      rw [N6 p1 a1, N6 p2 a2, N6 p3 a3, N6 p4 a4]
      exact Q4 fun y => y.2 (by unfold by8; rw [b5]; rfl)
    have r5 : rn t (x + 1 + 1 + 1 + 1 + 1) = 10 := r5
    have r6 : rn t (x + 1 + 1 + 1 + 1 + 1 + 1) = 9 := r6
    refine ⟨?_, ?_, h7⟩
    · rw [s0, X0 p1 (by unfold by8; rw [b1]; rfl), hnl, N7 p5 (by unfold by8; rw [b5]; decide) (by rw [r5]; decide), w5, N7 p6 (by unfold by8; rw [b6]; decide) (by rw [r6]; decide), w6]
      rfl
    · rw [c0, chkN p1 (by rw [r1]; decide), w1, chkN p2 (by rw [r2]; decide), w2, chkN p3 (by rw [r3]; decide), w3, chkN p4 (by rw [r4]; decide), w4, chkN p5 (by rw [r5]; decide), w5, chkN p6 (by rw [r6]; decide), w6]
      rfl
def ktn (k : Tk) : Int × ByteArray × Int := (k.kind, k.text, k.num)
theorem again : ∀ (l : List Tk) (q x : Nat) (a : Int × Int) (out : List Tk) (c : Bool) (f : Nat), (∀ k ∈ l, Tok s k) → Dr t q (tT c l ++ psL c) → q ≤ t.size → x ≤ q → sk t x = sk t q → t.size + 1 - x ≤ f → out.length + l.length ≤ 32768 →
    chkAt t q = none ∧ ∃ (l' : List Tk) (b : Int × Int), tkF t f x a out = (out ++ l' ++ [⟨5, ⟨#[]⟩, 0, b⟩], (0, 0), 0) ∧ l'.map ktn = l.map ktn := by
  intro l
  induction l with
  | nil =>
    intro q x a out c f _ h hq hx hs hf _
    have h : Dr t q (psL c ++ []) := by rw [List.append_nil]; exact h
    obtain ⟨k1, k2, k3⟩ := a2h h
    have hend := k3.nil
    refine ⟨by rw [k2]; exact S0 t _ hend, [], ?_⟩
    obtain ⟨f, rfl⟩ : ∃ g, f = g + 1 := ⟨f - 1, by omega⟩
    rw [tkF, hs, k1, G0 (.inl (by omega)), if_pos (by omega), List.append_nil]
    exact ⟨_, rfl, rfl⟩
  | cons k l ih =>
    intro q x a out c f hk h hq hx hs hf ho
    rw [a2e, List.append_assoc, List.append_assoc] at h
    have h' : Dr t q (k.text.data.toList ++ 32 :: ((if c = true then [35, 32, 61, 32, 10, 9] else []) ++ (tT c l ++ psL c))) := h
    obtain ⟨j1, j2, j3, j4, j5⟩ := a7h (hk k (List.mem_cons_self ..)) h'
    have hd2 := Dr.app (p := 0) _ _ h
    have hlen : k.text.data.toList.length = k.text.size := Array.length_toList
    rw [hlen] at hd2
    obtain ⟨m1, m2, m3⟩ := a2h hd2
    have hps := a2f c
    have hle : q + k.text.size + (psL c).length ≤ t.size := by
      have := hd2.le (Nat.le_of_lt j1)
      rw [List.length_append] at this
      omega
    obtain ⟨f, rfl⟩ : ∃ g, f = g + 1 := ⟨f - 1, by omega⟩
    have ho : out.length + (l.length + 1) ≤ 32768 := ho
    rw [tkF, hs, j3, if_neg (by omega), if_neg (by omega), j4]
    dsimp only
    rw [if_neg (by decide)]
    obtain ⟨i1, l', b, i2, i3⟩ := ih _ (q + k.text.size) (mv t q (q + k.text.size) (mv t x q a)) (out ++ [⟨k.kind, k.text, k.num, mv t x q a⟩]) c f (fun y hy => hk y (List.mem_cons_of_mem _ hy)) m3 hle (by omega) m1 (by omega) (by simp only [List.length_append, List.length_singleton]; omega)
    refine ⟨by rw [j5, m2]; exact i1, ⟨k.kind, k.text, k.num, mv t x q a⟩ :: l', b, ?_, ?_⟩
    · rw [i2]
      simp only [List.append_assoc, List.singleton_append]
    · rw [List.map_cons, List.map_cons, i3]
      rfl
end
theorem a5f (c : Bool) (l : List Tk) (b : Int × Int) : tT c (l ++ [⟨5, ⟨#[]⟩, 0, b⟩]) = tT c l ++ psL c := by
  rw [a3L]
  congr 1
  show ([] ++ psL c) ++ [] = psL c
  rw [List.nil_append, List.append_nil]
theorem a6M (c : Bool) (n : Nat) : ∀ l : List Tk, (∀ k ∈ l, k.text.size ≤ n) → (tT c l).length ≤ l.length * (n + 7) := by
  intro l
  induction l with
  | nil => intro _; exact Nat.zero_le _
  | cons k l ih =>
    intro h
    rw [a2e, List.length_append, List.length_append, List.length_cons, Nat.succ_mul]
    have h1 := h k (List.mem_cons_self ..)
    have h2 := a2f c
    have h3 := ih fun y hy => h y (List.mem_cons_of_mem _ hy)
    have hlen : k.text.data.toList.length = k.text.size := Array.length_toList
    omega
section
variable {H : Hp}
theorem a3M (hT : TabsH H) (hE : ErrH H) {s : ByteArray} (hs : s.size ≤ 1048576) {c : Bool} {K : Bool → Hp → Prop} (h : ∀ H', Hle H H' → K true H') : y8 s c H K := by
  refine N0 _ _ ?_
  unfold z7
  refine a4o hT hE fun H1 h1 => ⟨fun x => (by cases x), fun _ => ?_⟩
  refine S3 (hT.le h1) (hE.le h1) (by omega) fun e H2 h2 hsl => ?_
  have hT2 := (hT.le h1).le h2
  have hE2 := (hE.le h1).le h2
  refine ⟨fun _ => h _ (h1.trans h2), fun q => ?_⟩
  simp only [Bool.or_eq_false_iff, Bool.not_eq_false', decide_eq_true_eq, decide_eq_false_iff_not] at q
  obtain ⟨q1, q2⟩ := q
  obtain ⟨l, b, hl, hn, hk⟩ := a4t q1
  have hbt : ∀ k ∈ l ++ [⟨5, ⟨#[]⟩, 0, b⟩], k.text.size ≤ 8000 := fun k hm => by
    rcases List.mem_append.1 hm with hm | hm
    · obtain ⟨p, hp, _, h0, _, ht, _⟩ := hk k hm
      obtain ⟨_, e2⟩ := R8 hp h0
      rw [ht, a1C h0, ByteArray.size_extract]
      omega
    · rw [List.mem_singleton.1 hm]; exact Nat.zero_le _
  have hLn : (l ++ [(⟨5, ⟨#[]⟩, 0, b⟩ : Tk)]).length ≤ 32769 := by simp only [List.length_append, List.length_singleton]; omega
  rw [hl] at hsl
  have hen : e.n = (l ++ [(⟨5, ⟨#[]⟩, 0, b⟩ : Tk)]).length := by rw [hsl.1, List.length_map]
  have hall : tT c (l ++ [⟨5, ⟨#[]⟩, 0, b⟩]) = tT c l ++ psL c := a5f c l b
  generalize hL : l ++ [(⟨5, ⟨#[]⟩, 0, b⟩ : Tk)] = L at hsl hbt hLn hen hall
  refine O3 (fun (z : ByteArray × Int) H' => H' = H2 ∧ ∃ i : Nat, z = (⟨(tT c (L.take i)).toArray⟩, (i : Int)) ∧ i ≤ L.length) (fun z => (L.length - z.2).toNat) ⟨rfl, 0, rfl, Nat.zero_le _⟩ ?_
  rintro z H3 next ⟨rfl, i, rfl, hi⟩ hkk
  unfold t1
  dsimp only
  refine ⟨fun c1 => ?_, fun c1 => ?_⟩
  · obtain ⟨k, hki⟩ := W5 (l := L) (i := i) (by omega)
    have hel : EltH H3 e i 5 (b9 (tkv k)) := hsl.2 i (tkv k) (by rw [List.getElem?_map, hki]; rfl)
    have hks := hbt k (List.mem_of_getElem? hki)
    have hpre := a6M c 8000 (L.take i) fun y hy => hbt y (List.mem_of_mem_take hy)
    rw [List.length_take, Nat.min_eq_left hi] at hpre
    have hz := a1A (tT c (L.take i))
    have hb1 : (tT c (L.take i)).length ≤ 32769 * 8007 := Nat.le_trans hpre (Nat.mul_le_mul_right _ (by omega))
    have hx : (tkv k).t7 = ⟨k.text.data.toList.toArray⟩ := by
      apply ByteArray.ext
      rw [Array.toArray_toList]
    have hks2 : k.text.data.toList.length = k.text.size := Array.length_toList
    refine ⟨by omega, by omega, tkv k, hel, ?_⟩
    rw [hx, Z1, show (⟨#[32]⟩ : ByteArray) = ⟨([32] : List UInt8).toArray⟩ from rfl, Z1, show (⟨#[35, 32, 61, 32, 10, 9]⟩ : ByteArray) = ⟨([35, 32, 61, 32, 10, 9] : List UInt8).toArray⟩ from rfl, Z1]
    simp only [a1A, List.length_append, List.length_cons, List.length_nil]
    have htk : tT c (L.take (i + 1)) = tT c (L.take i) ++ (k.text.data.toList ++ psL c) := by
      rw [a2u hki, a3L]
      congr 1
      show (k.text.data.toList ++ psL c) ++ [] = _
      rw [List.append_nil]
    refine ⟨by omega, by omega, fun hc => ⟨by omega, ?_⟩, fun hc => ?_⟩
    · subst hc
      unfold o5
      rw [J3 ⟨by omega, by omega⟩]
      refine hkk _ _ ⟨rfl, i + 1, ?_, by omega⟩ (by dsimp only; omega)
      rw [htk, List.append_assoc, List.append_assoc]
      rfl
    · subst hc
      unfold o5
      rw [J3 ⟨by omega, by omega⟩]
      refine hkk _ _ ⟨rfl, i + 1, ?_, by omega⟩ (by dsimp only; omega)
      rw [htk, List.append_assoc]
      rfl
  · obtain rfl : i = L.length := by omega
    rw [List.take_length, hall]
    unfold s9
    refine ⟨fun _ => h _ (h1.trans h2), fun c2 => ?_⟩
    have hd0 : Dr ⟨(tT c l ++ psL c).toArray⟩ 0 (tT c l ++ psL c) := rfl
    generalize (⟨(tT c l ++ psL c).toArray⟩ : ByteArray) = t at c2 hd0
    obtain ⟨a1, l', b', a2, a3⟩ := again l 0 0 (1, 1) [] c (t.size + 1) hk hd0 (Nat.zero_le _) (Nat.le_refl _) rfl (by omega) (by rw [List.length_nil]; omega)
    have ht : tkS t = (l' ++ [⟨5, ⟨#[]⟩, 0, b'⟩], (0, 0), 0) := by
      unfold tkS
      rw [if_neg (by omega), a1]
      dsimp only
      rw [a2, List.nil_append]
    refine S3 hT2 hE2 (by omega) fun e3 H4 h4 hsl3 => ?_
    rw [ht] at hsl3 ⊢
    have hmap : (l' ++ [(⟨5, ⟨#[]⟩, 0, b'⟩ : Tk)]).map ktn = L.map ktn := by
      rw [← hL, List.map_append, List.map_append, a3]
      rfl
    have hlen3 : (l' ++ [(⟨5, ⟨#[]⟩, 0, b'⟩ : Tk)]).length = L.length := by
      have := congrArg List.length hmap
      rw [List.length_map, List.length_map] at this
      exact this
    generalize l' ++ [(⟨5, ⟨#[]⟩, 0, b'⟩ : Tk)] = L3 at hsl3 hmap hlen3
    have hen3 : e3.n = L.length := by rw [hsl3.1, List.length_map, hlen3]
    rw [hen3, hen]
    refine ⟨fun x => by simp at x, fun _ => ?_⟩
    have hsl2 := hsl.le h4
    refine O3 (fun (z : Int) H' => H' = H4 ∧ ∃ j : Nat, z = j ∧ j ≤ L.length) (fun z => (L.length - z).toNat) ⟨rfl, 0, rfl, Nat.zero_le _⟩ ?_
    rintro z H5 next2 ⟨rfl, j, rfl, hj⟩ hk2
    unfold s8
    refine ⟨fun c3 => ?_, fun _ => h _ ((h1.trans h2).trans h4)⟩
    obtain ⟨k, hkj⟩ := W5 (l := L) (i := j) (by omega)
    obtain ⟨k3, hkj3⟩ := W5 (l := L3) (i := j) (by omega)
    have ek : ktn k3 = ktn k := by
      have : (L3.map ktn)[j]? = (L.map ktn)[j]? := by rw [hmap]
      rw [List.getElem?_map, List.getElem?_map, hkj, hkj3] at this
      exact Option.some.inj this
    unfold ktn at ek
    simp only [Prod.mk.injEq] at ek
    obtain ⟨ek1, ek2, ek3⟩ := ek
    refine ⟨by omega, by omega, tkv k3, hsl3.2 j (tkv k3) (by rw [List.getElem?_map, hkj3]; rfl), by omega, by omega, tkv k, hsl2.2 j (tkv k) (by rw [List.getElem?_map, hkj]; rfl), ?_⟩
    have hB : (((!decide ((tkv k3).L0 = (tkv k).L0)) || (!decide ((tkv k3).t7 = (tkv k).t7))) || (!decide ((tkv k3).K2 = (tkv k).K2))) = false := by
      rw [decide_eq_true (show (tkv k3).L0 = (tkv k).L0 from ek1), decide_eq_true (show (tkv k3).t7 = (tkv k).t7 from ek2), decide_eq_true (show (tkv k3).K2 = (tkv k).K2 from ek3)]
      rfl
    rw [hB]
    refine ⟨fun x => (by cases x), fun _ => ?_⟩
    rw [J3 ⟨by omega, by omega⟩]
    exact hk2 _ _ ⟨rfl, j + 1, rfl, by omega⟩ (by omega)
end
end Go.Proofs.YthklmeihgmcljaaDoor
