/- Parsing: a source's expression, condition, by the program and by the document. -/
import Derived.Test.YthklmeihgmcljaaGreatDoorzTXa
namespace Go.Proofs.YthklmeihgmcljaaGreatDoor
open Go.RowKit
set_option maxRecDepth 100000
set_option maxHeartbeats 1000000
abbrev toks (s : ByteArray) : List Tok := (tkS s).1.map tkv
def ansR {β : Type} (p : PM β) (chk : β → Int) (s : ByteArray) : Except Flt β := if (tkS s).2.2 = 0 then readsR p chk (toks s) else .error ((tkS s).2.2, plv (tkS s).2.1)
def Ans {α β : Type} (H : Hp) (z : α) (RR : Hp → α → β → Prop) (o : Except Flt β) (K : α → b8 → Int → Hp → Prop) : Prop := match o with
 | .error (c, q) => ∀ H', Hle H H' → K z q c H'
 | .ok b => ∀ H' v, Hle H H' → RR H' v b → K v ⟨0, 0⟩ 0 H'
section
variable {H : Hp} {s : ByteArray}
theorem Ans.rd {α β : Type} {z : α} {RR : Hp → α → β → Prop} {p : PM β} {chk : β → Int} {K : α → b8 → Int → Hp → Prop} (h : Ans H z RR (ansR p chk s) K) (he : (tkS s).2.2 = 0) : Ans H z RR (readsR p chk (toks s)) K := by
 unfold ansR at h
 rw [if_pos he] at h
 exact h
end
set_option maxHeartbeats 2000000
abbrev zP : l7 := l7.mk (Sl.mk none 0 0) (Sl.mk none 0 0)
abbrev chkP (q : PP) : Int := toldS q.nodes
theorem c6C {q : PP} (h2 : toldS q.nodes ≠ 32) (h3 : toldS q.nodes ≠ 33) : fewP q = true := by
 rw [← b6X, show vEnd (allV q) = toldS q.nodes from b2S _, decide_eq_false h2, decide_eq_false h3]
 rfl
abbrev gD (d : k7) : Prop := d.o9.size ≤ 65536
theorem c0R (arr : Bool) : SmP gD (declP arr) := fun r a r' ht h => by
 have t1 := ht.hd
 unfold declP at h
 split at h
 ·cases h
 split at h
 ·refine (SmP.bind (G2 := gD) (a3s _) fun _ _ r1 a1 r2 ht1 h1 => ?_) _ _ _ ht.tail h
  split at h1
  ·cases h1
  ·exact ((a3s _).bind fun _ _ => (a3s _).bind fun _ _ => a2I (G := gD) t1.1) _ _ _ ht1.tail h1
 ·exact ((a3s _).bind fun _ _ => a2I (G := gD) t1.1) _ _ _ ht.tail h
theorem b3w : ∀ (n : Nat) (l : List k7), (∀ d ∈ l, d.o9.size ≤ 65536) → SmP (fun l : List k7 => ∀ d ∈ l, d.o9.size ≤ 65536) (declsF n l)
 | 0, l, hl => fun r b r' ht h => by cases h; exact ⟨hl, ht⟩
 | n + 1, l, hl => fun r b r' ht h => by
  unfold declsF at h
  split at h
  ·exact SmP.bind (c0R _) (fun a ha => b3w n _ fun t ht => by
    rcases List.mem_append.1 ht with q | q
    ·exact hl t q
    ·rw [List.mem_singleton.1 q]; exact ha) _ _ _ ht.tail h
  ·cases h; exact ⟨hl, ht⟩
theorem b5y : SmP PP.Sm progP := SmP.bind (G := fun l : List k7 => ∀ d ∈ l, d.o9.size ≤ 65536) (fun r _ _ ht h => b3w r.length [] (fun _ q => (by cases q)) _ _ _ ht h) fun ds hd => SmP.bind (G := SmL) (fun r _ _ ht h => a9O (b5x 40) r.length [] N3 _ _ _ ht h) fun b hb => a2I fun t ht => by
 unfold PP.nodes at ht
 rcases List.mem_append.1 ht with q | q
 ·obtain ⟨u, hu, rfl⟩ := List.mem_map.1 q
  exact .mk ⟨by show u.o9.size ≤ sml; have := hd u hu; simp only [sml]; omega, by show a2x 0; decide⟩ N3
 ·exact hb t q
section
variable {H : Hp} {s : ByteArray}
theorem a7I (hT : TabsH H) (hE : ErrH H) (hs4 : s.size ≤ 4194304) {K : l7 → b8 → Int → Hp → Prop} (h : Ans H zP PH (ansR progP chkP s) K) : W1 s H K := by
 refine a8P _ ?_
 unfold a3M
 refine b7X (p := progP) (chk := chkP) (RR := PH) (toks := toks s) (pl := plv (tkS s).2.1) (er := (tkS s).2.2) (b9m hT hE hs4 fun e H' l hs => ⟨l, hs, rfl, rfl⟩) (fun he => ⟨(b1R he).1, (b1R he).2.1⟩) (fun rd k => c3a rd k) (fun {H' v b r'} he l eo ra => ?_) (fun l ra => ra.le l) (fun he H' l => ?_) (fun he c q eo H' l => ?_) fun he b eo H' v l ra => ?_
 ·exact a9e (hT.le l) ra (b5y _ _ _ (b1R he).2.2 eo).1 fun H'' l2 => ⟨l2, b2S _⟩
 ·unfold ansR at h; rw [if_neg he] at h; exact h H' l
 ·have h := h.rd he; rw [eo] at h; exact h H' l
 ·have h := h.rd he; rw [eo] at h; exact h H' v l ra
end
theorem k1 : ansR progP chkP ⟨#[118, 97, 114, 32, 120, 59, 32, 120, 32, 61, 32, 49, 32, 43, 32, 50, 32, 42, 32, 120, 59]⟩ = .ok ⟨[⟨⟨#[120]⟩, 0⟩], [sX 1 ⟨#[120]⟩ [eX 6 0 ⟨#[]⟩ [eX 1 1 ⟨#[]⟩ [], eX 8 0 ⟨#[]⟩ [eX 1 2 ⟨#[]⟩ [], eX 2 0 ⟨#[120]⟩ []]]] [] [] []]⟩ := by kernel_rfl
theorem k2 : ansR progP chkP ⟨#[120, 32, 61, 32, 59]⟩ = .error (40, ⟨1, 5⟩) := by kernel_rfl
theorem c3j {H : Hp} {e : b9} {k n : Int} {nm : ByteArray} {ts : List PT} (h : EH H e (eX k n nm ts)) : e.c8 = k := by
 generalize ht : eX k n nm ts = t at h
 cases h with
 | mk a b c d => unfold eX at ht; injection ht with h1 h2; injection h1 with q1; exact q1.symm
theorem c6D {H : Hp} {x : g5} {k : Int} {nm : ByteArray} {t : PT} (h : SH H x (sX k nm [t] [] [] [])) : ∃ e, SlH H 4 d9 x.m7 [e] ∧ EH H e t := by
 generalize ht : sX k nm [t] [] [] [] = u at h
 cases h with
 | @mk _ xs ts ys us zs bs vs ws a1 a2 a3 b1 b2 b3 c1 c2 c3 c4 d1 d2 d3 d4 =>
  unfold sX at ht
  injection ht with h1 h2
  injection h1 with q1 q2 q3 q4 q5 q6
  have e1 : us = [] := List.length_eq_zero_iff.1 q4.symm
  have e2 : vs = [] := List.length_eq_zero_iff.1 q5.symm
  have e3 : ws = [] := List.length_eq_zero_iff.1 q6.symm
  subst e1; subst e2; subst e3
  simp only [List.nil_append, List.append_nil] at h2
  subst h2
  have hl : xs.length = 1 := a3.1
  obtain ⟨e, rfl⟩ : ∃ e, xs = [e] := List.length_eq_one_iff.1 hl
  exact ⟨e, a1, a3.2 0 e t rfl rfl⟩
section
variable {H : Hp} (hT : TabsH H) (hE : ErrH H)
include hT hE
theorem b9y {K : Bool → Hp → Prop} (h : ∀ H', Hle H H' → K true H') : a1K H K := by
 refine a7g (a7I hT hE (by decide) ?_)
 rw [k1]
 intro H1 v l1' hv
 refine a7I (hT.le l1') (hE.le l1') (by decide) ?_
 rw [k2]
 intro H2 l2
 obtain ⟨hd, _, xs, hb, _, rel⟩ := hv.le l2
 obtain ⟨x, rfl⟩ : ∃ x, xs = [x] := List.length_eq_one_iff.1 rel.1
 have hx := rel.2 0 x _ rfl rfl
 obtain ⟨e, he, hk⟩ := c6D hx
 have n1 : (v.a1U.n : Int) = 1 := by have := hd.1; simp at this; omega
 have n2 : (v.a0J.n : Int) = 1 := by have := hb.1; simp at this; omega
 have n3 : (x.m7.n : Int) = 1 := by have := he.1; simp at this; omega
 obtain ⟨y, hy, hY⟩ := hb.get (i := 0) (by omega) (by omega)
 obtain rfl : x = y := by simpa using hy
 obtain ⟨z, hz, hZ⟩ := he.get (i := 0) (by omega) (by omega)
 obtain rfl : e = z := by simpa using hz
 refine ⟨x, fun _ => ⟨by omega, by omega, hY⟩, x, fun _ => ⟨by omega, by omega, hY⟩, e, fun _ => ⟨by omega, by omega, hZ⟩, ?_⟩
 rw [n1, n2, n3, c3j hk]
 exact h H2 (l1'.trans l2)
variable {s : ByteArray}
end
abbrev e7 : PT := eX 1 7 ⟨#[]⟩ []
section
variable {g : Nat} {k : Int} {sg : ByteArray} (hk : (sg = ⟨#[43]⟩ ∧ k = 6) ∨ (sg = ⟨#[45]⟩ ∧ k = 7))
include hk
end
def Dr (s : ByteArray) (p : Nat) (l : List UInt8) : Prop := s.data.toList.drop p = l
section
variable {s : ByteArray}
theorem Dr.cons {p : Nat} {c : UInt8} {l : List UInt8} (h : Dr s p (c :: l)) : p < s.size ∧ s.get! p = c ∧ Dr s (p + 1) l := by
 unfold Dr at h ⊢
 have hp : p < s.size := by
  rcases Nat.lt_or_ge p s.size with q | q
  ·exact q
  ·rw [List.drop_eq_nil_of_le (by rw [Array.length_toList]; exact q)] at h; cases h
 rw [a5r hp] at h
 injection h with h1 h2
 exact ⟨hp, h1, h2⟩
theorem Dr.app : ∀ (l r : List UInt8) {p : Nat}, Dr s p (l ++ r) → Dr s (p + l.length) r
 | [], _, _, h => h
 | c :: l, r, p, h => by
  have := Dr.app l r h.cons.2.2
  rw [List.length_cons, show p + (l.length + 1) = p + 1 + l.length by omega]
  exact this
theorem Dr.nil {p : Nat} (h : Dr s p []) : s.size ≤ p := by
 unfold Dr at h
 have := congrArg List.length h
 rw [List.length_drop, Array.length_toList, List.length_nil] at this
 have e : s.data.size = s.size := rfl
 omega
theorem Dr.le {p : Nat} {l : List UInt8} (h : Dr s p l) (hp : p ≤ s.size) : p + l.length = s.size := by
 unfold Dr at h
 have := congrArg List.length h
 rw [List.length_drop, Array.length_toList] at this
 have e : s.data.size = s.size := rfl
 omega
theorem Dr.asc {p : Nat} {c : UInt8} {l : List UInt8} (h : Dr s p (c :: l)) (hc : c.toNat < 128) : rn s p = (c.toNat : Int) ∧ wd s p = 1 := by
 have h1 := h.cons.2.1
 have := a5P (s := s) (p := p) (by unfold by8; rw [h1]; exact hc)
 unfold by8 at this
 rw [h1] at this
 exact this
theorem Dr.by8 {p : Nat} {c : UInt8} {l : List UInt8} (h : Dr s p (c :: l)) : by8 s p = c.toNat := by
 show (s.get! p).toNat = _
 rw [h.cons.2.1]
theorem chkN {p : Nat} (hp : p < s.size) (h : rn s p ≠ 65533) : chkAt s p = chkAt s (p + wd s p) := by
 rw [a3P s p hp, if_neg (fun x => h (by show ((Utf8.decode s p).1 : Int) = 65533; rw [x.1]; rfl))]
theorem Dr.cut (w : List UInt8) {r : List UInt8} {p : Nat} (h : Dr s p (w ++ r)) : s.extract p (p + w.length) = ⟨w.toArray⟩ := by
 apply ByteArray.ext
 apply Array.toList_inj.1
 rw [a1F, show p + w.length - p = w.length by omega]
 have : s.data.toList.drop p = w ++ r := h
 rw [this, List.take_left']
 rfl
def lineL (w : List UInt8) : Bool := w.all fun c => decide (c.toNat < 128) && !decide (c.toNat = 10)
end
inductive Pc where
 | sg (c : UInt8)
 | dg (c : UInt8)
 | wd (w : List UInt8) (k : Int)
 | sp
def Pc.by_ : Pc → List UInt8
 | .sg c => [c]
 | .dg c => [c]
 | .wd w _ => w
 | .sp => [32]
def byts (l : List Pc) : List UInt8 := l.flatMap Pc.by_
def Pc.tk (p : Nat) : Pc → List Tk
 | .sg c => [⟨4, ⟨#[c]⟩, 0, (1, (p : Int) + 1)⟩]
 | .dg c => [⟨2, ⟨#[c]⟩, (c.toNat : Int) - 48, (1, (p : Int) + 1)⟩]
 | .wd w k => [⟨k, ⟨w.toArray⟩, 0, (1, (p : Int) + 1)⟩]
 | .sp => []
def tks (p : Nat) : List Pc → List Tk
 | [] => [⟨5, ⟨#[]⟩, 0, (1, (p : Int) + 1)⟩]
 | a :: l => a.tk p ++ tks (p + a.by_.length) l
def offB (d : Option UInt8) : Bool := match d with
 | none => true
 | some c => decide (c.toNat < 128) && !goesS c.toNat
def Pc.ok (d : Option UInt8) : Pc → Bool
 | .sg c => (decide (c.toNat < 128) && decide (classS c.toNat = 5)) && ((!decide (c.toNat = 38) && !decide (c.toNat = 124)) && !decide (d = some 61))
 | .dg c => (decide (48 ≤ c.toNat) && decide (c.toNat ≤ 57)) && offB d
 | .wd w k => ((lineL w && w.all fun c => goesS c.toNat) && (decide (w.length ≤ 32) && decide (classS (w.headD 0).toNat = 3))) && (decide (k = if wordS ⟨w.toArray⟩ then 3 else 1) && offB d)
 | .sp => true
def okT (d : Option UInt8) : List Pc → Bool
 | [] => true
 | a :: l => a.ok ((byts l).head?.or d) && okT d l
section
variable {s : ByteArray}
end
def rep (n : Nat) (g : List Pc) : List Pc := (List.replicate n g).flatten
section
variable {c : UInt8} (hc : c = 43 ∨ c = 45)
include hc
end
structure Fam where
 head : List Pc
 op : List Pc
 mid : List Pc
 shut : List Pc
 tail : List Pc
def Fam.all (f : Fam) (n : Nat) : List Pc := f.head ++ (rep n f.op ++ (f.mid ++ (rep n f.shut ++ f.tail)))
abbrev hdO (l : List Pc) : Option UInt8 := (byts l).head?
def Fam.ok (f : Fam) : Bool :=
 ((((okT (hdO f.op) f.head && okT (hdO f.mid) f.head) && (okT (hdO f.op) f.op && okT (hdO f.mid) f.op)) && ((okT ((hdO f.shut).or (hdO f.tail)) f.mid && okT (hdO f.tail) f.mid) && (okT (hdO f.shut) f.shut && okT (hdO f.tail) f.shut))) && okT none f.tail)
  && ((hdO f.op).isSome && (hdO f.mid).isSome)
def tk0 (p : Nat) : List Pc → List Tk
 | [] => []
 | a :: l => a.tk p ++ tk0 (p + a.by_.length) l
def toksF (f : Fam) (n : Nat) : List Tok := (tks 0 (f.all n)).map tkv
def goodB (r : List Tok) : Bool := match progP r with
 | .ok (b, r') => decide ((hd r').c8 = 5) && decide (chkP b = 0)
 | .error _ => false
def goodsB (f : Fam) : Nat → Bool
 | 0 => true
 | n + 1 => goodB (toksF f n) && goodsB f n
def preF (f : Fam) : List Tok := (tk0 0 (f.head ++ rep 40 f.op)).map tkv
def posF (f : Fam) : Nat := (byts (f.head ++ rep 40 f.op)).length
def c6E (p : Nat) (l : List Pc) : Tok := ((tk0 p l).map tkv).headD ⟨5, ⟨#[]⟩, 0, ⟨0, 0⟩⟩
def small (l : List Pc) : Prop := l.length ≤ 9 ∧ (byts l).length ≤ 9
structure FamOk (f : Fam) (c : Nat) : Prop where
 ok : f.ok = true
 sh : hdO f.shut = none → f.shut = []
 good : goodsB f 40 = true
 o0 : tk0 (posF f) f.op ≠ []
 m0 : tk0 (posF f) f.mid ≠ []
 oD : ∀ R, progP (preF f ++ c6E (posF f) f.op :: R) = .error (41, ⟨1, c⟩)
 mD : ∀ R, progP (preF f ++ c6E (posF f) f.mid :: R) = .error (41, ⟨1, c⟩)
 at_ : c = (byts f.head).length + 40 * (byts f.op).length + 1
 z1 : small f.head
 z2 : small f.op
 z3 : small f.mid
 z4 : small f.shut
 z5 : small f.tail
section
variable {f : Fam} {c : Nat} (F : FamOk f c)
include F
end
theorem c6F {s : ByteArray} {b : PP} (h : ansR progP chkP s = .ok b) : b.Sm := by
 unfold ansR at h
 split at h
 ·rename_i he
  unfold readsR at h
  split at h
  ·cases h
  ·rename_i b' r' eo
   have hs := (b5y _ _ _ (b1R he).2.2 eo).1
   split at h
   ·cases h
   split at h
   ·cases h
   split at h
   ·cases h
   cases h
   exact hs
 ·cases h
section
variable {H : Hp} (hT : TabsH H) (hE : ErrH H)
include hT hE
end
end Go.Proofs.YthklmeihgmcljaaGreatDoor
