/- Parsing: a source's expression, condition, by the program and by the document. -/
import Derived.Test.YthklmeihgmcljaaGreatDoorzNXa
namespace Go.Proofs.YthklmeihgmcljaaGreatDoor
open Go.RowKit
set_option maxRecDepth 100000
set_option maxHeartbeats 1000000
abbrev toks (s : ByteArray) : List Tok := (tkS s).1.map tkv
def ansR {β : Type} (p : PM β) (chk : β → Int) (s : ByteArray) : Except Flt β := if (tkS s).2.2 = 0 then readsR p chk (toks s) else .error ((tkS s).2.2, plv (tkS s).2.1)
def Ans {α β : Type} (H : Hp) (z : α) (RR : Hp → α → β → Prop) (o : Except Flt β) (K : α → c8 → Int → Hp → Prop) : Prop := match o with
 | .error (c, q) => ∀ H', Hle H H' → K z q c H'
 | .ok b => ∀ H' v, Hle H H' → RR H' v b → K v ⟨0, 0⟩ 0 H'
section
variable {H : Hp} {s : ByteArray}
theorem Ans.rd {α β : Type} {z : α} {RR : Hp → α → β → Prop} {p : PM β} {chk : β → Int} {K : α → c8 → Int → Hp → Prop} (h : Ans H z RR (ansR p chk s) K) (he : (tkS s).2.2 = 0) : Ans H z RR (readsR p chk (toks s)) K := by
 unfold ansR at h
 rw [if_pos he] at h
 exact h
end
set_option maxHeartbeats 2000000
abbrev zP : l9 := l9.mk (Sl.mk none 0 0) (Sl.mk none 0 0)
abbrev chkP (q : PP) : Int := toldS q.nodes
abbrev gD (d : l8) : Prop := d.B0.size ≤ 65536
theorem b9G (arr : Bool) : SmP gD (declP arr) := fun r a r' ht h => by
 have t1 := ht.hd
 unfold declP at h
 split at h
 ·cases h
 split at h
 ·refine (SmP.bind (G2 := gD) (a2G _) fun _ _ r1 a1 r2 ht1 h1 => ?_) _ _ _ ht.tail h
  split at h1
  ·cases h1
  ·exact ((a2G _).bind fun _ _ => (a2G _).bind fun _ _ => a2d (G := gD) t1.1) _ _ _ ht1.tail h1
 ·exact ((a2G _).bind fun _ _ => a2d (G := gD) t1.1) _ _ _ ht.tail h
theorem b2I : ∀ (n : Nat) (l : List l8), (∀ d ∈ l, d.B0.size ≤ 65536) → SmP (fun l : List l8 => ∀ d ∈ l, d.B0.size ≤ 65536) (declsF n l)
 | 0, l, hl => fun r b r' ht h => by cases h; exact ⟨hl, ht⟩
 | n + 1, l, hl => fun r b r' ht h => by
  unfold declsF at h
  split at h
  ·exact SmP.bind (b9G _) (fun a ha => b2I n _ fun t ht => by
    rcases List.mem_append.1 ht with q | q
    ·exact hl t q
    ·rw [List.mem_singleton.1 q]; exact ha) _ _ _ ht.tail h
  ·cases h; exact ⟨hl, ht⟩
theorem b4B : SmP PP.Sm progP := SmP.bind (G := fun l : List l8 => ∀ d ∈ l, d.B0.size ≤ 65536) (fun r _ _ ht h => b2I r.length [] (fun _ q => (by cases q)) _ _ _ ht h) fun ds hd => SmP.bind (G := SmL) (fun r _ _ ht h => a8W (b4A 40) r.length [] L2 _ _ _ ht h) fun b hb => a2d fun t ht => by
 unfold PP.nodes at ht
 rcases List.mem_append.1 ht with q | q
 ·obtain ⟨u, hu, rfl⟩ := List.mem_map.1 q
  exact .mk ⟨by show u.B0.size ≤ sml; have := hd u hu; simp only [sml]; omega, by show a1P 0; decide⟩ L2
 ·exact hb t q
section
variable {H : Hp} {s : ByteArray}
theorem b0j (hT : TabsH H) (hE : ErrH H) (hs4 : s.size ≤ 4194304) {K : l9 → c8 → Int → Hp → Prop} (h : Ans H zP PH (ansR progP chkP s) K) : Y3 s H K := by
 refine a8e _ ?_
 unfold a2U
 refine b6Y (p := progP) (chk := chkP) (RR := PH) (toks := toks s) (pl := plv (tkS s).2.1) (er := (tkS s).2.2) (b8h hT hE hs4 fun e H' l hs => ⟨l, hs, rfl, rfl⟩) (fun he => ⟨(b0Y he).1, (b0Y he).2.1⟩) (fun rd k => c1K rd k) (fun {H' v b r'} he l eo ra => ?_) (fun l ra => ra.le l) (fun he H' l => ?_) (fun he c q eo H' l => ?_) fun he b eo H' v l ra => ?_
 ·exact b4w (hT.le l) ra (b4B _ _ _ (b0Y he).2.2 eo).1 fun H'' l2 => ⟨l2, b5W _⟩
 ·unfold ansR at h; rw [if_neg he] at h; exact h H' l
 ·have h := h.rd he; rw [eo] at h; exact h H' l
 ·have h := h.rd he; rw [eo] at h; exact h H' v l ra
end
theorem k1 : ansR progP chkP ⟨#[118, 97, 114, 32, 120, 59, 32, 120, 32, 61, 32, 49, 32, 43, 32, 50, 32, 42, 32, 120, 59]⟩ = .ok ⟨[⟨⟨#[120]⟩, 0⟩], [sX 1 ⟨#[120]⟩ [eX 6 0 ⟨#[]⟩ [eX 1 1 ⟨#[]⟩ [], eX 8 0 ⟨#[]⟩ [eX 1 2 ⟨#[]⟩ [], eX 2 0 ⟨#[120]⟩ []]]] [] [] []]⟩ := by kernel_rfl
theorem k2 : ansR progP chkP ⟨#[120, 32, 61, 32, 59]⟩ = .error (40, ⟨1, 5⟩) := by kernel_rfl
theorem c1S {H : Hp} {e : d7} {k n : Int} {nm : ByteArray} {ts : List PT} (h : EH H e (eX k n nm ts)) : e.g6 = k := by
 generalize ht : eX k n nm ts = t at h
 cases h with
 | mk a b c d => unfold eX at ht; injection ht with h1 h2; injection h1 with q1; exact q1.symm
theorem c5a {H : Hp} {x : g5} {k : Int} {nm : ByteArray} {t : PT} (h : SH H x (sX k nm [t] [] [] [])) : ∃ e, SlH H 4 f9 x.m5 [e] ∧ EH H e t := by
 generalize ht : sX k nm [t] [] [] [] = u at h
 cases h with
 | @mk _ xs ts ys us zs bs vs ws a1 a2 a3 b1 b2 b3 c1 c2 c3 c4 d1 d2 d3 d4 =>
  unfold sX at ht
  injection ht with h1 h2
  injection h1 with q1 q2 q3 q4 q5 q6
  have e1 : us = [] := List.length_eq_zero_iff.1 q4.symm
  have e2 : vs = [] := List.length_eq_zero_iff.1 q5.symm
  have e3 : ws = [] := List.length_eq_zero_iff.1 q6.symm
  subst e1; subst e2; subst e3
  simp only [List.nil_append, List.append_nil] at h2
  subst h2
  have hl : xs.length = 1 := a3.1
  obtain ⟨e, rfl⟩ : ∃ e, xs = [e] := List.length_eq_one_iff.1 hl
  exact ⟨e, a1, a3.2 0 e t rfl rfl⟩
section
variable {H : Hp} (hT : TabsH H) (hE : ErrH H)
include hT hE
theorem b8t {K : Bool → Hp → Prop} (h : ∀ H', Hle H H' → K true H') : a1f H K := by
 refine a6z (b0j hT hE (by decide) ?_)
 rw [k1]
 intro H1 v l1' hv
 refine b0j (hT.le l1') (hE.le l1') (by decide) ?_
 rw [k2]
 intro H2 l2
 obtain ⟨hd, _, xs, hb, _, rel⟩ := hv.le l2
 obtain ⟨x, rfl⟩ : ∃ x, xs = [x] := List.length_eq_one_iff.1 rel.1
 have hx := rel.2 0 x _ rfl rfl
 obtain ⟨e, he, hk⟩ := c5a hx
 have n1 : (v.a3A.n : Int) = 1 := by have := hd.1; simp at this; omega
 have n2 : (v.a2f.n : Int) = 1 := by have := hb.1; simp at this; omega
 have n3 : (x.m5.n : Int) = 1 := by have := he.1; simp at this; omega
 obtain ⟨y, hy, hY⟩ := hb.get (i := 0) (by omega) (by omega)
 obtain rfl : x = y := by simpa using hy
 obtain ⟨z, hz, hZ⟩ := he.get (i := 0) (by omega) (by omega)
 obtain rfl : e = z := by simpa using hz
 refine ⟨x, fun _ => ⟨by omega, by omega, hY⟩, x, fun _ => ⟨by omega, by omega, hY⟩, e, fun _ => ⟨by omega, by omega, hZ⟩, ?_⟩
 rw [n1, n2, n3, c1S hk]
 exact h H2 (l1'.trans l2)
variable {s : ByteArray}
end
abbrev e7 : PT := eX 1 7 ⟨#[]⟩ []
section
variable {g : Nat} {k : Int} {sg : ByteArray} (hk : (sg = ⟨#[43]⟩ ∧ k = 6) ∨ (sg = ⟨#[45]⟩ ∧ k = 7))
include hk
end
end Go.Proofs.YthklmeihgmcljaaGreatDoor
