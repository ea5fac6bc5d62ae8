/- Parsing: places change nothing but faults' places; the law ParseTakes. -/
import Derived.Test.YthklmeihgmcljaaGreatDoorzTXn
namespace Go.Proofs.YthklmeihgmcljaaGreatDoor
open Go.RowKit
set_option maxRecDepth 100000
set_option maxHeartbeats 1000000
def er (t : Tok) : Tok := ⟨t.c8, t.B6, t.J5, ⟨0, 0⟩⟩
abbrev erL (r : List Tok) : List Tok := r.map er
def eR {α : Type} : Except Flt (α × List Tok) → Except Flt (α × List Tok)
 | .error (c, _) => .error (c, ⟨0, 0⟩)
 | .ok (a, r) => .ok (a, erL r)
def Bl {α : Type} (p : PM α) : Prop := ∀ r, p (erL r) = eR (p r)
theorem b3R (r : List Tok) : hd (erL r) = er (hd r) := by cases r <;> rfl
theorem a4c (r : List Tok) : (erL r).tail = erL r.tail := by cases r <;> rfl
theorem a4T (r : List Tok) : (hd (erL r)).c8 = (hd r).c8 := by rw [b3R]; rfl
theorem b0x (r : List Tok) : (hd (erL r)).B6 = (hd r).B6 := by rw [b3R]; rfl
theorem b9B (r : List Tok) : (hd (erL r)).J5 = (hd r).J5 := by rw [b3R]; rfl
theorem b8c (r : List Tok) : (hd (erL r)).fAt = ⟨0, 0⟩ := by rw [b3R]; rfl
theorem a0j (s : ByteArray) (r : List Tok) : isT s (erL r) = isT s r := by unfold isT; rw [a4T, b0x]
theorem a9Q (r : List Tok) : (erL r).length = r.length := List.length_map _
theorem b1i (r : List Tok) : factB (erL r) = factB r := by unfold factB; simp only [a4T, a0j]
theorem b7d (r : List Tok) : litB (erL r) = litB r := by unfold litB; simp only [b1i, a0j]
theorem b5E (r : List Tok) : stmtB (erL r) = stmtB r := by unfold stmtB; simp only [a4T, a0j]
theorem b1T : ∀ (ss : List ByteArray) (ks : List Int) (r : List Tok), whG ss ks (erL r) = whG ss ks r
 | [], ks, r => by cases ks <;> rfl
 | s :: ss, [], r => rfl
 | s :: ss, k :: ks, r => by rw [a1G, a1G, a0j, b1T ss ks r]
theorem a7l {α : Type} (r : List Tok) : wantE (α := α) (erL r) = eR (wantE r) := by unfold wantE; rw [b8c]; rfl
theorem Bl.pure {α : Type} (a : α) : Bl (pureP a) := fun r => rfl
theorem Bl.bind {α β : Type} {p : PM α} {f : α → PM β} (hp : Bl p) (hf : ∀ a, Bl (f a)) : Bl (bindP p f) := fun r => by
 unfold bindP
 rw [hp r]
 cases p r with
 | error x => rfl
 | ok x => exact hf x.1 x.2
theorem Bl.must (s : ByteArray) : Bl (mustP s) := fun r => by
 unfold mustP
 rw [a0j, a4c, b8c]
 split <;> rfl
theorem Bl.dead {α : Type} {b : List Tok → Bool} (hb : ∀ r, b (erL r) = b r) : Bl (deadE (α := α) b) := fun r => by
 unfold deadE
 rw [hb, b8c]
 split <;> rfl
theorem Bl.tail {α : Type} {p : PM α} (hp : Bl p) (r : List Tok) : p (erL r).tail = eR (p r.tail) := by rw [a4c]; exact hp _
theorem Bl.chainF {w : List Tok → Int} (hw : ∀ r, w (erL r) = w r) {part : PM PT} (hp : Bl part) : ∀ (n : Nat) (e : PT), Bl (chainF w part n e)
 | 0, e => fun r => rfl
 | n + 1, e => fun r => by
  unfold Go.Proofs.YthklmeihgmcljaaGreatDoor.chainF
  rw [hw]
  split
  ·rfl
  ·exact Bl.tail (Bl.bind hp fun a => Bl.chainF hw hp n _) r
theorem Bl.joinsF {s : ByteArray} {k : Int} {part : PM PT} (hp : Bl part) : ∀ (n : Nat) (e : PT), Bl (joinsF s k part n e)
 | 0, e => fun r => rfl
 | n + 1, e => fun r => by
  unfold Go.Proofs.YthklmeihgmcljaaGreatDoor.joinsF
  rw [a0j]
  split
  ·exact Bl.tail (Bl.bind hp fun a => Bl.joinsF hp n _) r
  ·rfl
theorem Bl.chainP {w : List Tok → Int} (hw : ∀ r, w (erL r) = w r) {part : PM PT} (hp : Bl part) : Bl (chainP w part) := hp.bind fun e r => by
 rw [a9Q]; exact Bl.chainF hw hp _ _ _
theorem Bl.joinsP {s : ByteArray} {k : Int} {part : PM PT} (hp : Bl part) : Bl (joinsP s k part) := hp.bind fun e r => by
 rw [a9Q]; exact Bl.joinsF hp _ _ _
theorem Bl.expr {f : PM PT} (hf : Bl f) : Bl (exprOf f) := Bl.chainP (b1T _ _) (Bl.chainP (b1T _ _) hf)
theorem Bl.factS {f : PM PT} (hf : Bl f) : Bl (factS f) := fun r => by
 have he := Bl.expr hf
 unfold Go.Proofs.YthklmeihgmcljaaGreatDoor.factS
 rw [b1i, a0j, a0j, a0j, a4T, b9B, b0x, a7l]
 split
 ·rfl
 split
 ·exact Bl.tail (hf.bind fun e => .pure _) r
 split
 ·exact Bl.tail (he.bind fun e => (Bl.must _).bind fun _ => .pure _) r
 split
 ·rw [a4c]; rfl
 split
 ·rw [a4c]; rfl
 rw [a4c, a0j]
 split
 ·exact Bl.tail (he.bind fun e => (Bl.must _).bind fun _ => .pure _) r.tail
 ·rfl
theorem Bl.factP : ∀ g, Bl (factP g)
 | 0 => Bl.dead b1i
 | g + 1 => Bl.factS (Bl.factP g)
theorem Bl.exprP (g : Nat) : Bl (exprP g) := Bl.expr (Bl.factP g)
theorem Bl.rel : Bl relP := fun r => by
 have e : relR (erL r) = relR r := b1T _ _ r
 unfold relP
 rw [e, a7l, a4c]
 split <;> rfl
theorem Bl.cond {l : PM PT} (hl : Bl l) : Bl (condOf l) := Bl.joinsP (Bl.joinsP hl)
theorem Bl.litS {l ex : PM PT} (hl : Bl l) (hx : Bl ex) : Bl (litS l ex) := fun r => by
 unfold Go.Proofs.YthklmeihgmcljaaGreatDoor.litS
 rw [b7d, a0j, a0j, a0j, a0j, a7l]
 split
 ·rfl
 split
 ·rw [a4c]; rfl
 split
 ·rw [a4c]; rfl
 split
 ·exact Bl.tail (hl.bind fun e => .pure _) r
 split
 ·exact Bl.tail ((Bl.cond hl).bind fun e => (Bl.must _).bind fun _ => .pure _) r
 ·exact (hx.bind fun a => Bl.rel.bind fun op => hx.bind fun b => .pure _) r
theorem Bl.litP : ∀ g, Bl (litP g)
 | 0 => Bl.dead b7d
 | g + 1 => Bl.litS (Bl.litP g) (Bl.exprP _)
theorem Bl.condP (g : Nat) : Bl (condP g) := Bl.cond (Bl.litP g)
theorem Bl.stmtsF {stop : List Tok → Bool} (hs : ∀ r, stop (erL r) = stop r) {st : PM PT} (hp : Bl st) : ∀ (n : Nat) (l : List PT), Bl (stmtsF stop st n l)
 | 0, l => fun r => rfl
 | n + 1, l => fun r => by
  unfold Go.Proofs.YthklmeihgmcljaaGreatDoor.stmtsF
  rw [hs]
  split
  ·rfl
  ·exact Bl.bind hp (fun a => Bl.stmtsF hs hp n _) r
theorem Bl.block {st : PM PT} (hp : Bl st) : Bl (blockOf st) := (Bl.must _).bind fun _ => Bl.bind (fun r => by rw [a9Q]; exact Bl.stmtsF (a0j _) hp _ _ r) fun l r => by
 show Except.ok (l, (erL r).tail) = _
 rw [a4c]; rfl
theorem Bl.endS (s : PT) : Bl (endS s) := (Bl.must _).bind fun _ => .pure _
theorem Bl.setS {k : Int} {s : ByteArray} {es : List PT} {ex : PM PT} (hx : Bl ex) : Bl (setS k s es ex) := (Bl.must _).bind fun _ => hx.bind fun e => Bl.endS _
theorem Bl.stmtS {st sub ex co : PM PT} (hs : Bl st) (hb : Bl sub) (hx : Bl ex) (hc : Bl co) : Bl (stmtS st sub ex co) := fun r => by
 have hbl := Bl.block hs
 unfold Go.Proofs.YthklmeihgmcljaaGreatDoor.stmtS
 rw [b5E, a4T, b0x, a7l]
 split
 ·rfl
 split
 ·rw [a4c, a0j]
  split
  ·exact Bl.tail (hb.bind fun e => (Bl.must _).bind fun _ => Bl.setS hx) r.tail
  ·exact Bl.setS hx r.tail
 split
 ·exact Bl.tail (hc.bind fun c => hbl.bind fun th r1 => by
   rw [a0j]
   split
   ·exact Bl.tail (hbl.bind fun el => .pure _) r1
   ·rfl) r
 split
 ·exact Bl.tail (hc.bind fun c => hbl.bind fun th => .pure _) r
 split
 ·exact Bl.tail (hc.bind fun c => Bl.endS _) r
 split
 ·exact Bl.tail (hc.bind fun c => Bl.endS _) r
 ·exact Bl.tail (Bl.endS _) r
theorem Bl.stmtP : ∀ g, Bl (stmtP g)
 | 0 => Bl.dead b5E
 | g + 1 => Bl.stmtS (Bl.stmtP g) (Bl.exprP _) (Bl.exprP _) (Bl.condP _)
theorem Bl.declP (arr : Bool) : Bl (declP arr) := fun r => by
 unfold Go.Proofs.YthklmeihgmcljaaGreatDoor.declP
 rw [a4T, b0x, a7l]
 split
 ·rfl
 split
 ·exact Bl.tail ((Bl.must _).bind fun _ r1 => by
   rw [a4T, b9B, a7l]
   split
   ·rfl
   ·exact Bl.tail ((Bl.must _).bind fun _ => (Bl.must _).bind fun _ => .pure _) r1) r
 ·exact Bl.tail ((Bl.must _).bind fun _ => .pure _) r
theorem Bl.declsF : ∀ (n : Nat) (l : List k7), Bl (declsF n l)
 | 0, l => fun r => rfl
 | n + 1, l => fun r => by
  unfold Go.Proofs.YthklmeihgmcljaaGreatDoor.declsF
  rw [a0j, a0j]
  split
  ·exact Bl.tail ((Bl.declP _).bind fun d => Bl.declsF n _) r
  ·rfl
theorem Bl.progP : Bl progP := Bl.bind (fun r => by rw [a9Q]; exact Bl.declsF _ _ r) fun ds => Bl.bind (fun r => by rw [a9Q]; exact Bl.stmtsF (fun r => by unfold endB; rw [a4T]) (Bl.stmtP 40) _ _ r) fun b => .pure _
def eA {α : Type} : Except Flt α → Except Int α
 | .error (c, _) => .error c
 | .ok a => .ok a
theorem b5F {β : Type} {p : PM β} {chk : β → Int} (hp : Bl p) (r : List Tok) : eA (readsR p chk (erL r)) = eA (readsR p chk r) := by
 unfold readsR
 rw [hp r]
 cases p r with
 | error x => rfl
 | ok x =>
  obtain ⟨b, r'⟩ := x
  dsimp only [eR]
  rw [a4T]
  split
  ·rfl
  split
  ·rfl
  split <;> rfl
theorem c6G {k l : Tk} (h : ktn k = ktn l) : er (tkv k) = er (tkv l) := by
 unfold ktn at h
 simp only [Prod.mk.injEq] at h
 show (⟨k.kind, k.text, k.num, ⟨0, 0⟩⟩ : Tok) = ⟨l.kind, l.text, l.num, ⟨0, 0⟩⟩
 rw [h.1, h.2.1, h.2.2]
theorem b7e : ∀ (a b : List Tk), a.map ktn = b.map ktn → erL (a.map tkv) = erL (b.map tkv)
 | [], [], _ => rfl
 | [], _ :: _, h => by cases h
 | _ :: _, [], h => by cases h
 | x :: a, y :: b, h => by
  rw [List.map_cons, List.map_cons] at h
  injection h with h1 h2
  show er (tkv x) :: erL (a.map tkv) = er (tkv y) :: erL (b.map tkv)
  rw [c6G h1, b7e a b h2]
theorem b1U {s : ByteArray} (hs : s.size + 3 ≤ 65536) : eA (ansR progP chkP (cmB ++ s)) = eA (ansR progP chkP s) := by
 obtain ⟨h1, h2⟩ := c7p hs
 unfold ansR
 rw [h2]
 split
 ·rw [← b5F Bl.progP (toks (cmB ++ s)), ← b5F Bl.progP (toks s)]
  show eA (readsR progP chkP (erL ((tkS (cmB ++ s)).1.map tkv))) = eA (readsR progP chkP (erL ((tkS s).1.map tkv)))
  rw [b7e _ _ h1]
 ·rfl
section
variable {H : Hp} (hT : TabsH H) (hE : ErrH H)
include hT hE
theorem b3N {s : ByteArray} (hs4 : s.size ≤ 1048576) {K : Bool → Hp → Prop} (h : ∀ H', Hle H H' → K true H') : a0e s H K := by
 refine a5L _ (b9y hT hE fun H1 l1 => ⟨fun q => (by cases q), fun _ => ?_⟩)
 have hz : (cmB ++ s).size = s.size + 3 := (sh3 s).sz
 have h3 : (cmB : ByteArray).size = 3 := rfl
 refine a7I (hT.le l1) (hE.le l1) (by omega) ?_
 cases ho : ansR progP chkP s with
 | error y =>
  obtain ⟨c, q⟩ := y
  intro H2 l2
  refine ⟨by rw [show (⟨#[35, 32, 10]⟩ : ByteArray).size = 3 from rfl]; omega, a7I ((hT.le l1).le l2) ((hE.le l1).le l2) (Nat.le_trans (Nat.le_of_eq hz) (by omega)) ?_⟩
  cases hq : ansR progP chkP (cmB ++ s) with
  | error z =>
   obtain ⟨d, q'⟩ := z
   intro H3 l3
   have hk := h _ ((l1.trans l2).trans l3)
   refine ⟨fun _ => hk, fun cz => ?_⟩
   rw [U4 ⟨by omega, by omega⟩] at cz
   have e := b1U (s := s) (by omega)
   rw [ho, hq] at e
   have e : d = c := by injection e
   subst e
   refine ⟨fun n => absurd rfl n, fun _ => ?_⟩
   have pz : ∀ {H : Hp}, PH H zP ⟨[], []⟩ := fun {H} => ⟨SlH.nil _ _ _, by simp [big], [], SlH.nil _ _ _, by simp [big], z6.nil⟩
   have sm0 : PP.Sm ⟨[], []⟩ := fun t ht => by cases ht
   have eqr : eqS (⟨[], []⟩ : PP) ⟨[], []⟩ = true := by
    unfold eqS eqD
    rw [show fewP ⟨[], []⟩ = true by kernel_rfl, a6k.2 rfl]
    simp
   have tz := (((hT.le l1).le l2).le l3)
   by_cases d0 : d = 0
   ·subst d0
    refine ⟨fun _ => a9e tz pz sm0 fun H4 l4 => ?_, fun n => absurd (by decide) n⟩
    rw [show vEnd (allV (⟨[], []⟩ : PP)) = 0 by kernel_rfl]
    refine ⟨fun _ => b5u (tz.le l4) pz sm0 pz sm0 fun H5 l5 => ?_, fun n => absurd (by decide) n⟩
    rw [eqr]
    exact h _ ((((l1.trans l2).trans l3).trans l4).trans l5)
   ·have e0 : decide (d = 0) = false := decide_eq_false d0
    rw [e0]
    exact ⟨fun n => absurd n (by decide), fun _ => ⟨fun n => absurd n (by decide), fun _ => hk⟩⟩
  | ok z =>
   intro H3 v l3 hv
   have hk := h _ ((l1.trans l2).trans l3)
   refine ⟨fun _ => hk, fun cz => ?_⟩
   rw [U4 ⟨by omega, by omega⟩] at cz
   have e := b1U (s := s) (by omega)
   rw [ho, hq] at e
   cases e
 | ok b =>
  intro H2 v l2 hv
  refine ⟨by rw [show (⟨#[35, 32, 10]⟩ : ByteArray).size = 3 from rfl]; omega, a7I ((hT.le l1).le l2) ((hE.le l1).le l2) (Nat.le_trans (Nat.le_of_eq hz) (by omega)) ?_⟩
  cases hq : ansR progP chkP (cmB ++ s) with
  | error z =>
   obtain ⟨d, q'⟩ := z
   intro H3 l3
   have hk := h _ ((l1.trans l2).trans l3)
   refine ⟨fun _ => hk, fun cz => ?_⟩
   rw [U4 ⟨by omega, by omega⟩] at cz
   have e := b1U (s := s) (by omega)
   rw [ho, hq] at e
   cases e
  | ok z =>
   intro H3 v' l3 hv'
   have hk := h _ ((l1.trans l2).trans l3)
   refine ⟨fun _ => hk, fun cz => ?_⟩
   rw [U4 ⟨by omega, by omega⟩] at cz
   have e := b1U (s := s) (by omega)
   rw [ho, hq] at e
   have e : z = b := by injection e
   subst e
   have tz := (((hT.le l1).le l2).le l3)
   have hsm := c6F ho
   refine ⟨fun n => absurd rfl n, fun _ => ⟨fun _ => a9e tz (hv.le l3) hsm fun H4 l4 => ?_, fun n => absurd (by decide) n⟩⟩
   rw [show vEnd (allV z) = chkP z from b2S _, b5D ho]
   refine ⟨fun _ => b5u (tz.le l4) (hv.le (l3.trans l4)) hsm (hv'.le l4) hsm fun H5 l5 => ?_, fun n => absurd (by decide) n⟩
   have hf : fewP z = true := c6C (by rw [show toldS z.nodes = 0 from b5D ho]; decide) (by rw [show toldS z.nodes = 0 from b5D ho]; decide)
   rw [show eqS z z = true by unfold eqS eqD; rw [hf, a6k.2 rfl]; simp]
   exact h _ ((((l1.trans l2).trans l3).trans l4).trans l5)
end
end Go.Proofs.YthklmeihgmcljaaGreatDoor
