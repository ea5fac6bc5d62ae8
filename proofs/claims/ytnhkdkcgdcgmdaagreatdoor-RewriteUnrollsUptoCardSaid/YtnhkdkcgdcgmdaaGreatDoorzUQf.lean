/- Folding of expressions and conditions: the plain law, the program's and the document's. Contracts off the printed formulas. -/
import Derived.Test.YtnhkdkcgdcgmdaaGreatDoorzUQ8
import Derived.Test.YtnhkdkcgdcgmdaaGreatDoorzUQn
import Derived.Test.YtnhkdkcgdcgmdaaGreatDoorzUV1t
namespace Go.Proofs.YtnhkdkcgdcgmdaaGreatDoor
open Go.RowKit
set_option maxRecDepth 100000
set_option maxHeartbeats 2000000
def eN (k n : Int) (s : ByteArray) (cs : List PT) : PT := .mk (.expr k n s cs.length) cs
def kidC : List PT → Option Int
  | .mk (.expr k n _ _) _ :: _ => if k = 1 then some (IntKind.wrap .i64 (0 - n)) else none
  | _ => none
def cst : PT → Option Int
  | .mk (.expr k n _ _) cs => if k = 1 then some n else if k = 5 then kidC cs else none
  | _ => none
def plainT (v : Int) : PT := if v < 0 then eN 5 0 ⟨#[]⟩ [eN 1 (IntKind.wrap .i64 (0 - v)) ⟨#[]⟩ []] else eN 1 v ⟨#[]⟩ []
def okR (r : Int × Int) : Option Int := if r.2 = 0 ∧ r.1 ≠ -9223372036854775808 then some r.1 else none
def two (f : Int → Int → Option Int) : Option Int → Option Int → Option Int
  | some x, some y => f x y
  | _, _ => none
def reck (k : Int) : List PT → Option Int
  | [a] => if k = 5 then two (fun x y => okR (opS 3 x y)) (cst a) (some 0) else none
  | [a, b] => if 6 ≤ k ∧ k ≤ 10 then two (fun x y => okR (opS (k - 2) x y)) (cst a) (cst b) else none
  | _ => none
def isV (t : PT) (v : Int) : Bool := decide (cst t = some v)
def simpN (k n : Int) (s : ByteArray) : List PT → PT
  | [a, b] => if k = 6 then (if isV a 0 = true then b else if isV b 0 = true then a else eN k n s [a, b])
      else if k = 7 then (if isV b 0 = true then a else eN k n s [a, b])
      else if k = 8 then (if (isV a 1 && !isV b 1) = true then b else if isV b 1 = true then a else eN k n s [a, b])
      else if k = 9 then (if isV b 1 = true then a else eN k n s [a, b]) else eN k n s [a, b]
  | cs => eN k n s cs
def foldN (k n : Int) (s : ByteArray) (cs : List PT) : PT :=
  match cst (eN k n s cs) with
  | some v => plainT v
  | none => (match reck k cs with
    | some v => plainT v
    | none => simpN k n s cs)
def truT (b : Bool) : PT := .mk (.cond (if b = true then 1 else 2) 0 0 0) []
def cN (k op : Int) (xs ps : List PT) : PT := .mk (.cond k op xs.length ps.length) (xs ++ ps)
def kindC : PT → Int
  | .mk (.cond k _ _ _) _ => k
  | _ => 0
def joinT (l d : Int) (self : PT) : List PT → PT
  | [a, b] => if kindC a = l then b else if kindC a = d then a else if kindC b = l then a else self
  | _ => self
def cmpT (op : Int) (self : PT) : List PT → PT
  | [a, b] => (match cst a, cst b with
    | some x, some y => truT (cmpS op x y)
    | _, _ => self)
  | _ => self
def notT (self : PT) : List PT → PT
  | [a] => if kindC a = 1 ∨ kindC a = 2 then truT (decide (kindC a = 2)) else self
  | _ => self
def foldC (k op : Int) (xs ps : List PT) : PT :=
  if k = 3 then cmpT op (cN k op xs ps) xs
  else if k = 4 then notT (cN k op xs ps) ps
  else if k = 5 then joinT 1 2 (cN k op xs ps) ps
  else if k = 6 then joinT 2 1 (cN k op xs ps) ps
  else cN k op xs ps
def foldL : Lab → List PT → PT
  | .expr k n s _, cs => foldN k n s cs
  | .cond k op e _, cs => foldC k op (cs.take e) (cs.drop e)
  | l, cs => .mk l cs
mutual
def foldT : PT → PT
  | .mk l cs => foldL l (foldTs cs)
def foldTs : List PT → List PT
  | [] => []
  | t :: ts => foldT t :: foldTs ts
end
theorem b7S : ∀ ts : List PT, foldTs ts = ts.map foldT
  | [] => by rw [foldTs]; rfl
  | t :: ts => by rw [foldTs, b7S ts]; rfl
def arE (k : Int) (n : Nat) : Prop := 1 ≤ k ∧ k ≤ 10 ∧ (k < 5 → n ≤ 1) ∧ (k = 5 → n = 1) ∧ (6 ≤ k → n = 2)
inductive Ar : PT → Prop
  | mk {k n : Int} {s : ByteArray} {a : Nat} {cs : List PT} : arE k cs.length → N5 n → (∀ t ∈ cs, Ar t) → Ar (.mk (.expr k n s a) cs)
def arC (k : Int) (e p : Nat) : Prop := (k = 3 → e = 2) ∧ (k = 4 → p = 1) ∧ (k = 5 → p = 2) ∧ (k = 6 → p = 2)
inductive ArC : PT → Prop
  | mk {k op : Int} {xs ps : List PT} : arC k xs.length ps.length → (∀ t ∈ xs, Ar t) → (∀ t ∈ ps, ArC t) → ArC (.mk (.cond k op xs.length ps.length) (xs ++ ps))
theorem d4r (n : Int) : N5 (IntKind.wrap .i64 n) := by rw [IntKind.wrap_i64]; unfold N5; omega
theorem c6H {t : PT} (h : Ar t) {v : Int} (hv : cst t = some v) : N5 v := by
  cases h with
  | @mk k n s a cs h1 h2 h3 =>
    rw [cst] at hv
    split at hv
    · cases hv; exact h2
    · split at hv
      · unfold kidC at hv
        split at hv
        · split at hv
          · cases hv; exact d4r _
          · cases hv
        · cases hv
      · cases hv
theorem f2B (x : Int) : N5 (fit x).1 := by
  unfold fit
  split
  · assumption
  · exact z64
theorem g6O {a b : Int} (ha : N5 a) (hb : N5 b) : N5 (remS a b).1 := by
  unfold remS
  split
  · exact z64
  · rename_i h0
    split
    · exact z64
    · have := g4I (c := a) hb h0; unfold N5; dsimp only; omega
theorem f2C {k a b : Int} (ha : N5 a) (hb : N5 b) : N5 (opS k a b).1 := by
  unfold opS
  repeat' split
  all_goals first | exact f2B _ | exact g6O ha hb | (unfold divS; split; exact z64; exact f2B _)
theorem f2D {r : Int × Int} (h : N5 r.1) {v : Int} (hv : okR r = some v) : N5 v := by
  unfold okR at hv
  split at hv
  · cases hv; exact h
  · cases hv
theorem e1B {f : Int → Int → Option Int} {a b : Option Int} {v : Int} (h : two f a b = some v) : ∃ x y, a = some x ∧ b = some y ∧ f x y = some v := by
  cases a <;> cases b <;> simp [two] at h
  exact ⟨_, _, rfl, rfl, h⟩
theorem g6P {k : Int} {cs : List PT} (h : ∀ t ∈ cs, Ar t) {v : Int} (hv : reck k cs = some v) : N5 v := by
  unfold reck at hv
  split at hv
  · split at hv
    · obtain ⟨x, y, h1, h2, h3⟩ := e1B hv
      cases h2
      exact f2D (f2C (c6H (h _ (by simp)) h1) z64) h3
    · cases hv
  · split at hv
    · obtain ⟨x, y, h1, h2, h3⟩ := e1B hv
      exact f2D (f2C (c6H (h _ (by simp)) h1) (c6H (h _ (by simp)) h2)) h3
    · cases hv
  · cases hv
theorem e1C {v : Int} (h : N5 v) : Ar (plainT v) := by
  unfold plainT eN
  split
  · refine .mk (by unfold arE; simp) z64 fun t ht => ?_
    rw [List.mem_singleton.1 ht]
    exact .mk (by unfold arE; simp) (d4r _) fun t ht => by cases ht
  · exact .mk (by unfold arE; simp) h fun t ht => by cases ht
theorem g6Q {k n : Int} {s : ByteArray} {cs : List PT} (h : arE k cs.length) (hn : N5 n) (hc : ∀ t ∈ cs, Ar t) : Ar (simpN k n s cs) := by
  have self : Ar (eN k n s cs) := .mk h hn hc
  unfold simpN
  split
  · have ha := hc _ List.mem_cons_self
    have hb := hc _ (List.mem_cons_of_mem _ List.mem_cons_self)
    repeat' split
    all_goals assumption
  · exact self
theorem f7v {k n : Int} {s : ByteArray} {cs : List PT} (h : arE k cs.length) (hn : N5 n) (hc : ∀ t ∈ cs, Ar t) : Ar (foldN k n s cs) := by
  have self : Ar (eN k n s cs) := .mk h hn hc
  unfold foldN
  split
  · rename_i v hv; exact e1C (c6H self hv)
  · split
    · rename_i v hv; exact e1C (g6P hc hv)
    · exact g6Q h hn hc
theorem e3n {t : PT} (h : Ar t) : Ar (foldT t) := by
  induction h with
  | @mk k n s a cs h1 h2 h3 ih =>
    rw [foldT, foldL, b7S]
    refine f7v (by rw [List.length_map]; exact h1) h2 fun t ht => ?_
    obtain ⟨u, hu, rfl⟩ := List.mem_map.1 ht
    exact ih u hu
section
variable {H : Hp}
theorem EH.kid {e : a8} {ts : List PT} {l : Lab} (he : EH H e (.mk l ts)) {i : Nat} {t : PT} (ht : ts[i]? = some t) : ∃ x, EltH H e.k9 i 4 (b8 x) ∧ EH H x t ∧ (i : Int) < e.k9.n := by
  cases he with
  | @mk _ xs _ hs hb hl hr =>
    obtain ⟨x, hx⟩ := D9 (l := xs) (i := i) (by have := C1 ht; omega)
    have := C1 hx
    have hn := hs.1
    exact ⟨x, hs.2 i x hx, hr i x t hx ht, by omega⟩
theorem EH.inv {e : a8} {t : PT} (he : EH H e t) : ∃ ts, t = eN e.b6 e.o6 e.f6 ts ∧ e.k9.n = ts.length := by
  cases he with
  | @mk _ xs ts hs hb hl hr => exact ⟨ts, rfl, by have := hs.1; omega⟩
def cstP (t : PT) : Int × Bool := match cst t with | some v => (v, true) | none => (0, false)
theorem a9W {t : PT} {v : Int} (h : cst t = some v) : cstP t = (v, true) := by unfold cstP; rw [h]
theorem b6M {t : PT} (h : cst t = none) : cstP t = (0, false) := by unfold cstP; rw [h]
theorem j1y (t : PT) (v : Int) : ((cstP t).2 && decide ((cstP t).1 = v)) = isV t v := by
  unfold isV
  cases h : cst t with
  | none => rw [b6M h]; simp
  | some w => rw [a9W h]; simp
theorem j5J {k n : Int} {s : ByteArray} {a : Nat} {ts : List PT} (h : Ar (.mk (.expr k n s a) ts)) (hk : k = 5) : ∃ t, ts = [t] ∧ Ar t := by
  cases h with
  | mk h1 h2 h3 =>
    have := h1.2.2.2.1 hk
    match ts, this with
    | [t], _ => exact ⟨t, rfl, h3 t (by simp)⟩
theorem g6R {e : a8} {t : PT} (he : EH H e t) (ha : Ar t) {K : Int → Bool → Hp → Prop} (h : K (cstP t).1 (cstP t).2 H) : a2g e H K := by
  obtain ⟨ts, rfl, hn⟩ := he.inv
  unfold a2g
  refine ⟨fun h1 => ?_, fun h1 => ?_⟩
  · have : cst (eN e.b6 e.o6 e.f6 ts) = some e.o6 := by unfold eN; rw [cst, if_pos h1]
    rw [a9W this] at h; exact h
  · by_cases h5 : e.b6 = 5
    · obtain ⟨t, rfl, hat⟩ := j5J ha h5
      obtain ⟨x, hE, hx, hl⟩ := he.kid (i := 0) rfl
      obtain ⟨us, rfl, _⟩ := hx.inv
      have hc : cst (eN e.b6 e.o6 e.f6 [eN x.b6 x.o6 x.f6 us]) = if x.b6 = 1 then some (IntKind.wrap .i64 (0 - x.o6)) else none := by
        unfold eN; rw [cst, if_neg h1, if_pos h5, kidC]
      refine ⟨x, fun _ => ⟨Int.le_refl _, hl, hE⟩, fun hq => ⟨Int.le_refl _, hl, x, hE, ?_⟩, fun hq => ?_⟩
      · simp only [Bool.and_eq_true, decide_eq_true_eq] at hq
        rw [if_pos hq.2] at hc
        rw [a9W hc] at h; exact h
      · rw [if_neg (by rw [decide_eq_true h5, Bool.true_and] at hq; exact of_decide_eq_false hq)] at hc
        rw [b6M hc] at h; exact h
    · have hc : cst (eN e.b6 e.o6 e.f6 ts) = none := by unfold eN; rw [cst, if_neg h1, if_neg h5]
      rw [b6M hc] at h
      refine ⟨⟨0, 0, ⟨#[]⟩, ⟨none, 0, 0⟩⟩, fun hq => ((h5 (of_decide_eq_true hq)).elim), fun hq => ?_, fun _ => h⟩
      rw [decide_eq_false h5, Bool.false_and] at hq; cases hq
theorem b9V {e : a8} {t : PT} (he : EH H e t) (ha : Ar t) {K : Int → Bool → Hp → Prop} (h : K (cstP t).1 (cstP t).2 H) : T0 e H K := b7N _ (g6R he ha h)
theorem c4r {e : a8} {t : PT} (he : EH H e t) (ha : Ar t) {v : Int} {K : Bool → Hp → Prop} (h : K (isV t v) H) : a1V e v H K := by
  refine c4F _ _ ?_
  unfold a8q
  refine b9V he ha ?_
  rw [j1y]; exact h
theorem EH.leaf (H : Hp) (k n : Int) (s : ByteArray) : EH H ⟨k, n, s, ⟨none, 0, 0⟩⟩ (eN k n s []) := EH.mk (e := ⟨k, n, s, ⟨none, 0, 0⟩⟩) (ts := []) (SlH.nil _ _ _) (Nat.zero_le _) rfl fun i x t hx => by simp at hx
theorem EH.node {k n : Int} {s : ByteArray} {sl : Sl} {xs : List a8} {ts : List PT} (hs : SlH H 4 b8 sl xs) (hb : xs.length ≤ big) (hr : u4 (EH H) xs ts) : EH H ⟨k, n, s, sl⟩ (eN k n s ts) := EH.mk (e := ⟨k, n, s, sl⟩) hs hb hr.1 hr.2
theorem e1D {v : Int} {K : a8 → Hp → Prop} (h : ∀ y H', Hle H H' → EH H' y (plainT v) → K y H') : a6t v H K := by
  refine c1s _ ?_
  unfold a6A
  refine ⟨fun hv s H1 l1 hS _ => h _ H1 l1 ?_, fun hv => h _ H (Hle.refl _) ?_⟩
  · unfold plainT; rw [if_pos hv]
    exact EH.node hS (by simp [big]) (u4.one (EH.leaf _ _ _ _))
  · unfold plainT; rw [if_neg hv]
    exact EH.leaf _ _ _ _
end
end Go.Proofs.YtnhkdkcgdcgmdaaGreatDoor
