/- Folding of expressions and conditions: the plain law, the program's and the document's. Contracts off the printed formulas. -/
import Derived.Test.YtnhkdkcgdcgmdaaGreatDoorzRG1r
import Derived.Test.YtnhkdkcgdcgmdaaGreatDoorzRQn
import Derived.Test.YtnhkdkcgdcgmdaaGreatDoorzRV1t
namespace Go.Proofs.YtnhkdkcgdcgmdaaGreatDoor
open Go.RowKit
set_option maxRecDepth 100000
set_option maxHeartbeats 2000000
def eN (k n : Int) (s : ByteArray) (cs : List PT) : PT := .mk (.expr k n s cs.length) cs
def kidC : List PT → Option Int
  | .mk (.expr k n _ _) _ :: _ => if k = 1 then some (IntKind.wrap .i64 (0 - n)) else none
  | _ => none
def cst : PT → Option Int
  | .mk (.expr k n _ _) cs => if k = 1 then some n else if k = 5 then kidC cs else none
  | _ => none
def plainT (v : Int) : PT := if v < 0 then eN 5 0 ⟨#[]⟩ [eN 1 (IntKind.wrap .i64 (0 - v)) ⟨#[]⟩ []] else eN 1 v ⟨#[]⟩ []
def okR (r : Int × Int) : Option Int := if r.2 = 0 ∧ r.1 ≠ -9223372036854775808 then some r.1 else none
def two (f : Int → Int → Option Int) : Option Int → Option Int → Option Int
  | some x, some y => f x y
  | _, _ => none
def reck (k : Int) : List PT → Option Int
  | [a] => if k = 5 then two (fun x y => okR (opS 3 x y)) (cst a) (some 0) else none
  | [a, b] => if 6 ≤ k ∧ k ≤ 10 then two (fun x y => okR (opS (k - 2) x y)) (cst a) (cst b) else none
  | _ => none
def isV (t : PT) (v : Int) : Bool := decide (cst t = some v)
def simpN (k n : Int) (s : ByteArray) : List PT → PT
  | [a, b] => if k = 6 then (if isV a 0 = true then b else if isV b 0 = true then a else eN k n s [a, b])
      else if k = 7 then (if isV b 0 = true then a else eN k n s [a, b])
      else if k = 8 then (if (isV a 1 && !isV b 1) = true then b else if isV b 1 = true then a else eN k n s [a, b])
      else if k = 9 then (if isV b 1 = true then a else eN k n s [a, b]) else eN k n s [a, b]
  | cs => eN k n s cs
def foldN (k n : Int) (s : ByteArray) (cs : List PT) : PT :=
  match cst (eN k n s cs) with
  | some v => plainT v
  | none => (match reck k cs with
    | some v => plainT v
    | none => simpN k n s cs)
def truT (b : Bool) : PT := .mk (.cond (if b = true then 1 else 2) 0 0 0) []
def cN (k op : Int) (xs ps : List PT) : PT := .mk (.cond k op xs.length ps.length) (xs ++ ps)
def kindC : PT → Int
  | .mk (.cond k _ _ _) _ => k
  | _ => 0
def joinT (l d : Int) (self : PT) : List PT → PT
  | [a, b] => if kindC a = l then b else if kindC a = d then a else if kindC b = l then a else self
  | _ => self
def cmpT (op : Int) (self : PT) : List PT → PT
  | [a, b] => (match cst a, cst b with
    | some x, some y => truT (cmpS op x y)
    | _, _ => self)
  | _ => self
def notT (self : PT) : List PT → PT
  | [a] => if kindC a = 1 ∨ kindC a = 2 then truT (decide (kindC a = 2)) else self
  | _ => self
def foldC (k op : Int) (xs ps : List PT) : PT :=
  if k = 3 then cmpT op (cN k op xs ps) xs
  else if k = 4 then notT (cN k op xs ps) ps
  else if k = 5 then joinT 1 2 (cN k op xs ps) ps
  else if k = 6 then joinT 2 1 (cN k op xs ps) ps
  else cN k op xs ps
def foldL : Lab → List PT → PT
  | .expr k n s _, cs => foldN k n s cs
  | .cond k op e _, cs => foldC k op (cs.take e) (cs.drop e)
  | l, cs => .mk l cs
mutual
def foldT : PT → PT
  | .mk l cs => foldL l (foldTs cs)
def foldTs : List PT → List PT
  | [] => []
  | t :: ts => foldT t :: foldTs ts
end
theorem a3w : ∀ ts : List PT, foldTs ts = ts.map foldT
  | [] => by rw [foldTs]; rfl
  | t :: ts => by rw [foldTs, a3w ts]; rfl
def arE (k : Int) (n : Nat) : Prop := 1 ≤ k ∧ k ≤ 10 ∧ (k < 5 → n ≤ 1) ∧ (k = 5 → n = 1) ∧ (6 ≤ k → n = 2)
inductive Ar : PT → Prop
  | mk {k n : Int} {s : ByteArray} {a : Nat} {cs : List PT} : arE k cs.length ∧ a = cs.length → o8 n → (∀ t ∈ cs, Ar t) → Ar (.mk (.expr k n s a) cs)
def arC (k : Int) (e p : Nat) : Prop := (k = 3 → e = 2) ∧ (k = 4 → p = 1) ∧ (k = 5 → p = 2) ∧ (k = 6 → p = 2)
inductive ArC : PT → Prop
  | mk {k op : Int} {xs ps : List PT} : arC k xs.length ps.length → (∀ t ∈ xs, Ar t) → (∀ t ∈ ps, ArC t) → ArC (.mk (.cond k op xs.length ps.length) (xs ++ ps))
theorem b5j (n : Int) : o8 (IntKind.wrap .i64 n) := by rw [IntKind.wrap_i64]; unfold o8; omega
theorem b0C {t : PT} (h : Ar t) {v : Int} (hv : cst t = some v) : o8 v := by
  cases h with
  | @mk k n s a cs h1 h2 h3 =>
    rw [cst] at hv
    split at hv
    · cases hv; exact h2
    · split at hv
      · unfold kidC at hv
        split at hv
        · split at hv
          · cases hv; exact b5j _
          · cases hv
        · cases hv
      · cases hv
theorem e2W (x : Int) : o8 (fit x).1 := by
  unfold fit
  split
  · assumption
  · exact z64
theorem f4D {a b : Int} (ha : o8 a) (hb : o8 b) : o8 (remS a b).1 := by
  unfold remS
  split
  · exact z64
  · rename_i h0
    split
    · exact z64
    · have := d5Y (c := a) hb h0; unfold o8; dsimp only; omega
theorem c5F {k a b : Int} (ha : o8 a) (hb : o8 b) : o8 (opS k a b).1 := by
  unfold opS
  repeat' split
  all_goals first | exact e2W _ | exact f4D ha hb | (unfold divS; split; exact z64; exact e2W _)
theorem c5G {r : Int × Int} (h : o8 r.1) {v : Int} (hv : okR r = some v) : o8 v := by
  unfold okR at hv
  split at hv
  · cases hv; exact h
  · cases hv
theorem b1l {f : Int → Int → Option Int} {a b : Option Int} {v : Int} (h : two f a b = some v) : ∃ x y, a = some x ∧ b = some y ∧ f x y = some v := by
  cases a <;> cases b <;> simp [two] at h
  exact ⟨_, _, rfl, rfl, h⟩
theorem d6d {k : Int} {cs : List PT} (h : ∀ t ∈ cs, Ar t) {v : Int} (hv : reck k cs = some v) : o8 v := by
  unfold reck at hv
  split at hv
  · split at hv
    · obtain ⟨x, y, h1, h2, h3⟩ := b1l hv
      cases h2
      exact c5G (c5F (b0C (h _ (by simp)) h1) z64) h3
    · cases hv
  · split at hv
    · obtain ⟨x, y, h1, h2, h3⟩ := b1l hv
      exact c5G (c5F (b0C (h _ (by simp)) h1) (b0C (h _ (by simp)) h2)) h3
    · cases hv
  · cases hv
theorem d3i {v : Int} (h : o8 v) : Ar (plainT v) := by
  unfold plainT eN
  split
  · refine .mk ⟨by unfold arE; simp, rfl⟩ z64 fun t ht => ?_
    rw [List.mem_singleton.1 ht]
    exact .mk ⟨by unfold arE; simp, rfl⟩ (b5j _) fun t ht => by cases ht
  · exact .mk ⟨by unfold arE; simp, rfl⟩ h fun t ht => by cases ht
theorem f4E {k n : Int} {s : ByteArray} {cs : List PT} (h : arE k cs.length) (hn : o8 n) (hc : ∀ t ∈ cs, Ar t) : Ar (simpN k n s cs) := by
  have self : Ar (eN k n s cs) := .mk ⟨h, rfl⟩ hn hc
  unfold simpN
  split
  · have ha := hc _ List.mem_cons_self
    have hb := hc _ (List.mem_cons_of_mem _ List.mem_cons_self)
    repeat' split
    all_goals assumption
  · exact self
theorem e7n {k n : Int} {s : ByteArray} {cs : List PT} (h : arE k cs.length) (hn : o8 n) (hc : ∀ t ∈ cs, Ar t) : Ar (foldN k n s cs) := by
  have self : Ar (eN k n s cs) := .mk ⟨h, rfl⟩ hn hc
  unfold foldN
  split
  · rename_i v hv; exact d3i (b0C self hv)
  · split
    · rename_i v hv; exact d3i (d6d hc hv)
    · exact f4E h hn hc
theorem a6r {t : PT} (h : Ar t) : Ar (foldT t) := by
  induction h with
  | @mk k n s a cs h1 h2 h3 ih =>
    rw [foldT, foldL, a3w]
    refine e7n (by rw [List.length_map]; exact h1.1) h2 fun t ht => ?_
    obtain ⟨u, hu, rfl⟩ := List.mem_map.1 ht
    exact ih u hu
section
variable {H : Hp}
theorem EH.kid {e : b6} {ts : List PT} {l : Lab} (he : EH H e (.mk l ts)) {i : Nat} {t : PT} (ht : ts[i]? = some t) : ∃ x, EltH H e.o9 i 4 (b8 x) ∧ EH H x t ∧ (i : Int) < e.o9.n := by
  cases he with
  | @mk _ xs _ hs hb hl hr =>
    obtain ⟨x, hx⟩ := B2 (l := xs) (i := i) (by have := M1 ht; omega)
    have := M1 hx
    have hn := hs.1
    exact ⟨x, hs.2 i x hx, hr i x t hx ht, by omega⟩
theorem EH.inv {e : b6} {t : PT} (he : EH H e t) : ∃ ts, t = eN e.a8 e.p5 e.b7 ts ∧ e.o9.n = ts.length := by
  cases he with
  | @mk _ xs ts hs hb hl hr => exact ⟨ts, rfl, by have := hs.1; omega⟩
def cstP (t : PT) : Int × Bool := match cst t with | some v => (v, true) | none => (0, false)
theorem a6v {t : PT} {v : Int} (h : cst t = some v) : cstP t = (v, true) := by unfold cstP; rw [h]
theorem b1Z {t : PT} (h : cst t = none) : cstP t = (0, false) := by unfold cstP; rw [h]
theorem h5K (t : PT) (v : Int) : ((cstP t).2 && decide ((cstP t).1 = v)) = isV t v := by
  unfold isV
  cases h : cst t with
  | none => rw [b1Z h]; simp
  | some w => rw [a6v h]; simp
theorem i0X {k n : Int} {s : ByteArray} {a : Nat} {ts : List PT} (h : Ar (.mk (.expr k n s a) ts)) (hk : k = 5) : ∃ t, ts = [t] ∧ Ar t := by
  cases h with
  | mk h1 h2 h3 =>
    have := h1.1.2.2.2.1 hk
    match ts, this with
    | [t], _ => exact ⟨t, rfl, h3 t (by simp)⟩
theorem d6e {e : b6} {t : PT} (he : EH H e t) (ha : Ar t) {K : Int → Bool → Hp → Prop} (h : K (cstP t).1 (cstP t).2 H) : Y2 e H K := by
  obtain ⟨ts, rfl, hn⟩ := he.inv
  unfold Y2
  refine ⟨fun h1 => ?_, fun h1 => ?_⟩
  · have : cst (eN e.a8 e.p5 e.b7 ts) = some e.p5 := by unfold eN; rw [cst, if_pos h1]
    rw [a6v this] at h; exact h
  · by_cases h5 : e.a8 = 5
    · obtain ⟨t, rfl, hat⟩ := i0X ha h5
      obtain ⟨x, hE, hx, hl⟩ := he.kid (i := 0) rfl
      obtain ⟨us, rfl, _⟩ := hx.inv
      have hc : cst (eN e.a8 e.p5 e.b7 [eN x.a8 x.p5 x.b7 us]) = if x.a8 = 1 then some (IntKind.wrap .i64 (0 - x.p5)) else none := by
        unfold eN; rw [cst, if_neg h1, if_pos h5, kidC]
      refine ⟨x, fun _ => ⟨Int.le_refl _, hl, hE⟩, fun hq => ⟨Int.le_refl _, hl, x, hE, ?_⟩, fun hq => ?_⟩
      · simp only [Bool.and_eq_true, decide_eq_true_eq] at hq
        rw [if_pos hq.2] at hc
        rw [a6v hc] at h; exact h
      · rw [if_neg (by rw [decide_eq_true h5, Bool.true_and] at hq; exact of_decide_eq_false hq)] at hc
        rw [b1Z hc] at h; exact h
    · have hc : cst (eN e.a8 e.p5 e.b7 ts) = none := by unfold eN; rw [cst, if_neg h1, if_neg h5]
      rw [b1Z hc] at h
      refine ⟨⟨0, 0, ⟨#[]⟩, ⟨none, 0, 0⟩⟩, fun hq => ((h5 (of_decide_eq_true hq)).elim), fun hq => ?_, fun _ => h⟩
      rw [decide_eq_false h5, Bool.false_and] at hq; cases hq
theorem b4o {e : b6} {t : PT} (he : EH H e t) (ha : Ar t) {K : Int → Bool → Hp → Prop} (h : K (cstP t).1 (cstP t).2 H) : Q0 e H K := b2N _ (d6e he ha h)
theorem b8t {e : b6} {t : PT} (he : EH H e t) (ha : Ar t) {v : Int} {K : Bool → Hp → Prop} (h : K (isV t v) H) : X9 e v H K := by
  refine b8V _ _ ?_
  unfold a4Q
  refine b4o he ha ?_
  rw [h5K]; exact h
theorem EH.leaf (H : Hp) (k n : Int) (s : ByteArray) : EH H ⟨k, n, s, ⟨none, 0, 0⟩⟩ (eN k n s []) := EH.mk (e := ⟨k, n, s, ⟨none, 0, 0⟩⟩) (ts := []) (SlH.nil _ _ _) (Nat.zero_le _) rfl fun i x t hx => by simp at hx
theorem EH.node {k n : Int} {s : ByteArray} {sl : Sl} {xs : List b6} {ts : List PT} (hs : SlH H 4 b8 sl xs) (hb : xs.length ≤ big) (hr : y8 (EH H) xs ts) : EH H ⟨k, n, s, sl⟩ (eN k n s ts) := EH.mk (e := ⟨k, n, s, sl⟩) hs hb hr.1 hr.2
theorem d3j {v : Int} {K : b6 → Hp → Prop} (h : ∀ y H', Hle H H' → EH H' y (plainT v) → K y H') : a3p v H K := by
  refine b5V _ ?_
  unfold a3u
  refine ⟨fun hv s H1 l1 hS _ => h _ H1 l1 ?_, fun hv => h _ H (Hle.refl _) ?_⟩
  · unfold plainT; rw [if_pos hv]
    exact EH.node hS (by simp [big]) (y8.one (EH.leaf _ _ _ _))
  · unfold plainT; rw [if_neg hv]
    exact EH.leaf _ _ _ _
end
end Go.Proofs.YtnhkdkcgdcgmdaaGreatDoor
namespace Go.Proofs.YtnhkdkcgdcgmdaaGreatDoor
open Go.RowKit
set_option maxRecDepth 100000
set_option maxHeartbeats 2000000
section
variable {H : Hp}
theorem d9S {α : Type} {l : List α} (h : l.length = 1) : ∃ a, l = [a] := by
  match l, h with
  | [a], _ => exact ⟨a, rfl⟩
theorem c1I {α : Type} {l : List α} (h : l.length = 2) : ∃ a b, l = [a, b] := by
  match l, h with
  | [a, b], _ => exact ⟨a, b, rfl⟩
theorem f4F (r : Int × Int) : ((decide (r.2 = 0)) && (!decide (r.1 = -9223372036854775808))) = (okR r).isSome := by
  unfold okR
  by_cases h1 : r.2 = 0
  · by_cases h2 : r.1 = -9223372036854775808
    · simp [h1, h2]
    · simp [h1, h2]
  · simp [h1]
theorem f4G {r : Int × Int} {v : Int} (h : okR r = some v) : r.1 = v := by
  unfold okR at h
  split at h
  · cases h; rfl
  · cases h
theorem tell {r : Int × Int} {o : Option Int} (e : o = okR r) {K : Int → Bool → Hp → Prop} (h1 : ∀ v, o = some v → K v true H) (h0 : o = none → ∀ v, K v false H) : K r.1 ((decide (r.2 = 0)) && (!decide (r.1 = -9223372036854775808))) H := by
  rw [f4F]
  cases hq : okR r with
  | none => exact h0 (e.trans hq) _
  | some v => rw [f4G hq]; exact h1 v (e.trans hq)
def argV (o : Option Int) : Int := o.getD 0
theorem a9Q {t : PT} (h : Ar t) : o8 (argV (cst t)) := by
  unfold argV
  cases hq : cst t with
  | none => exact z64
  | some v => exact b0C h hq
theorem d6f {f : Int → Int → Option Int} {a b : Option Int} (ha : a ≠ none) (hb : b ≠ none) : two f a b = f (argV a) (argV b) := by
  cases a with
  | none => exact (ha rfl).elim
  | some x => cases b with
    | none => exact (hb rfl).elim
    | some y => rfl
theorem c3E {f : Int → Int → Option Int} {a b : Option Int} (h : a = none ∨ b = none) : two f a b = none := by
  rcases h with rfl | rfl
  · rfl
  · cases a <;> rfl
theorem e2X {k : Int} {cs : List PT} {t : PT} (h : t ∈ cs) (hc : cst t = none) : reck k cs = none := by
  unfold reck
  split
  · rw [List.mem_singleton.1 h] at hc
    split
    · exact c3E (.inl hc)
    · rfl
  · split
    · rcases List.mem_cons.1 h with e | h
      · exact c3E (.inl (e ▸ hc))
      · exact c3E (.inr (List.mem_singleton.1 h ▸ hc))
    · rfl
  · rfl
theorem e7o {k : Int} (cs : List PT) (h : k < 5) : reck k cs = none := by
  unfold reck
  split
  · rw [if_neg (by omega)]
  · rw [if_neg (by omega)]
  · rfl
theorem g7D {a : PT} (h : cst a ≠ none) : reck 5 [a] = okR (fit (-(argV (cst a)))) := by
  unfold reck
  show (if (5 : Int) = 5 then _ else _) = _
  rw [if_pos rfl, d6f h (by simp)]; rfl
theorem c0B {k : Int} {a b : PT} (hk : 6 ≤ k ∧ k ≤ 10) (h : cst a ≠ none) (h' : cst b ≠ none) : reck k [a, b] = okR (opS (k - 2) (argV (cst a)) (argV (cst b))) := by
  unfold reck
  show (if 6 ≤ k ∧ k ≤ 10 then _ else _) = _
  rw [if_pos hk, d6f h h']
theorem d5o {e : b6} {t : PT} (he : EH H e t) (ha : Ar t) {K : Int → Bool → Hp → Prop} (h1 : ∀ v, reck e.a8 t.kids = some v → K v true H) (h0 : reck e.a8 t.kids = none → ∀ v, K v false H) : a4j e H K := by
  refine b2O _ ?_
  obtain ⟨ts, rfl, hn⟩ := he.inv
  change ∀ v, reck e.a8 ts = some v → _ at h1
  change reck e.a8 ts = none → _ at h0
  have har : arE e.a8 ts.length ∧ ∀ t ∈ ts, Ar t := by cases ha with | mk q1 q2 q3 => exact ⟨q1.1, q3⟩
  obtain ⟨⟨k1, k10, kl, k5, k6⟩, hat⟩ := har
  have hlen : ts.length ≤ 2 := by omega
  unfold a1k
  refine a2q (fun (z : Int × _) H' => 0 ≤ z.1 ∧ z.1 ≤ ts.length ∧ H' = H ∧ (∀ t ∈ ts.take z.1.toNat, cst t ≠ none) ∧ z.2.f0 = argV ((ts.take z.1.toNat)[0]?.bind cst) ∧ z.2.f1 = argV ((ts.take z.1.toNat)[1]?.bind cst)) (fun z => (ts.length - z.1).toNat) ⟨Int.le_refl _, by dsimp only; omega, rfl, (fun t ht => by simp at ht), rfl, rfl⟩ ?_
  rintro ⟨i, arr⟩ H1 next ⟨i0, i1, rfl, hc, e0, e1⟩ hk
  dsimp only at i0 i1 hc e0 e1 ⊢
  unfold a0l
  refine ⟨fun q => ?_, fun q => ?_⟩
  · obtain ⟨t, ht⟩ := B2 (l := ts) (i := i.toNat) (by omega)
    obtain ⟨x, hE, hx, hl⟩ := he.kid ht
    rw [show ((i.toNat : Nat) : Int) = i by omega] at hE hl
    have hmem := List.mem_of_getElem? ht
    refine ⟨i0, hl, x, hE, b4o hx (hat t hmem) ⟨fun c => ?_, fun c => ⟨i0, by omega, ?_⟩⟩⟩
    · have : cst t = none := by
        cases hq : cst t with
        | none => rfl
        | some v => rw [a6v hq] at c; cases c
      exact h0 (e2X hmem this) 0
    · have hs : cst t ≠ none := fun hq => by rw [b1Z hq] at c; cases c
      have hv : (cstP t).1 = argV (cst t) := by unfold cstP argV; cases cst t <;> rfl
      rw [Q1 i0 (by omega)]
      refine hk _ _ ⟨by dsimp only; omega, by dsimp only; omega, rfl, fun u hu => ?_, ?_, ?_⟩ (by dsimp only; omega)
      · dsimp only at hu
        rw [show (i + 1).toNat = i.toNat + 1 by omega, O9 ht] at hu
        rcases List.mem_append.1 hu with hu | hu
        · exact hc u hu
        · rw [List.mem_singleton.1 hu]; exact hs
      · dsimp only
        rw [show (i + 1).toNat = i.toNat + 1 by omega, O9 ht]
        rcases (by omega : i = 0 ∨ i = 1) with e | e
        · subst e; rw [if_pos rfl, hv]; simp
        · subst e
          rw [if_neg (by decide), e0, List.getElem?_append_left (by rw [List.length_take]; simp; have := M1 ht; simp at this; omega)]
      · dsimp only
        rw [show (i + 1).toNat = i.toNat + 1 by omega, O9 ht]
        rcases (by omega : i = 0 ∨ i = 1) with e | e
        · subst e; rw [if_neg (by decide), e1]; simp
        · subst e
          rw [if_pos rfl, hv, List.getElem?_append_right (by rw [List.length_take]; exact Nat.min_le_left 1 _), List.length_take]
          have := M1 ht
          simp at this
          rw [show min (1 : Int).toNat ts.length = 1 by simp; omega]; simp
  · rw [List.take_of_length_le (by omega)] at hc e0 e1
    unfold a0k D3
    have hN : ∀ c : e.a8 = 5, ∃ a, ts = [a] := fun c => d9S (k5 c)
    have hT : ∀ c : 6 ≤ e.a8, ∃ a b, ts = [a, b] := fun c => c1I (k6 c)
    refine ⟨fun c => ?_, fun c5 => ⟨fun c => ?_, fun c6 => ⟨fun c => ?_, fun c7 => ⟨fun c => ?_, fun c8 => ⟨fun c => ?_, fun c9 => ⟨fun c => ?_, fun c10 => ?_⟩⟩⟩⟩⟩⟩
    · obtain ⟨a, rfl⟩ := hN c
      have hs := hc a (by simp)
      refine ⟨Int.le_refl _, by decide, ?_⟩
      show a6F arr.f0 _ _
      rw [show arr.f0 = argV (cst a) from e0]
      refine c4W (a9Q (hat a (by simp))) (tell ?_ h1 h0)
      rw [c, g7D hs]
    · obtain ⟨a, b, rfl⟩ := hT (by omega)
      refine ⟨Int.le_refl _, by decide, by decide, by decide, ?_⟩
      show a6G arr.f0 arr.f1 _ _
      rw [show arr.f0 = argV (cst a) from e0, show arr.f1 = argV (cst b) from e1]
      refine c4V (a9Q (hat a (by simp))) (a9Q (hat b (by simp))) (tell ?_ h1 h0)
      rw [c, c0B (by decide) (hc a (by simp)) (hc b (by simp))]; rfl
    · obtain ⟨a, b, rfl⟩ := hT (by omega)
      refine ⟨Int.le_refl _, by decide, by decide, by decide, ?_⟩
      show a4G arr.f0 arr.f1 _ _
      rw [show arr.f0 = argV (cst a) from e0, show arr.f1 = argV (cst b) from e1]
      refine b8f (a9Q (hat a (by simp))) (a9Q (hat b (by simp))) (tell ?_ h1 h0)
      rw [c, c0B (by decide) (hc a (by simp)) (hc b (by simp))]; rfl
    · obtain ⟨a, b, rfl⟩ := hT (by omega)
      refine ⟨Int.le_refl _, by decide, by decide, by decide, ?_⟩
      show a6H arr.f0 arr.f1 _ _
      rw [show arr.f0 = argV (cst a) from e0, show arr.f1 = argV (cst b) from e1]
      refine c4X (a9Q (hat a (by simp))) (a9Q (hat b (by simp))) (tell ?_ h1 h0)
      rw [c, c0B (by decide) (hc a (by simp)) (hc b (by simp))]; rfl
    · obtain ⟨a, b, rfl⟩ := hT (by omega)
      refine ⟨Int.le_refl _, by decide, by decide, by decide, ?_⟩
      show a6I arr.f0 arr.f1 _ _
      rw [show arr.f0 = argV (cst a) from e0, show arr.f1 = argV (cst b) from e1]
      refine c4Z (a9Q (hat a (by simp))) (tell ?_ h1 h0)
      rw [c, c0B (by decide) (hc a (by simp)) (hc b (by simp))]; rfl
    · obtain ⟨a, b, rfl⟩ := hT (by omega)
      refine ⟨Int.le_refl _, by decide, by decide, by decide, ?_⟩
      show a6J arr.f0 arr.f1 _ _
      rw [show arr.f0 = argV (cst a) from e0, show arr.f1 = argV (cst b) from e1]
      refine c5a (tell ?_ h1 h0)
      rw [c, c0B (by decide) (hc a (by simp)) (hc b (by simp))]; rfl
    · exact h0 (e7o ts (by omega)) 0
end
def FoldsE (t : PT) : Prop := ∀ (H : Hp) (e : b6) (K : b6 → Hp → Prop), EH H e t → (∀ y H', Hle H H' → EH H' y (foldT t) → K y H') → a3I e H K
section
variable {H : Hp}
theorem c0C {s : Sl} {xs : List b6} {ts : List PT} (hs : SlH H 4 b8 s xs) (hb : xs.length ≤ big) (hr : y8 (EH H) xs ts) (ih : ∀ t ∈ ts, FoldsE t) {K : Sl → Hp → Prop}
    (h : ∀ s' ys H', Hle H H' → SlH H' 4 b8 s' ys → ys.length ≤ big → y8 (EH H') ys (ts.map foldT) → K s' H') : A9 s H K := by
  refine a1z _ ?_
  unfold D5
  have n1 := hs.1
  have hb' := hb
  simp only [big] at hb'
  refine a2q (fun (z : List b6 × Int) H' => 0 ≤ z.2 ∧ z.2 ≤ xs.length ∧ Hle H H' ∧ y8 (EH H') z.1 ((ts.take z.2.toNat).map foldT)) (fun z => (xs.length - z.2).toNat) ⟨Int.le_refl _, by dsimp only; omega, Hle.refl _, y8.nil⟩ ?_
  rintro ⟨cs, i⟩ H1 next ⟨i0, i1, l1, hcs⟩ hn
  dsimp only at i0 i1 l1 hcs ⊢
  unfold B9
  have hlen := hr.1
  have hcl : cs.length ≤ xs.length := by rw [hcs.1, List.length_map, List.length_take]; omega
  refine ⟨fun q => ?_, fun q => ?_⟩
  · obtain ⟨x, hx, hE⟩ := (hs.le l1).get i0 (by omega)
    obtain ⟨t, ht, hxt⟩ := hr.get hx
    refine ⟨i0, by omega, x, hE, ih t (List.mem_of_getElem? ht) H1 x _ (hxt.le l1) fun y H2 l2 hy => ⟨by simp only [List.length_cons, List.length_nil]; omega, ?_⟩⟩
    rw [Q1 i0 (by omega)]
    refine hn _ _ ⟨by dsimp only; omega, by dsimp only; omega, l1.trans l2, ?_⟩ (by dsimp only; omega)
    dsimp only
    rw [show (i + 1).toNat = i.toNat + 1 by omega, O9 ht, List.map_append]
    exact (hcs.mono fun _ _ => EH.le l2).app (y8.one hy)
  · unfold B8
    intro s2 H2 l2 hS2 _
    rw [List.take_of_length_le (by omega)] at hcs
    exact h s2 cs H2 (l1.trans l2) hS2 (by omega) (hcs.mono fun _ _ => EH.le l2)
theorem f0s {e : b6} {k n : Int} {s : ByteArray} {a b : PT} (he : EH H e (eN k n s [a, b])) : ∃ x y, EltH H e.o9 0 4 (b8 x) ∧ EH H x a ∧ EltH H e.o9 1 4 (b8 y) ∧ EH H y b ∧ (1 : Int) < e.o9.n := by
  obtain ⟨x, h1, h2, _⟩ := he.kid (i := 0) rfl
  obtain ⟨y, h3, h4, h5⟩ := he.kid (i := 1) rfl
  exact ⟨x, y, h1, h2, h3, h4, h5⟩
theorem f4H {k n : Int} {s : ByteArray} {a b : PT} (hk : ¬ k = 6) (h7 : ¬ k = 7) (h8 : ¬ k = 8) (h9 : ¬ k = 9) : simpN k n s [a, b] = eN k n s [a, b] := by
  show (if k = 6 then _ else _) = _
  rw [if_neg hk, if_neg h7, if_neg h8, if_neg h9]
theorem f4I {k n : Int} {s : ByteArray} {cs : List PT} (h : cs.length < 2) : simpN k n s cs = eN k n s cs := by
  match cs, h with
  | [], _ => rfl
  | [a], _ => rfl
theorem c7n {t : PT} (ha : Ar t) : FoldsE t := by
  induction ha with
  | @mk k0 n0 s0 a0 cs har hn hc ih =>
    intro H e K he h
    refine b6M _ ?_
    unfold a3L
    rw [foldT, foldL, a3w] at h
    cases he with
    | @mk _ xs _ hs hb hl hr =>
      refine c0C hs hb ⟨hl, hr⟩ ih fun r ys H1 l1 hS hyb hrel => ?_
      have hlen : (cs.map foldT).length = cs.length := List.length_map ..
      have hac : ∀ t ∈ cs.map foldT, Ar t := fun t ht => by obtain ⟨u, hu, rfl⟩ := List.mem_map.1 ht; exact a6r (hc u hu)
      generalize hus : cs.map foldT = us at *
      have he' : EH H1 ⟨e.a8, e.p5, e.b7, r⟩ (eN e.a8 e.p5 e.b7 us) := EH.node hS hyb hrel
      have har' : arE e.a8 us.length := by rw [hlen]; exact har.1
      have ha' : Ar (eN e.a8 e.p5 e.b7 us) := .mk ⟨har', rfl⟩ hn hac
      unfold foldN at h
      refine b4o he' ha' ⟨fun c => ?_, fun c => ?_⟩
      · cases hq : cst (eN e.a8 e.p5 e.b7 us) with
        | none => rw [b1Z hq] at c; cases c
        | some v =>
          rw [hq] at h
          rw [a6v hq]
          exact d3j fun y H2 l2 hy => h y H2 (l1.trans l2) hy
      have hq : cst (eN e.a8 e.p5 e.b7 us) = none := by
        cases hq : cst (eN e.a8 e.p5 e.b7 us) with
        | none => rfl
        | some v => rw [a6v hq] at c; cases c
      rw [hq] at h
      dsimp only at h
      refine d5o he' ha' (fun v hv => ⟨fun _ => ?_, fun q => (by cases q)⟩) fun hv v => ⟨fun q => (by cases q), fun _ => ?_⟩
      · rw [show reck e.a8 us = some v from hv] at h
        exact d3j fun y H2 l2 hy => h y H2 (l1.trans l2) hy
      rw [show reck e.a8 us = none from hv] at h
      dsimp only at h
      have self : ∀ {K'} , K' = K → simpN e.a8 e.p5 e.b7 us = eN e.a8 e.p5 e.b7 us → K' ⟨e.a8, e.p5, e.b7, r⟩ H1 := fun hk hsn => by rw [hk]; exact h _ H1 l1 (by rw [hsn]; exact he')
      unfold Z9 U4 U3
      dsimp only
      by_cases hk6 : 6 ≤ e.a8
      · obtain ⟨a, b, rfl⟩ := c1I (har'.2.2.2.2 hk6)
        obtain ⟨x, y, hx, hxa, hy, hyb', hl2⟩ := f0s he'
        change EltH H1 r 0 4 _ at hx
        change EltH H1 r 1 4 _ at hy
        have hl2' : (1 : Int) < r.n := hl2
        have haa : Ar a := hac a (by simp)
        have hab : Ar b := hac b (by simp)
        refine ⟨fun c6 => ⟨Int.le_refl _, by omega, x, hx, b8t hxa haa ⟨fun q => ⟨by decide, hl2', y, hy, ?_⟩, fun q => ⟨by decide, hl2', y, hy, b8t hyb' hab ⟨fun q2 => ⟨Int.le_refl _, by omega, x, hx, ?_⟩, fun q2 => ?_⟩⟩⟩⟩,
          fun c6 => ⟨fun c7 => ⟨by decide, hl2', y, hy, b8t hyb' hab ⟨fun q2 => ⟨Int.le_refl _, by omega, x, hx, ?_⟩, fun q2 => ?_⟩⟩,
          fun c7 => ⟨fun c8 => ⟨Int.le_refl _, by omega, x, hx, b8t hxa haa ⟨y, fun _ => ⟨by decide, hl2', hy⟩, a8T (isV b 1) (fun _ K' hk => b8t hyb' hab hk) ?_⟩⟩,
          fun c8 => ⟨fun c9 => ⟨by decide, hl2', y, hy, b8t hyb' hab ⟨fun q2 => ⟨Int.le_refl _, by omega, x, hx, ?_⟩, fun q2 => ?_⟩⟩, fun c9 => ?_⟩⟩⟩⟩
        · refine h _ H1 l1 ?_
          show EH H1 y (if e.a8 = 6 then _ else _)
          rw [if_pos c6, if_pos q]; exact hyb'
        · refine h _ H1 l1 ?_
          show EH H1 x (if e.a8 = 6 then _ else _)
          rw [if_pos c6, if_neg (by rw [q]; decide), if_pos q2]; exact hxa
        · refine self rfl ?_
          show (if e.a8 = 6 then _ else _) = _
          rw [if_pos c6, if_neg (by rw [q]; decide), if_neg (by rw [q2]; decide)]
        · refine h _ H1 l1 ?_
          show EH H1 x (if e.a8 = 6 then _ else _)
          rw [if_neg c6, if_pos c7, if_pos q2]; exact hxa
        · refine self rfl ?_
          show (if e.a8 = 6 then _ else _) = _
          rw [if_neg c6, if_pos c7, if_neg (by rw [q2]; decide)]
        · have e8 : simpN e.a8 e.p5 e.b7 [a, b] = if (isV a 1 && !isV b 1) = true then b else if isV b 1 = true then a else eN e.a8 e.p5 e.b7 [a, b] := by
            show (if e.a8 = 6 then _ else _) = _
            rw [if_neg c6, if_neg c7, if_pos c8]
          have hb1 : (if isV a 1 = true then isV b 1 else false) = (isV a 1 && isV b 1) := by cases isV a 1 <;> rfl
          rw [hb1]
          refine ⟨fun q => ⟨by decide, hl2', y, hy, ?_⟩, fun q => ⟨by decide, hl2', y, hy, b8t hyb' hab ⟨fun q2 => ⟨Int.le_refl _, by omega, x, hx, ?_⟩, fun q2 => ?_⟩⟩⟩
          · refine h _ H1 l1 ?_
            rw [e8, if_pos (by revert q; cases isV a 1 <;> cases isV b 1 <;> simp)]; exact hyb'
          · refine h _ H1 l1 ?_
            rw [e8, if_neg (by revert q; rw [q2]; cases isV a 1 <;> simp), if_pos q2]; exact hxa
          · refine self rfl ?_
            rw [e8, if_neg (by revert q; rw [q2]; cases isV a 1 <;> simp), if_neg (by rw [q2]; decide)]
        · refine h _ H1 l1 ?_
          show EH H1 x (if e.a8 = 6 then _ else _)
          rw [if_neg c6, if_neg c7, if_neg c8, if_pos c9, if_pos q2]; exact hxa
        · refine self rfl ?_
          show (if e.a8 = 6 then _ else _) = _
          rw [if_neg c6, if_neg c7, if_neg c8, if_pos c9, if_neg (by rw [q2]; decide)]
        · exact self rfl (f4H c6 c7 c8 c9)
      · have hlo : simpN e.a8 e.p5 e.b7 us = eN e.a8 e.p5 e.b7 us := f4I (by have := har'.2.2.1; have := har'.2.2.2.1; omega)
        exact ⟨fun c => by omega, fun _ => ⟨fun c => by omega, fun _ => ⟨fun c => by omega, fun _ => ⟨fun c => by omega, fun _ => self rfl hlo⟩⟩⟩⟩
end
end Go.Proofs.YtnhkdkcgdcgmdaaGreatDoor
