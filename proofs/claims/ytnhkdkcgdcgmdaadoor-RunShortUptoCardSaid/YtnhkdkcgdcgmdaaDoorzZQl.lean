/- Which names a program has; the document's check of a program, its size, its names. The law TreeChecks. -/
import Derived.Test.YtnhkdkcgdcgmdaaDoorzZQ8
import Derived.Test.YtnhkdkcgdcgmdaaDoorProg
import Derived.KernelRfl
import Derived.Test.YtnhkdkcgdcgmdaaDoorzZV1
import Derived.Test.YtnhkdkcgdcgmdaaDoorzZK0
import Derived.Test.YtnhkdkcgdcgmdaaDoorzZQi
namespace Go.Proofs.YtnhkdkcgdcgmdaaDoor
open Go.RowKit
set_option maxRecDepth 100000
set_option maxHeartbeats 2000000
def namL (l : Lab) : List ByteArray := if (nameL l).2 = true then [(nameL l).1] else []
mutual
def nT : PT → List ByteArray
  | .mk l cs => namL l ++ nTs cs
def nTs : List PT → List ByteArray
  | [] => []
  | t :: ts => nT t ++ nTs ts
end
def putAll (l : List ByteArray) (xs : List ByteArray) : List ByteArray := xs.foldl putS l
theorem b8R (l a b : List ByteArray) : putAll l (a ++ b) = putAll (putAll l a) b := by unfold putAll; rw [List.foldl_append]
theorem d6f (v : V) (l : Lab) (d : Int) (h : (vMeet v l d).1 = true) : (vMeet v l d).2.ns = putAll v.ns (namL l) := by
  unfold vMeet at h ⊢
  unfold namL
  split at h
  · cases h
  · rename_i h1
    rw [if_neg h1]
    split at h
    · cases h
    · rename_i h2
      rw [if_neg h2]
      dsimp only
      split <;> rfl
mutual
theorem g0P : ∀ (t : PT) (d : Int) (v : V), (vT t d v).1 = true → (vT t d v).2.ns = putAll v.ns (nT t)
  | .mk l cs, d, v => by
    rw [vT, nT]
    by_cases hq : (vMeet v l d).1 = true
    · rw [if_pos hq]
      intro h
      rw [c4O cs (d + 1) _ h, d6f v l d hq, b8R]
    · rw [if_neg hq]; exact fun h => (hq h).elim
theorem c4O : ∀ (ts : List PT) (d : Int) (v : V), (vTs ts d v).1 = true → (vTs ts d v).2.ns = putAll v.ns (nTs ts)
  | [], d, v => by rw [vTs, nTs]; exact fun _ => rfl
  | t :: ts, d, v => by
    rw [vTs, nTs]
    by_cases hq : (vT t d v).1 = true
    · rw [if_pos hq]
      intro h
      rw [c4O ts d _ h, g0P t d v hq, b8R]
    · rw [if_neg hq]; exact fun h => (hq h).elim
end
structure Us where
  g7 : ByteArray
  c9A : Bool
def useL : Lab → List Us
  | .decl _ _ => []
  | .cond .. => []
  | .expr k _ s _ => if (decide (k = 2) || decide (k = 4)) = true then [⟨s, decide (k = 4)⟩] else []
  | .stmt k s _ _ _ _ => if (decide (k = 1) || decide (k = 2)) = true then [⟨s, decide (k = 2)⟩] else []
mutual
def uT : PT → List Us
  | .mk l cs => useL l ++ uTs cs
def uTs : List PT → List Us
  | [] => []
  | t :: ts => uT t ++ uTs ts
end
theorem b5y : ∀ a b : List PT, uTs (a ++ b) = uTs a ++ uTs b
  | [], b => by rw [List.nil_append, uTs, List.nil_append]
  | t :: a, b => by rw [List.cons_append, uTs, uTs, b5y a b, List.append_assoc]
theorem d2z {ts : List PT} {i : Nat} {t : PT} (h : ts[i]? = some t) : uTs (ts.take (i + 1)) = uTs (ts.take i) ++ uT t := by
  rw [V9 h, b5y, uTs, uTs, List.append_nil]
theorem f3d (ts : List PT) (i : Nat) : (uTs (ts.take i)).length ≤ (uTs ts).length := by
  have := b5y (ts.take i) (ts.drop i)
  rw [List.take_append_drop] at this
  rw [this, List.length_append]; omega
theorem g0Q {ts : List PT} {i : Nat} {t : PT} (h : ts[i]? = some t) : (uTs (ts.take i)).length + (uT t).length ≤ (uTs ts).length := by
  have := f3d ts (i + 1)
  rw [d2z h, List.length_append] at this; exact this
mutual
def cT : PT → Nat
  | .mk _ cs => 1 + cTs cs
def cTs : List PT → Nat
  | [] => 0
  | t :: ts => cT t + cTs ts
end
theorem b5z : ∀ a b : List PT, cTs (a ++ b) = cTs a + cTs b
  | [], b => by rw [List.nil_append, cTs, Nat.zero_add]
  | t :: a, b => by rw [List.cons_append, cTs, cTs, b5z a b, Nat.add_assoc]
theorem d6g (l : Lab) : (useL l).length ≤ 1 := by
  cases l <;> simp only [useL] <;> (try split) <;> simp
mutual
theorem f3e : ∀ t : PT, (uT t).length ≤ cT t
  | .mk l cs => by rw [uT, cT, List.length_append]; have := d6g l; have := c0x cs; omega
theorem c0x : ∀ ts : List PT, (uTs ts).length ≤ cTs ts
  | [] => by rw [uTs, cTs]; exact Nat.le_refl _
  | t :: ts => by rw [uTs, cTs, List.length_append]; have := f3e t; have := c0x ts; omega
end
mutual
theorem d2A : ∀ (t : PT) (d : Int) (s : W), (wT t d s).fbad = 0 → (wT t d s).fn = s.fn + cT t
  | .mk l cs, d, s, h => by
    rw [wT] at h ⊢
    rw [c0y cs _ _ h, cT]
    have hb : (wStep s d).fbad = 0 := by
      by_cases hq : (wStep s d).fbad = 0
      · exact hq
      · rw [a4q _ _ _ hq] at h; exact h
    unfold wStep at hb ⊢
    split at hb
    · rename_i h1
      rw [if_pos h1]
      split at hb
      · cases hb
      · rename_i h2
        rw [if_neg h2]
        split at hb
        · cases hb
        · rename_i h3
          rw [if_neg h3]; dsimp only; omega
    · rename_i h1; exact (h1 hb).elim
theorem c0y : ∀ (ts : List PT) (d : Int) (s : W), (wTs ts d s).fbad = 0 → (wTs ts d s).fn = s.fn + cTs ts
  | [], d, s, h => by rw [wTs, cTs]; simp
  | t :: ts, d, s, h => by
    rw [wTs] at h ⊢
    rw [c0y ts _ _ h, cTs]
    have hb : (wT t d s).fbad = 0 := by
      by_cases hq : (wT t d s).fbad = 0
      · exact hq
      · rw [a4q _ _ _ hq] at h; exact h
    rw [d2A t d s hb]; omega
end
theorem e2N {ts : List PT} (h : (wTs ts 1 w0S).fbad = 0) : cTs ts ≤ 4096 := by
  have h1 := c0y ts 1 w0S h
  have h2 := (c4r ts 1 w0S g0M).2
  have h3 : w0S.fn = 0 := rfl
  omega
inductive Nd : PT → Prop
  | mk {l : Lab} {cs : List PT} : (∀ z s, l ≠ .decl z s) → (∀ t ∈ cs, Nd t) → Nd (.mk l cs)
theorem a9q {α : Type} {R : α → PT → Prop} {xs : List α} {ts : List PT} (hl : xs.length = ts.length) (h : ∀ (i : Nat) (x : α) (t : PT), xs[i]? = some x → ts[i]? = some t → Nd t) : ∀ t ∈ ts, Nd t := fun t ht => by
  obtain ⟨i, hi⟩ := List.mem_iff_getElem?.1 ht
  obtain ⟨x, hx⟩ := u4 (l := xs) (i := i) (by rw [hl]; exact D2 hi)
  exact h i x t hx hi
theorem b8S {a b : List PT} (ha : ∀ t ∈ a, Nd t) (hb : ∀ t ∈ b, Nd t) : ∀ t ∈ a ++ b, Nd t := fun t h => (List.mem_append.1 h).elim (ha t) (hb t)
theorem EH.nd {H : Hp} {e : i4} {t : PT} (h : EH H e t) : Nd t := by
  induction h with
  | mk hs hb hl _ ih => exact .mk (fun z s e => by cases e) (a9q (R := EH H) hl ih)
theorem CH.nd {H : Hp} {e : o8} {t : PT} (h : CH H e t) : Nd t := by
  induction h with
  | mk hs hb hr hc hcb hl _ ih => exact .mk (fun z s e => by cases e) (b8S (a9q (R := EH H) hr.1 fun i x t a b => (hr.2 i x t a b).nd) (a9q (R := CH H) hl ih))
theorem SH.nd {H : Hp} {e : p6} {t : PT} (h : SH H e t) : Nd t := by
  induction h with
  | mk hs hb hr hc hcb hcr ha hab hal _ hbs hbb hbl _ ih1 ih2 =>
    exact .mk (fun z s e => by cases e) (b8S (a9q (R := CH H) hcr.1 fun i x t a b => (hcr.2 i x t a b).nd) (b8S (a9q (R := EH H) hr.1 fun i x t a b => (hr.2 i x t a b).nd) (b8S (a9q (R := SH H) hal ih1) (a9q (R := SH H) hbl ih2))))
section
variable {H : Hp}
theorem d6h {q : PP} (h : toldS q.nodes = 0) : (wTs q.nodes 1 w0S).fbad = 0 ∧ (allV q).1 = true ∧ (allV q).2.n = (wTs q.nodes 1 w0S).fn ∧ (allV q).2.d = (wTs q.nodes 1 w0S).fdepth ∧ (allV q).2.ns = putAll [] (nTs q.nodes) := by
  have hb : (wTs q.nodes 1 w0S).fbad = 0 := by
    unfold toldS at h
    by_cases hq : (wTs q.nodes 1 w0S).fbad = 0
    · exact hq
    · rw [if_neg hq] at h; exact h
  have hs := d9k q.nodes
  have hr : (allV q).1 = true := by
    cases hq : (allV q).1
    · obtain ⟨h1, h2⟩ := hs.2 hq
      omega
    · rfl
  obtain ⟨h1, _⟩ := hs.1 hr
  exact ⟨hb, hr, by rw [h1]; rfl, by rw [h1]; rfl, c4O q.nodes 1 v0 hr⟩
end
end Go.Proofs.YtnhkdkcgdcgmdaaDoor
namespace Go.Proofs.YtnhkdkcgdcgmdaaDoor
open Go.RowKit
set_option maxRecDepth 100000
set_option maxHeartbeats 2000000
mutual
def dpT (B : Int) : PT → Int → Prop
  | .mk _ cs, d => d ≤ B ∧ dpTs B cs (d + 1)
def dpTs (B : Int) : List PT → Int → Prop
  | [], _ => True
  | t :: ts, d => dpT B t d ∧ dpTs B ts d
end
variable {B : Int}
theorem c4P : ∀ (a b : List PT) (d : Int), dpTs B (a ++ b) d ↔ dpTs B a d ∧ dpTs B b d
  | [], b, d => by rw [List.nil_append, dpTs]; exact ⟨fun h => ⟨trivial, h⟩, fun h => h.2⟩
  | t :: a, b, d => by rw [List.cons_append, dpTs, dpTs, c4P a b, and_assoc]
theorem c9B {s : W} {d : Int} (hb : s.fbad = 0) (h2 : ¬ s.fn = 4096) (h3 : ¬ 64 < d) : wStep s d = ⟨s.fn + 1, if d > s.fdepth then d else s.fdepth, 0⟩ := by
  unfold wStep; rw [if_pos hb, if_neg h2, if_neg h3]
mutual
theorem d2B : ∀ (t : PT) (d : Int) (s : W), 0 ≤ s.fn → s.fn ≤ 4096 → s.fbad = 0 → ((wT t d s).fbad = 0 ↔ (s.fn + cT t ≤ 4096 ∧ dpT 64 t d))
  | .mk l cs, d, s, h0, h1, hb => by
    rw [wT, cT, dpT]
    by_cases h2 : s.fn = 4096
    · have : (wStep s d).fbad ≠ 0 := by unfold wStep; rw [if_pos hb, if_pos h2]; exact (by decide : (33 : Int) ≠ 0)
      rw [a4q _ _ _ this]
      exact ⟨fun e => (this e).elim, fun e => by omega⟩
    · by_cases h3 : 64 < d
      · have : (wStep s d).fbad ≠ 0 := by unfold wStep; rw [if_pos hb, if_neg h2, if_pos h3]; exact (by decide : (32 : Int) ≠ 0)
        rw [a4q _ _ _ this]
        exact ⟨fun e => (this e).elim, fun e => by omega⟩
      · rw [c9B hb h2 h3, c0z cs (d + 1) _ (by dsimp only; omega) (by dsimp only; omega) rfl]
        dsimp only
        constructor
        · rintro ⟨a, b⟩; exact ⟨by omega, by omega, b⟩
        · rintro ⟨a, b, c⟩; exact ⟨by omega, c⟩
theorem c0z : ∀ (ts : List PT) (d : Int) (s : W), 0 ≤ s.fn → s.fn ≤ 4096 → s.fbad = 0 → ((wTs ts d s).fbad = 0 ↔ (s.fn + cTs ts ≤ 4096 ∧ dpTs 64 ts d))
  | [], d, s, h0, h1, hb => by rw [wTs, cTs, dpTs]; exact ⟨fun _ => ⟨by omega, trivial⟩, fun _ => hb⟩
  | t :: ts, d, s, h0, h1, hb => by
    rw [wTs, cTs, dpTs]
    by_cases h2 : (wT t d s).fbad = 0
    · have hi := (d2B t d s h0 h1 hb).1 h2
      have hc := d2A t d s h2
      rw [c0z ts d _ (by omega) (by omega) h2, hc]
      constructor
      · rintro ⟨a, b⟩; exact ⟨by omega, hi.2, b⟩
      · rintro ⟨a, b, c⟩; exact ⟨by omega, c⟩
    · rw [a4q _ _ _ h2]
      have := mt (d2B t d s h0 h1 hb).2 h2
      exact ⟨fun e => (h2 e).elim, fun e => (this ⟨by omega, e.2.1⟩).elim⟩
end
theorem c4Q (ts : List PT) : toldS ts = 0 ↔ (cTs ts ≤ 4096 ∧ dpTs 64 ts 1 ∧ formTs ts = true ∧ namesTs ts = true) := by
  have h := c0z ts 1 w0S (Int.le_refl _) (by decide) rfl
  have e0 : w0S.fn = 0 := rfl
  rw [e0] at h
  unfold toldS
  constructor
  · intro e
    split at e
    · rename_i hb
      have := h.1 hb
      split at e
      · rename_i hf
        split at e
        · rename_i hn; exact ⟨by omega, this.2, hf, hn⟩
        · cases e
      · cases e
    · rename_i hb; exact (hb e).elim
  · rintro ⟨a, b, c, d⟩
    rw [if_pos (h.2 ⟨by omega, b⟩), if_pos c, if_pos d]
end Go.Proofs.YtnhkdkcgdcgmdaaDoor
namespace Go.Proofs.YtnhkdkcgdcgmdaaDoor
open Go.RowKit
set_option maxRecDepth 100000
set_option maxHeartbeats 2000000
inductive Tr : PT → Prop
  | mk {l : Lab} {cs : List PT} : (∀ t ∈ cs, Tr t) → Tr (.mk l cs)
section
variable {H : Hp}
end
end Go.Proofs.YtnhkdkcgdcgmdaaDoor
namespace Go.Proofs.YtnhkdkcgdcgmdaaDoor
open Go.RowKit
set_option maxRecDepth 100000
set_option maxHeartbeats 2000000
def sN (k : Int) (s : ByteArray) (ts us vs ws : List PT) : PT := .mk (.stmt k s ts.length us.length vs.length ws.length) (us ++ (ts ++ (vs ++ ws)))
inductive ArS : PT → Prop
  | mk {k : Int} {s : ByteArray} {ts us vs ws : List PT} : (∀ t ∈ ts, Ar t) → (∀ t ∈ us, ArC t) → (∀ t ∈ vs, ArS t) → (∀ t ∈ ws, ArS t) → ArS (sN k s ts us vs ws)
section
variable {B : Int}
end
section
variable {H : Hp}
theorem f3f {e : p6} {t : PT} (he : SH H e t) (hf : formT t = true) (hs : Sm t) : ArS t := by
  induction he with
  | @mk e xs ts ys us zs bs vs ws hsl hb hr hc hcb hcr ha hab hal har hbs hbb hbl hbr iha ihb =>
    rw [formT, Bool.and_eq_true] at hf
    have m : ∀ t ∈ us ++ (ts ++ (vs ++ ws)), formT t = true ∧ Sm t := fun t ht => ⟨D6 hf.2 ht, hs.num.2 t ht⟩
    refine .mk (fun t ht => ?_) (fun t ht => ?_) (fun t ht => ?_) fun t ht => ?_
    · obtain ⟨i, hi⟩ := List.getElem?_of_mem ht
      obtain ⟨x, hx⟩ := u4 (l := xs) (i := i) (by have := D2 hi; have := hr.1; omega)
      have := m t (by simp [ht])
      exact d9q (hr.2 i x t hx hi) this.1 this.2
    · obtain ⟨i, hi⟩ := List.getElem?_of_mem ht
      obtain ⟨x, hx⟩ := u4 (l := ys) (i := i) (by have := D2 hi; have := hcr.1; omega)
      have := m t (by simp [ht])
      exact f3c (hcr.2 i x t hx hi) this.1 this.2
    · obtain ⟨i, hi⟩ := List.getElem?_of_mem ht
      obtain ⟨x, hx⟩ := u4 (l := zs) (i := i) (by have := D2 hi; omega)
      have := m t (by simp [ht])
      exact iha i x t hx hi this.1 this.2
    · obtain ⟨i, hi⟩ := List.getElem?_of_mem ht
      obtain ⟨x, hx⟩ := u4 (l := bs) (i := i) (by have := D2 hi; omega)
      have := m t (by simp [ht])
      exact ihb i x t hx hi this.1 this.2
end
end Go.Proofs.YtnhkdkcgdcgmdaaDoor
