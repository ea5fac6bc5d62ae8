/- More operations: shifts by any number, slices held against nil, numbers of an array in a box, a string's bytes appended, an empty slice with room. No program in sight. -/
import Derived.Lib.SliceRun
import Derived.Lib.AppendStr
import Derived.Lib.AppendZeros
import Derived.Laws.Append
import Derived.Test.YthklmeihgmcljaaDoorzAS3
namespace Go.Proofs.YthklmeihgmcljaaDoor
open Go.RowKit
section
variable {P : Program}
section
variable {E : Pan} {w0 w : World} {ps : Nat → Prop} {H0 H : Hp} {Fs : List Frag} {F : Frag} {K : Value → World → Prop}
def setObjAt (w : World) (r : Nat) (o : Obj) : World := { w with heap := w.heap.setIfInBounds r o }
theorem R1 {W : World} {r : Nat} {o : Obj} (hl : r < W.heap.size) : (setObjAt W r o).heap[r]? = some o := by
  simp [setObjAt, hl]
theorem p7 {W : World} {r k : Nat} {o : Obj} (h : k ≠ r) : (setObjAt W r o).heap[k]? = W.heap[k]? := by
  simp only [setObjAt]
  rw [Array.getElem?_setIfInBounds_ne (Ne.symm h)]
theorem Inv.setObj {g : Nat} {o o' : Obj} {F : Frag} (I : Inv w0 ps H0 H (((g, o) :: F) :: Fs) w) : Inv w0 ps H0 H (((g, o') :: F) :: Fs) (setObjAt w g o') := by
  have far : ∀ i, i ≠ g → (setObjAt w g o').heap[i]? = w.heap[i]? := fun i hi => p7 hi
  have hs : (setObjAt w g o').heap.size = w.heap.size := by simp [setObjAt]
  have hg : ∀ p ∈ F ++ Fs.flatten, p.1 ≠ g := by
    have := I.nodup
    rw [show ((((g, o) :: F) :: Fs).flatten.map (·.1)) = g :: ((F ++ Fs.flatten).map (·.1)) from rfl, List.nodup_cons] at this
    exact fun p hp e => this.1 (List.mem_map.2 ⟨p, hp, e⟩)
  have hgp : ps g ∨ w0.heap.size ≤ g := I.fresh (g, o) (List.mem_cons_self ..)
  refine ⟨fun i o1 h => (far i fun e => ?_).trans (I.sub i o1 h), ?_, ?_, ?_, ?_, fun i hi hp => (far i fun e => ?_).trans (I.frame i hi hp), by have := I.mono; omega, I.os, I.tape, I.output, I.le, I.back⟩
  · subst e
    exact I.Hnot h ⟨(i, o), List.mem_cons_self .., rfl⟩
  · intro p hp
    rcases List.mem_cons.1 hp with rfl | hp
    · exact R1 I.lt1
    · exact (far _ (hg p hp)).trans (I.own p (List.mem_cons_of_mem _ hp))
  · intro p hp
    rcases List.mem_cons.1 hp with rfl | hp
    · exact I.priv (g, o) (List.mem_cons_self ..)
    · exact I.priv p (List.mem_cons_of_mem _ hp)
  · exact I.nodup
  · intro p hp
    rcases List.mem_cons.1 hp with rfl | hp
    · exact hgp
    · exact I.fresh p (List.mem_cons_of_mem _ hp)
  · subst e
    rcases hgp with h | h
    · exact hp h
    · omega
def itf (g : Nat) (s : ByteArray) (p : Nat) : Frag := [(g, .stringIter s p)]
theorem a0p {t : TypeId} (hu : P.underlying t = some .string) (s : ByteArray) (I : Inv w0 ps H0 H Fs w)
    (h : ∀ (g : Nat) (w' : World), Inv w0 ps H0 H (itf g s 0 :: Fs) w' → (∀ k, k < w.heap.size → w'.heap[k]? = w.heap[k]?) → K (.pointer (some ⟨g, 0, none⟩)) w') : opK P E (xV (Instr.range t (.string s))) w K := by
  refine L6 (w' := w.alloc (.stringIter s 0)) (v := .pointer (some ⟨w.heap.size, 0, none⟩)) ?_ (h _ _ (I.alloc _) fun k hk => Below.heap_alloc w _ k hk)
  simp only [Instr.range, Sem.run_bind, run_underlying hu, Result.andThen_ok, newObj, Sem.run, Sem.run_pure]
  rfl
theorem a0Y {g : Nat} {s : ByteArray} {p ty : Nat} (I : Inv w0 ps H0 H (itf g s p :: Fs) w)
    (h1 : p < s.size → ∀ w', Inv w0 ps H0 H (itf g s (p + (Utf8.decode s p).2) :: Fs) w' → (∀ k, k ≠ g → w'.heap[k]? = w.heap[k]?) → K (.tuple #[.bool true, .int .i64 (p : Int), .int .i32 ((Utf8.decode s p).1 : Int)]) w')
    (h2 : ¬ p < s.size → K (.tuple #[.bool false]) w) : opK P E (xV (Instr.next (.pointer (some ⟨g, 0, none⟩)) true ty)) w K := by
  have hi : w.heap[g]? = some (.stringIter s p) := I.hp1
  by_cases hp : p < s.size
  · refine L6 (w' := setObjAt w g (.stringIter s (p + (Utf8.decode s p).2))) ?_ (h1 hp _ I.setObj fun k hk => p7 hk)
    simp [Instr.next, getObj, Go.setObj, Sem.run, hi, hp, setObjAt, goInt]
  · refine L6 ?_ (h2 hp)
    simp [Instr.next, getObj, Sem.run, hi, hp]
end
end
end Go.Proofs.YthklmeihgmcljaaDoor
