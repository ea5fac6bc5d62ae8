/- Folding of statements: the plain law; how many nodes, how deep. Plain. -/
import Derived.Test.YtnhkdkcgdcgmdaaGreatDoorzFQi
import Derived.Test.YtnhkdkcgdcgmdaaGreatDoorzFQk
namespace Go.Proofs.YtnhkdkcgdcgmdaaGreatDoor
open Go.RowKit
set_option maxRecDepth 100000
set_option maxHeartbeats 2000000
def sN (k : Int) (s : ByteArray) (ts us vs ws : List PT) : PT := .mk (.stmt k s ts.length us.length vs.length ws.length) (us ++ (ts ++ (vs ++ ws)))
def asked (kind : Int) : List PT → Bool
  | a :: _ => decide (kindC a = kind)
  | [] => false
def foldStm (k : Int) (s : ByteArray) (ts us vs ws : List PT) : List PT :=
  if k = 7 ∨ (k = 6 ∧ asked 1 us = true) ∨ (k = 4 ∧ asked 2 us = true) then []
  else if k = 3 ∧ asked 1 us = true then vs
  else if k = 3 ∧ asked 2 us = true then ws
  else [sN k s ts us vs ws]
def foldX (cs : List PT) (L : List (List PT)) : Lab → List PT
  | .stmt k s e c t _ => foldStm k s (((cs.drop c).take e).map foldT) ((cs.take c).map foldT) (((L.drop c).drop e).take t).flatten (((L.drop c).drop e).drop t).flatten
  | l => [.mk l cs]
mutual
def foldA : PT → List PT
  | .mk l cs => foldX cs (foldAs cs) l
def foldAs : List PT → List (List PT)
  | [] => []
  | t :: ts => foldA t :: foldAs ts
end
theorem d6b : ∀ ts : List PT, foldAs ts = ts.map foldA
  | [] => by rw [foldAs]; rfl
  | t :: ts => by rw [foldAs, d6b ts]; rfl
def foldSs (ts : List PT) : List PT := (ts.map foldA).flatten
theorem d6c (a b : List PT) : foldSs (a ++ b) = foldSs a ++ foldSs b := by unfold foldSs; rw [List.map_append, List.flatten_append]
theorem d6d (t : PT) : foldSs [t] = foldA t := by unfold foldSs; simp
theorem c7K (k : Int) (s : ByteArray) (ts us vs ws : List PT) : foldA (sN k s ts us vs ws) = foldStm k s (ts.map foldT) (us.map foldT) (foldSs vs) (foldSs ws) := by
  unfold sN
  rw [foldA, foldX, d6b]
  simp only [List.map_append]
  have h1 : (us.map foldA).length = us.length := List.length_map ..
  have h2 : (ts.map foldA).length = ts.length := List.length_map ..
  have h3 : (vs.map foldA).length = vs.length := List.length_map ..
  rw [List.take_left, List.drop_left, List.take_left]
  have e1 : (us.map foldA ++ (ts.map foldA ++ (vs.map foldA ++ ws.map foldA))).drop us.length = ts.map foldA ++ (vs.map foldA ++ ws.map foldA) := by rw [← h1, List.drop_left]
  have e2 : (ts.map foldA ++ (vs.map foldA ++ ws.map foldA)).drop ts.length = vs.map foldA ++ ws.map foldA := by rw [← h2, List.drop_left]
  have e3 : (vs.map foldA ++ ws.map foldA).take vs.length = vs.map foldA := by rw [← h3, List.take_left]
  have e4 : (vs.map foldA ++ ws.map foldA).drop vs.length = ws.map foldA := by rw [← h3, List.drop_left]
  rw [e1, e2, e3, e4]; rfl
inductive ArS : PT → Prop
  | mk {k : Int} {s : ByteArray} {ts us vs ws : List PT} : (∀ t ∈ ts, Ar t) → (∀ t ∈ us, ArC t) → (∀ t ∈ vs, ArS t) → (∀ t ∈ ws, ArS t) → ArS (sN k s ts us vs ws)
theorem j3S (t : PT) : 1 ≤ cT t := by cases t; rw [cT]; omega
theorem d1o : ∀ ts : List PT, ts.length ≤ cTs ts
  | [] => Nat.zero_le _
  | t :: ts => by rw [cTs, List.length_cons]; have := j3S t; have := d1o ts; omega
theorem e7G {f : PT → PT} : ∀ {ts : List PT} (_ : ∀ t ∈ ts, cT (f t) ≤ cT t), cTs (ts.map f) ≤ cTs ts
  | [], _ => Nat.le_refl _
  | t :: ts, h => by
    rw [List.map_cons, cTs, cTs]
    have := h t List.mem_cons_self
    have := e7G (ts := ts) fun u hu => h u (List.mem_cons_of_mem _ hu)
    omega
theorem e5S {f : PT → List PT} : ∀ {ts : List PT} (_ : ∀ t ∈ ts, cTs (f t) ≤ cT t), cTs (ts.map f).flatten ≤ cTs ts
  | [], _ => Nat.le_refl _
  | t :: ts, h => by
    rw [List.map_cons, List.flatten_cons, a1T, cTs]
    have := h t List.mem_cons_self
    have := e5S (ts := ts) fun u hu => h u (List.mem_cons_of_mem _ hu)
    omega
theorem b2Y : ∀ (ts : List PT) (d : Int), dpTs ts d ↔ ∀ t ∈ ts, dpT t d
  | [], d => by rw [dpTs]; exact ⟨(fun _ t h => by cases h), fun _ => trivial⟩
  | t :: ts, d => by
    rw [dpTs, b2Y ts d]
    constructor
    · rintro ⟨a, b⟩ u hu
      rcases List.mem_cons.1 hu with e | hu
      · rw [e]; exact a
      · exact b u hu
    · exact fun h => ⟨h t List.mem_cons_self, fun u hu => h u (List.mem_cons_of_mem _ hu)⟩
mutual
theorem f8o : ∀ (t : PT) (d : Int), dpT t (d + 1) → dpT t d
  | .mk l cs, d, h => by
    rw [dpT] at h ⊢
    exact ⟨by omega, d1p cs _ h.2⟩
theorem d1p : ∀ (ts : List PT) (d : Int), dpTs ts (d + 1) → dpTs ts d
  | [], _, _ => trivial
  | t :: ts, d, h => by
    rw [dpTs] at h ⊢
    exact ⟨f8o t d h.1, d1p ts d h.2⟩
end
theorem j3T {t : PT} {d : Int} (h : dpT t d) : d ≤ 64 := by cases t; rw [dpT] at h; exact h.1
def b0A (t : PT) (cs : List PT) : Prop := cT t ≤ 1 + cTs cs ∧ ∀ d, d ≤ 64 → dpTs cs (d + 1) → dpT t d
theorem e7H (l : Lab) (cs : List PT) : b0A (.mk l cs) cs := ⟨by rw [cT]; omega, fun d h1 h2 => by rw [dpT]; exact ⟨h1, h2⟩⟩
theorem c7L {t : PT} {cs : List PT} (h : t ∈ cs) : b0A t cs := by
  refine ⟨?_, fun d _ h2 => f8o _ _ ((b2Y _ _).1 h2 t h)⟩
  induction cs with
  | nil => cases h
  | cons u cs ih =>
    rw [cTs]
    rcases List.mem_cons.1 h with e | h
    · rw [e]; omega
    · have := ih h; omega
theorem g4y (v : Int) : cT (plainT v) ≤ 2 := by unfold plainT eN; split <;> simp [cT, cTs]
theorem f8p {v : Int} (h : 0 ≤ v) : cT (plainT v) = 1 := by unfold plainT eN; rw [if_neg (by omega)]; simp [cT, cTs]
theorem d6e {v : Int} {cs : List PT} (h : 0 ≤ v ∨ cs ≠ []) : b0A (plainT v) cs := by
  refine ⟨?_, fun d h1 h2 => ?_⟩
  · rcases h with h | h
    · rw [f8p h]; omega
    · have := g4y v
      have : cs.length ≤ cTs cs := d1o cs
      have : 0 < cs.length := List.length_pos_iff.2 h
      omega
  · by_cases hv : 0 ≤ v
    · unfold plainT eN; rw [if_neg (by omega), dpT, dpTs]; exact ⟨h1, trivial⟩
    · unfold plainT eN; rw [if_pos (by omega), dpT, dpTs, dpT, dpTs, dpTs]
      refine ⟨h1, ⟨?_, trivial⟩, trivial⟩
      rcases h with h | h
      · exact (hv h).elim
      · cases cs with
        | nil => exact (h rfl).elim
        | cons u cs => exact j3T ((b2Y _ _).1 h2 u List.mem_cons_self)
theorem f8q (k n : Int) (s : ByteArray) (cs : List PT) : b0A (simpN k n s cs) cs := by
  have self : b0A (eN k n s cs) cs := e7H _ _
  unfold simpN
  split
  · rename_i a b
    have ha : b0A a [a, b] := c7L (by simp)
    have hb : b0A b [a, b] := c7L (by simp)
    repeat' split
    all_goals assumption
  · exact self
theorem h5q {k : Int} {cs : List PT} {v : Int} (h : reck k cs = some v) : cs ≠ [] := by
  rintro rfl
  cases h
theorem f5d {k n : Int} (s : ByteArray) (cs : List PT) (h : k = 1 → 0 ≤ n) : b0A (foldN k n s cs) cs := by
  unfold foldN
  split
  · rename_i v hv
    refine d6e ?_
    unfold eN at hv
    rw [cst] at hv
    split at hv
    · rename_i h1; cases hv; exact .inl (h h1)
    · split at hv
      · refine .inr ?_
        rintro rfl
        cases hv
      · cases hv
  · split
    · rename_i v hv; exact d6e (.inr (h5q hv))
    · exact f8q k n s cs
theorem e5T (b : Bool) (cs : List PT) : b0A (truT b) cs := by
  unfold truT
  exact ⟨by rw [cT, cTs]; omega, fun d h1 _ => by rw [dpT, dpTs]; exact ⟨h1, trivial⟩⟩
theorem d8n {l d : Int} {self : PT} {xs ps : List PT} (h : b0A self (xs ++ ps)) : b0A (joinT l d self ps) (xs ++ ps) := by
  unfold joinT
  split
  · rename_i a b
    have ha : b0A a (xs ++ [a, b]) := c7L (by simp)
    have hb : b0A b (xs ++ [a, b]) := c7L (by simp)
    repeat' split
    all_goals assumption
  · exact h
theorem f5e (k op : Int) (xs ps : List PT) : b0A (foldC k op xs ps) (xs ++ ps) := by
  have self : b0A (cN k op xs ps) (xs ++ ps) := e7H _ _
  unfold foldC
  repeat' split
  · unfold cmpT
    repeat' split
    all_goals first | exact e5T _ _ | exact self
  · unfold notT
    repeat' split
    all_goals first | exact e5T _ _ | exact self
  · exact d8n self
  · exact d8n self
  · exact self
def Slim (t u : PT) : Prop := cT u ≤ cT t ∧ ∀ d, dpT t d → dpT u d
theorem e7I {l : Lab} {cs cs' : List PT} {u : PT} (h : b0A u cs') (hc : cTs cs' ≤ cTs cs) (hd : ∀ d, dpTs cs d → dpTs cs' d) : Slim (.mk l cs) u := by
  refine ⟨by rw [cT]; have := h.1; omega, fun d hd' => ?_⟩
  rw [dpT] at hd'
  exact h.2 d hd'.1 (hd _ hd'.2)
theorem slims {f : PT → PT} {ts : List PT} (h : ∀ t ∈ ts, Slim t (f t)) : cTs (ts.map f) ≤ cTs ts ∧ ∀ d, dpTs ts d → dpTs (ts.map f) d := by
  refine ⟨e7G fun t ht => (h t ht).1, fun d hd => (b2Y _ _).2 fun u hu => ?_⟩
  obtain ⟨t, ht, rfl⟩ := List.mem_map.1 hu
  exact (h t ht).2 d ((b2Y _ _).1 hd t ht)
theorem slimE {t : PT} (ha : Ar t) : formT t = true → Slim t (foldT t) := by
  induction ha with
  | @mk k n s a cs h1 h2 h3 ih =>
    intro hf
    rw [formT, Bool.and_eq_true] at hf
    have hk := slims fun t ht => ih t ht (W9 hf.2 ht)
    rw [foldT, foldL, b3v]
    refine e7I (f5d s _ fun e => ?_) hk.1 hk.2
    have hF := hf.1
    change formE k n s a = true at hF
    unfold formE at hF
    split at hF
    · cases hF
    · first
      | (rw [if_pos e, Bool.and_eq_true] at hF; exact of_decide_eq_true hF.1)
      | (rw [Bool.and_eq_true] at hF; exact of_decide_eq_true hF.1)
theorem slimC {t : PT} (ha : ArC t) : formT t = true → Slim t (foldT t) := by
  induction ha with
  | @mk k op xs ps h1 h2 h3 ih =>
    intro hf
    rw [formT, Bool.and_eq_true] at hf
    rw [c7H]
    have e1 := slims (f := foldT) fun t ht => slimE (h2 t ht) (W9 hf.2 (List.mem_append_left _ ht))
    have e2 := slims (f := foldT) fun t ht => ih t ht (W9 hf.2 (List.mem_append_right _ ht))
    refine e7I (f5e k op _ _) (by rw [a1T, a1T]; omega) fun d hd => ?_
    rw [b1Q] at hd ⊢
    exact ⟨e1.2 d hd.1, e2.2 d hd.2⟩
def SlimS (t : PT) (us : List PT) : Prop := cTs us ≤ cT t ∧ ∀ d, dpT t d → dpTs us d
theorem slimSs {ts : List PT} (h : ∀ t ∈ ts, SlimS t (foldA t)) : cTs (foldSs ts) ≤ cTs ts ∧ ∀ d, dpTs ts d → dpTs (foldSs ts) d := by
  refine ⟨e5S fun t ht => (h t ht).1, fun d hd => (b2Y _ _).2 fun u hu => ?_⟩
  unfold foldSs at hu
  obtain ⟨l, hl, hul⟩ := List.mem_flatten.1 hu
  obtain ⟨t, ht, rfl⟩ := List.mem_map.1 hl
  exact (b2Y _ _).1 ((h t ht).2 d ((b2Y _ _).1 hd t ht)) u hul
theorem slimS {t : PT} (ha : ArS t) : formT t = true → SlimS t (foldA t) := by
  induction ha with
  | @mk k s ts us vs ws h1 h2 h3 h4 ih1 ih2 =>
    intro hf
    unfold sN at hf
    rw [formT, Bool.and_eq_true] at hf
    have m1 : ∀ t ∈ us, formT t = true := fun t ht => W9 hf.2 (by simp [ht])
    have m2 : ∀ t ∈ ts, formT t = true := fun t ht => W9 hf.2 (by simp [ht])
    have m3 : ∀ t ∈ vs, formT t = true := fun t ht => W9 hf.2 (by simp [ht])
    have m4 : ∀ t ∈ ws, formT t = true := fun t ht => W9 hf.2 (by simp [ht])
    have e1 := slims (f := foldT) fun t ht => slimC (h2 t ht) (m1 t ht)
    have e2 := slims (f := foldT) fun t ht => slimE (h1 t ht) (m2 t ht)
    have e3 := slimSs fun t ht => ih1 t ht (m3 t ht)
    have e4 := slimSs fun t ht => ih2 t ht (m4 t ht)
    rw [c7K]
    unfold foldStm
    have hc : cT (sN k s ts us vs ws) = 1 + (cTs us + (cTs ts + (cTs vs + cTs ws))) := by
      unfold sN; rw [cT, a1T, a1T, a1T]
    have hd : ∀ d, dpT (sN k s ts us vs ws) d ↔ d ≤ 64 ∧ dpTs us (d + 1) ∧ dpTs ts (d + 1) ∧ dpTs vs (d + 1) ∧ dpTs ws (d + 1) := fun d => by
      unfold sN; rw [dpT, b1Q, b1Q, b1Q]
    unfold SlimS
    rw [hc]
    split
    · exact ⟨Nat.zero_le _, fun d _ => trivial⟩
    · split
      · exact ⟨by omega, fun d h => d1p _ _ (e3.2 _ ((hd d).1 h).2.2.2.1)⟩
      · split
        · exact ⟨by omega, fun d h => d1p _ _ (e4.2 _ ((hd d).1 h).2.2.2.2)⟩
        · refine ⟨?_, fun d h => ?_⟩
          · rw [cTs, cTs]; unfold sN; rw [cT, a1T, a1T, a1T]; omega
          · obtain ⟨q0, q1, q2, q3, q4⟩ := (hd d).1 h
            rw [dpTs, dpTs]; unfold sN; rw [dpT, b1Q, b1Q, b1Q]
            exact ⟨⟨q0, e1.2 _ q1, e2.2 _ q2, e3.2 _ q3, e4.2 _ q4⟩, trivial⟩
section
variable {H : Hp}
theorem j3U {e : d8} {t : PT} (he : SH H e t) (hf : formT t = true) (hs : Sm t) : ArS t := by
  induction he with
  | @mk e xs ts ys us zs bs vs ws hsl hb hr hc hcb hcr ha hab hal har hbs hbb hbl hbr iha ihb =>
    rw [formT, Bool.and_eq_true] at hf
    have m : ∀ t ∈ us ++ (ts ++ (vs ++ ws)), formT t = true ∧ Sm t := fun t ht => ⟨W9 hf.2 ht, hs.num.2 t ht⟩
    refine .mk (fun t ht => ?_) (fun t ht => ?_) (fun t ht => ?_) fun t ht => ?_
    · obtain ⟨i, hi⟩ := List.getElem?_of_mem ht
      obtain ⟨x, hx⟩ := C5 (l := xs) (i := i) (by have := C0 hi; have := hr.1; omega)
      have := m t (by simp [ht])
      exact f4Z (hr.2 i x t hx hi) this.1 this.2
    · obtain ⟨i, hi⟩ := List.getElem?_of_mem ht
      obtain ⟨x, hx⟩ := C5 (l := ys) (i := i) (by have := C0 hi; have := hcr.1; omega)
      have := m t (by simp [ht])
      exact f8h (hcr.2 i x t hx hi) this.1 this.2
    · obtain ⟨i, hi⟩ := List.getElem?_of_mem ht
      obtain ⟨x, hx⟩ := C5 (l := zs) (i := i) (by have := C0 hi; omega)
      have := m t (by simp [ht])
      exact iha i x t hx hi this.1 this.2
    · obtain ⟨i, hi⟩ := List.getElem?_of_mem ht
      obtain ⟨x, hx⟩ := C5 (l := bs) (i := i) (by have := C0 hi; omega)
      have := m t (by simp [ht])
      exact ihb i x t hx hi this.1 this.2
end
end Go.Proofs.YtnhkdkcgdcgmdaaGreatDoor
