/- Folding of statements: the plain law; how many nodes, how deep. Plain. -/
import Derived.Test.YtnhkdkcgdcgmdaaDoorzOQi
import Derived.Test.YtnhkdkcgdcgmdaaDoorzOQk
namespace Go.Proofs.YtnhkdkcgdcgmdaaDoor
open Go.RowKit
set_option maxRecDepth 100000
set_option maxHeartbeats 2000000
def sN (k : Int) (s : ByteArray) (ts us vs ws : List PT) : PT := .mk (.stmt k s ts.length us.length vs.length ws.length) (us ++ (ts ++ (vs ++ ws)))
def asked (kind : Int) : List PT → Bool
  | a :: _ => decide (kindC a = kind)
  | [] => false
def foldStm (k : Int) (s : ByteArray) (ts us vs ws : List PT) : List PT :=
  if k = 7 ∨ (k = 6 ∧ asked 1 us = true) ∨ (k = 4 ∧ asked 2 us = true) then []
  else if k = 3 ∧ asked 1 us = true then vs
  else if k = 3 ∧ asked 2 us = true then ws
  else [sN k s ts us vs ws]
def foldX (cs : List PT) (L : List (List PT)) : Lab → List PT
  | .stmt k s e c t _ => foldStm k s (((cs.drop c).take e).map foldT) ((cs.take c).map foldT) (((L.drop c).drop e).take t).flatten (((L.drop c).drop e).drop t).flatten
  | l => [.mk l cs]
mutual
def foldA : PT → List PT
  | .mk l cs => foldX cs (foldAs cs) l
def foldAs : List PT → List (List PT)
  | [] => []
  | t :: ts => foldA t :: foldAs ts
end
theorem c4g : ∀ ts : List PT, foldAs ts = ts.map foldA
  | [] => by rw [foldAs]; rfl
  | t :: ts => by rw [foldAs, c4g ts]; rfl
def foldSs (ts : List PT) : List PT := (ts.map foldA).flatten
theorem c4h (a b : List PT) : foldSs (a ++ b) = foldSs a ++ foldSs b := by unfold foldSs; rw [List.map_append, List.flatten_append]
theorem c4i (t : PT) : foldSs [t] = foldA t := by unfold foldSs; simp
theorem b1E (k : Int) (s : ByteArray) (ts us vs ws : List PT) : foldA (sN k s ts us vs ws) = foldStm k s (ts.map foldT) (us.map foldT) (foldSs vs) (foldSs ws) := by
  unfold sN
  rw [foldA, foldX, c4g]
  simp only [List.map_append]
  have h1 : (us.map foldA).length = us.length := List.length_map ..
  have h2 : (ts.map foldA).length = ts.length := List.length_map ..
  have h3 : (vs.map foldA).length = vs.length := List.length_map ..
  rw [List.take_left, List.drop_left, List.take_left]
  have e1 : (us.map foldA ++ (ts.map foldA ++ (vs.map foldA ++ ws.map foldA))).drop us.length = ts.map foldA ++ (vs.map foldA ++ ws.map foldA) := by rw [← h1, List.drop_left]
  have e2 : (ts.map foldA ++ (vs.map foldA ++ ws.map foldA)).drop ts.length = vs.map foldA ++ ws.map foldA := by rw [← h2, List.drop_left]
  have e3 : (vs.map foldA ++ ws.map foldA).take vs.length = vs.map foldA := by rw [← h3, List.take_left]
  have e4 : (vs.map foldA ++ ws.map foldA).drop vs.length = ws.map foldA := by rw [← h3, List.drop_left]
  rw [e1, e2, e3, e4]; rfl
inductive ArS : PT → Prop
  | mk {k : Int} {s : ByteArray} {ts us vs ws : List PT} : (∀ t ∈ ts, Ar t) → (∀ t ∈ us, ArC t) → (∀ t ∈ vs, ArS t) → (∀ t ∈ ws, ArS t) → ArS (sN k s ts us vs ws)
section
variable {B : Int}
theorem f9M (t : PT) : 1 ≤ cT t := by cases t; rw [cT]; omega
theorem c0o : ∀ ts : List PT, ts.length ≤ cTs ts
  | [] => Nat.zero_le _
  | t :: ts => by rw [cTs, List.length_cons]; have := f9M t; have := c0o ts; omega
theorem d1W {f : PT → PT} : ∀ {ts : List PT} (_ : ∀ t ∈ ts, cT (f t) ≤ cT t), cTs (ts.map f) ≤ cTs ts
  | [], _ => Nat.le_refl _
  | t :: ts, h => by
    rw [List.map_cons, cTs, cTs]
    have := h t List.mem_cons_self
    have := d1W (ts := ts) fun u hu => h u (List.mem_cons_of_mem _ hu)
    omega
theorem d0A {f : PT → List PT} : ∀ {ts : List PT} (_ : ∀ t ∈ ts, cTs (f t) ≤ cT t), cTs (ts.map f).flatten ≤ cTs ts
  | [], _ => Nat.le_refl _
  | t :: ts, h => by
    rw [List.map_cons, List.flatten_cons, Z9, cTs]
    have := h t List.mem_cons_self
    have := d0A (ts := ts) fun u hu => h u (List.mem_cons_of_mem _ hu)
    omega
theorem a7J : ∀ (ts : List PT) (d : Int), dpTs B ts d ↔ ∀ t ∈ ts, dpT B t d
  | [], d => by rw [dpTs]; exact ⟨(fun _ t h => by cases h), fun _ => trivial⟩
  | t :: ts, d => by
    rw [dpTs, a7J ts d]
    constructor
    · rintro ⟨a, b⟩ u hu
      rcases List.mem_cons.1 hu with e | hu
      · rw [e]; exact a
      · exact b u hu
    · exact fun h => ⟨h t List.mem_cons_self, fun u hu => h u (List.mem_cons_of_mem _ hu)⟩
mutual
theorem d8u : ∀ (t : PT) (d : Int), dpT B t (d + 1) → dpT B t d
  | .mk l cs, d, h => by
    rw [dpT] at h ⊢
    exact ⟨by omega, c0p cs _ h.2⟩
theorem c0p : ∀ (ts : List PT) (d : Int), dpTs B ts (d + 1) → dpTs B ts d
  | [], _, _ => trivial
  | t :: ts, d, h => by
    rw [dpTs] at h ⊢
    exact ⟨d8u t d h.1, c0p ts d h.2⟩
end
theorem f9N {t : PT} {d : Int} (h : dpT B t d) : d ≤ B := by cases t; rw [dpT] at h; exact h.1
end
def a5C (t : PT) (cs : List PT) : Prop := cT t ≤ 1 + cTs cs ∧ ∀ B d, d ≤ B → dpTs B cs (d + 1) → dpT B t d
theorem d1X (l : Lab) (cs : List PT) : a5C (.mk l cs) cs := ⟨by rw [cT]; omega, fun B d h1 h2 => by rw [dpT]; exact ⟨h1, h2⟩⟩
theorem b7w {t : PT} {cs : List PT} (h : t ∈ cs) : a5C t cs := by
  refine ⟨?_, fun B d _ h2 => d8u _ _ ((a7J _ _).1 h2 t h)⟩
  induction cs with
  | nil => cases h
  | cons u cs ih =>
    rw [cTs]
    rcases List.mem_cons.1 h with e | h
    · rw [e]; omega
    · have := ih h; omega
theorem e2f (v : Int) : cT (plainT v) ≤ 2 := by unfold plainT eN; split <;> simp [cT, cTs]
theorem d8v {v : Int} (h : 0 ≤ v) : cT (plainT v) = 1 := by unfold plainT eN; rw [if_neg (by omega)]; simp [cT, cTs]
theorem c4j {v : Int} {cs : List PT} (h : 0 ≤ v ∨ cs ≠ []) : a5C (plainT v) cs := by
  refine ⟨?_, fun B d h1 h2 => ?_⟩
  · rcases h with h | h
    · rw [d8v h]; omega
    · have := e2f v
      have : cs.length ≤ cTs cs := c0o cs
      have : 0 < cs.length := List.length_pos_iff.2 h
      omega
  · by_cases hv : 0 ≤ v
    · unfold plainT eN; rw [if_neg (by omega), dpT, dpTs]; exact ⟨h1, trivial⟩
    · unfold plainT eN; rw [if_pos (by omega), dpT, dpTs, dpT, dpTs, dpTs]
      refine ⟨h1, ⟨?_, trivial⟩, trivial⟩
      rcases h with h | h
      · exact (hv h).elim
      · cases cs with
        | nil => exact (h rfl).elim
        | cons u cs => exact f9N ((a7J _ _).1 h2 u List.mem_cons_self)
theorem d8w (k n : Int) (s : ByteArray) (cs : List PT) : a5C (simpN k n s cs) cs := by
  have self : a5C (eN k n s cs) cs := d1X _ _
  unfold simpN
  split
  · rename_i a b
    have ha : a5C a [a, b] := b7w (by simp)
    have hb : a5C b [a, b] := b7w (by simp)
    repeat' split
    all_goals assumption
  · exact self
theorem e7Y {k : Int} {cs : List PT} {v : Int} (h : reck k cs = some v) : cs ≠ [] := by
  rintro rfl
  cases h
theorem d5z {k n : Int} (s : ByteArray) (cs : List PT) (h : k = 1 → 0 ≤ n) : a5C (foldN k n s cs) cs := by
  unfold foldN
  split
  · rename_i v hv
    refine c4j ?_
    unfold eN at hv
    rw [cst] at hv
    split at hv
    · rename_i h1; cases hv; exact .inl (h h1)
    · split at hv
      · refine .inr ?_
        rintro rfl
        cases hv
      · cases hv
  · split
    · rename_i v hv; exact c4j (.inr (e7Y hv))
    · exact d8w k n s cs
theorem d0B (b : Bool) (cs : List PT) : a5C (truT b) cs := by
  unfold truT
  exact ⟨by rw [cT, cTs]; omega, fun B d h1 _ => by rw [dpT, dpTs]; exact ⟨h1, trivial⟩⟩
theorem c5W {l d : Int} {self : PT} {xs ps : List PT} (h : a5C self (xs ++ ps)) : a5C (joinT l d self ps) (xs ++ ps) := by
  unfold joinT
  split
  · rename_i a b
    have ha : a5C a (xs ++ [a, b]) := b7w (by simp)
    have hb : a5C b (xs ++ [a, b]) := b7w (by simp)
    repeat' split
    all_goals assumption
  · exact h
theorem d5A (k op : Int) (xs ps : List PT) : a5C (foldC k op xs ps) (xs ++ ps) := by
  have self : a5C (cN k op xs ps) (xs ++ ps) := d1X _ _
  unfold foldC
  repeat' split
  · unfold cmpT
    repeat' split
    all_goals first | exact d0B _ _ | exact self
  · unfold notT
    repeat' split
    all_goals first | exact d0B _ _ | exact self
  · exact c5W self
  · exact c5W self
  · exact self
def Slim (t u : PT) : Prop := cT u ≤ cT t ∧ ∀ B d, dpT B t d → dpT B u d
theorem d1Y {l : Lab} {cs cs' : List PT} {u : PT} (h : a5C u cs') (hc : cTs cs' ≤ cTs cs) (hd : ∀ B d, dpTs B cs d → dpTs B cs' d) : Slim (.mk l cs) u := by
  refine ⟨by rw [cT]; have := h.1; omega, fun B d hd' => ?_⟩
  rw [dpT] at hd'
  exact h.2 B d hd'.1 (hd B _ hd'.2)
theorem slims {f : PT → PT} {ts : List PT} (h : ∀ t ∈ ts, Slim t (f t)) : cTs (ts.map f) ≤ cTs ts ∧ ∀ B d, dpTs B ts d → dpTs B (ts.map f) d := by
  refine ⟨d1W fun t ht => (h t ht).1, fun B d hd => (a7J _ _).2 fun u hu => ?_⟩
  obtain ⟨t, ht, rfl⟩ := List.mem_map.1 hu
  exact (h t ht).2 B d ((a7J _ _).1 hd t ht)
theorem slimE {t : PT} (ha : Ar t) : formT t = true → Slim t (foldT t) := by
  induction ha with
  | @mk k n s a cs h1 h2 h3 ih =>
    intro hf
    rw [formT, Bool.and_eq_true] at hf
    have hk := slims fun t ht => ih t ht (O6 hf.2 ht)
    rw [foldT, foldL, a6G]
    refine d1Y (d5z s _ fun e => ?_) hk.1 hk.2
    have hF := hf.1
    change formE k n s a = true at hF
    unfold formE at hF
    split at hF
    · cases hF
    · first
      | (rw [if_pos e, Bool.and_eq_true] at hF; exact of_decide_eq_true hF.1)
      | (rw [Bool.and_eq_true] at hF; exact of_decide_eq_true hF.1)
theorem slimC {t : PT} (ha : ArC t) : formT t = true → Slim t (foldT t) := by
  induction ha with
  | @mk k op xs ps h1 h2 h3 ih =>
    intro hf
    rw [formT, Bool.and_eq_true] at hf
    rw [b1C]
    have e1 := slims (f := foldT) fun t ht => slimE (h2 t ht) (O6 hf.2 (List.mem_append_left _ ht))
    have e2 := slims (f := foldT) fun t ht => ih t ht (O6 hf.2 (List.mem_append_right _ ht))
    refine d1Y (d5A k op _ _) (by rw [Z9, Z9]; omega) fun B d hd => ?_
    rw [a5o] at hd ⊢
    exact ⟨e1.2 B d hd.1, e2.2 B d hd.2⟩
def SlimS (t : PT) (us : List PT) : Prop := cTs us ≤ cT t ∧ ∀ B d, dpT B t d → dpTs B us d
theorem slimSs {ts : List PT} (h : ∀ t ∈ ts, SlimS t (foldA t)) : cTs (foldSs ts) ≤ cTs ts ∧ ∀ B d, dpTs B ts d → dpTs B (foldSs ts) d := by
  refine ⟨d0A fun t ht => (h t ht).1, fun B d hd => (a7J _ _).2 fun u hu => ?_⟩
  unfold foldSs at hu
  obtain ⟨l, hl, hul⟩ := List.mem_flatten.1 hu
  obtain ⟨t, ht, rfl⟩ := List.mem_map.1 hl
  exact (a7J _ _).1 ((h t ht).2 B d ((a7J _ _).1 hd t ht)) u hul
theorem slimS {t : PT} (ha : ArS t) : formT t = true → SlimS t (foldA t) := by
  induction ha with
  | @mk k s ts us vs ws h1 h2 h3 h4 ih1 ih2 =>
    intro hf
    unfold sN at hf
    rw [formT, Bool.and_eq_true] at hf
    have m1 : ∀ t ∈ us, formT t = true := fun t ht => O6 hf.2 (by simp [ht])
    have m2 : ∀ t ∈ ts, formT t = true := fun t ht => O6 hf.2 (by simp [ht])
    have m3 : ∀ t ∈ vs, formT t = true := fun t ht => O6 hf.2 (by simp [ht])
    have m4 : ∀ t ∈ ws, formT t = true := fun t ht => O6 hf.2 (by simp [ht])
    have e1 := slims (f := foldT) fun t ht => slimC (h2 t ht) (m1 t ht)
    have e2 := slims (f := foldT) fun t ht => slimE (h1 t ht) (m2 t ht)
    have e3 := slimSs fun t ht => ih1 t ht (m3 t ht)
    have e4 := slimSs fun t ht => ih2 t ht (m4 t ht)
    rw [b1E]
    unfold foldStm
    have hc : cT (sN k s ts us vs ws) = 1 + (cTs us + (cTs ts + (cTs vs + cTs ws))) := by
      unfold sN; rw [cT, Z9, Z9, Z9]
    have hd : ∀ B d, dpT B (sN k s ts us vs ws) d ↔ d ≤ B ∧ dpTs B us (d + 1) ∧ dpTs B ts (d + 1) ∧ dpTs B vs (d + 1) ∧ dpTs B ws (d + 1) := fun B d => by
      unfold sN; rw [dpT, a5o, a5o, a5o]
    unfold SlimS
    rw [hc]
    split
    · exact ⟨Nat.zero_le _, fun B d _ => trivial⟩
    · split
      · exact ⟨by omega, fun B d h => c0p _ _ (e3.2 B _ ((hd B d).1 h).2.2.2.1)⟩
      · split
        · exact ⟨by omega, fun B d h => c0p _ _ (e4.2 B _ ((hd B d).1 h).2.2.2.2)⟩
        · refine ⟨?_, fun B d h => ?_⟩
          · rw [cTs, cTs]; unfold sN; rw [cT, Z9, Z9, Z9]; omega
          · obtain ⟨q0, q1, q2, q3, q4⟩ := (hd B d).1 h
            rw [dpTs, dpTs]; unfold sN; rw [dpT, a5o, a5o, a5o]
            exact ⟨⟨q0, e1.2 B _ q1, e2.2 B _ q2, e3.2 B _ q3, e4.2 B _ q4⟩, trivial⟩
section
variable {H : Hp}
theorem f9O {e : b9} {t : PT} (he : SH H e t) (hf : formT t = true) (hs : Sm t) : ArS t := by
  induction he with
  | @mk e xs ts ys us zs bs vs ws hsl hb hr hc hcb hcr ha hab hal har hbs hbb hbl hbr iha ihb =>
    rw [formT, Bool.and_eq_true] at hf
    have m : ∀ t ∈ us ++ (ts ++ (vs ++ ws)), formT t = true ∧ Sm t := fun t ht => ⟨O6 hf.2 ht, hs.num.2 t ht⟩
    refine .mk (fun t ht => ?_) (fun t ht => ?_) (fun t ht => ?_) fun t ht => ?_
    · obtain ⟨i, hi⟩ := List.getElem?_of_mem ht
      obtain ⟨x, hx⟩ := O2 (l := xs) (i := i) (by have := J0 hi; have := hr.1; omega)
      have := m t (by simp [ht])
      exact d5r (hr.2 i x t hx hi) this.1 this.2
    · obtain ⟨i, hi⟩ := List.getElem?_of_mem ht
      obtain ⟨x, hx⟩ := O2 (l := ys) (i := i) (by have := J0 hi; have := hcr.1; omega)
      have := m t (by simp [ht])
      exact d8p (hcr.2 i x t hx hi) this.1 this.2
    · obtain ⟨i, hi⟩ := List.getElem?_of_mem ht
      obtain ⟨x, hx⟩ := O2 (l := zs) (i := i) (by have := J0 hi; omega)
      have := m t (by simp [ht])
      exact iha i x t hx hi this.1 this.2
    · obtain ⟨i, hi⟩ := List.getElem?_of_mem ht
      obtain ⟨x, hx⟩ := O2 (l := bs) (i := i) (by have := J0 hi; omega)
      have := m t (by simp [ht])
      exact ihb i x t hx hi this.1 this.2
end
end Go.Proofs.YtnhkdkcgdcgmdaaDoor
