/- Which names a program has; the document's check of a program, its size, its names. The law TreeChecks. -/
import Derived.Test.YtnhkdkcgdcgmdaaGreatDoorProg
import Derived.KernelRfl
import Derived.Test.YtnhkdkcgdcgmdaaGreatDoorzPG1r
import Derived.Test.YtnhkdkcgdcgmdaaGreatDoorzPV1
import Derived.Test.YtnhkdkcgdcgmdaaGreatDoorzPK0
import Derived.Test.YtnhkdkcgdcgmdaaGreatDoorzPGz
namespace Go.Proofs.YtnhkdkcgdcgmdaaGreatDoor
open Go.RowKit
set_option maxRecDepth 100000
set_option maxHeartbeats 2000000
def namL (l : Lab) : List ByteArray := if (nameL l).2 = true then [(nameL l).1] else []
mutual
def nT : PT → List ByteArray
  | .mk l cs => namL l ++ nTs cs
def nTs : List PT → List ByteArray
  | [] => []
  | t :: ts => nT t ++ nTs ts
end
def putAll (l : List ByteArray) (xs : List ByteArray) : List ByteArray := xs.foldl putS l
theorem c4W (l a b : List ByteArray) : putAll l (a ++ b) = putAll (putAll l a) b := by unfold putAll; rw [List.foldl_append]
theorem e5Q (v : V) (l : Lab) (d : Int) (h : (vMeet v l d).1 = true) : (vMeet v l d).2.ns = putAll v.ns (namL l) := by
  unfold vMeet at h ⊢
  unfold namL
  split at h
  · cases h
  · rename_i h1
    rw [if_neg h1]
    split at h
    · cases h
    · rename_i h2
      rw [if_neg h2]
      dsimp only
      split <;> rfl
mutual
theorem h4E : ∀ (t : PT) (d : Int) (v : V), (vT t d v).1 = true → (vT t d v).2.ns = putAll v.ns (nT t)
  | .mk l cs, d, v => by
    rw [vT, nT]
    by_cases hq : (vMeet v l d).1 = true
    · rw [if_pos hq]
      intro h
      rw [d2c cs (d + 1) _ h, e5Q v l d hq, c4W]
    · rw [if_neg hq]; exact fun h => (hq h).elim
theorem d2c : ∀ (ts : List PT) (d : Int) (v : V), (vTs ts d v).1 = true → (vTs ts d v).2.ns = putAll v.ns (nTs ts)
  | [], d, v => by rw [vTs, nTs]; exact fun _ => rfl
  | t :: ts, d, v => by
    rw [vTs, nTs]
    by_cases hq : (vT t d v).1 = true
    · rw [if_pos hq]
      intro h
      rw [d2c ts d _ h, h4E t d v hq, c4W]
    · rw [if_neg hq]; exact fun h => (hq h).elim
end
abbrev Us := c3C
def useL : Lab → List Us
  | .decl _ _ => []
  | .cond .. => []
  | .expr k _ s _ => if (decide (k = 2) || decide (k = 4)) = true then [⟨s, decide (k = 4)⟩] else []
  | .stmt k s _ _ _ _ => if (decide (k = 1) || decide (k = 2)) = true then [⟨s, decide (k = 2)⟩] else []
mutual
def uT : PT → List Us
  | .mk l cs => useL l ++ uTs cs
def uTs : List PT → List Us
  | [] => []
  | t :: ts => uT t ++ uTs ts
end
theorem a2P : ∀ a b : List PT, uTs (a ++ b) = uTs a ++ uTs b
  | [], b => by rw [List.nil_append, uTs, List.nil_append]
  | t :: a, b => by rw [List.cons_append, uTs, uTs, a2P a b, List.append_assoc]
theorem e1A {ts : List PT} {i : Nat} {t : PT} (h : ts[i]? = some t) : uTs (ts.take (i + 1)) = uTs (ts.take i) ++ uT t := by
  rw [O2 h, a2P, uTs, uTs, List.append_nil]
theorem g5Y (ts : List PT) (i : Nat) : (uTs (ts.take i)).length ≤ (uTs ts).length := by
  have := a2P (ts.take i) (ts.drop i)
  rw [List.take_append_drop] at this
  rw [this, List.length_append]; omega
theorem h4F {ts : List PT} {i : Nat} {t : PT} (h : ts[i]? = some t) : (uTs (ts.take i)).length + (uT t).length ≤ (uTs ts).length := by
  have := g5Y ts (i + 1)
  rw [e1A h, List.length_append] at this; exact this
mutual
def cT : PT → Nat
  | .mk _ cs => 1 + cTs cs
def cTs : List PT → Nat
  | [] => 0
  | t :: ts => cT t + cTs ts
end
theorem b0C : ∀ a b : List PT, cTs (a ++ b) = cTs a + cTs b
  | [], b => by rw [List.nil_append, cTs, Nat.zero_add]
  | t :: a, b => by rw [List.cons_append, cTs, cTs, b0C a b, Nat.add_assoc]
theorem e5R (l : Lab) : (useL l).length ≤ 1 := by
  cases l <;> simp only [useL] <;> (try split) <;> simp
mutual
theorem g5Z : ∀ t : PT, (uT t).length ≤ cT t
  | .mk l cs => by rw [uT, cT, List.length_append]; have := e5R l; have := c6s cs; omega
theorem c6s : ∀ ts : List PT, (uTs ts).length ≤ cTs ts
  | [] => by rw [uTs, cTs]; exact Nat.le_refl _
  | t :: ts => by rw [uTs, cTs, List.length_append]; have := g5Z t; have := c6s ts; omega
end
mutual
theorem e1B : ∀ (t : PT) (d : Int) (s : W), (wT t d s).fbad = 0 → (wT t d s).fn = s.fn + cT t
  | .mk l cs, d, s, h => by
    rw [wT] at h ⊢
    rw [c6t cs _ _ h, cT]
    have hb : (wStep s d).fbad = 0 := by
      by_cases hq : (wStep s d).fbad = 0
      · exact hq
      · rw [a7Z _ _ _ hq] at h; exact h
    unfold wStep at hb ⊢
    split at hb
    · rename_i h1
      rw [if_pos h1]
      split at hb
      · cases hb
      · rename_i h2
        rw [if_neg h2]
        split at hb
        · cases hb
        · rename_i h3
          rw [if_neg h3]; dsimp only; omega
    · rename_i h1; exact (h1 hb).elim
theorem c6t : ∀ (ts : List PT) (d : Int) (s : W), (wTs ts d s).fbad = 0 → (wTs ts d s).fn = s.fn + cTs ts
  | [], d, s, h => by rw [wTs, cTs]; simp
  | t :: ts, d, s, h => by
    rw [wTs] at h ⊢
    rw [c6t ts _ _ h, cTs]
    have hb : (wT t d s).fbad = 0 := by
      by_cases hq : (wT t d s).fbad = 0
      · exact hq
      · rw [a7Z _ _ _ hq] at h; exact h
    rw [e1B t d s hb]; omega
end
theorem f3i {ts : List PT} (h : (wTs ts 1 w0S).fbad = 0) : cTs ts ≤ 4096 := by
  have h1 := c6t ts 1 w0S h
  have h2 := (d0D ts 1 w0S h2R).2
  have h3 : w0S.fn = 0 := rfl
  omega
inductive Nd : PT → Prop
  | mk {l : Lab} {cs : List PT} : (∀ z s, l ≠ .decl z s) → (∀ t ∈ cs, Nd t) → Nd (.mk l cs)
theorem b3L {α : Type} {R : α → PT → Prop} {xs : List α} {ts : List PT} (hl : xs.length = ts.length) (h : ∀ (i : Nat) (x : α) (t : PT), xs[i]? = some x → ts[i]? = some t → Nd t) : ∀ t ∈ ts, Nd t := fun t ht => by
  obtain ⟨i, hi⟩ := List.mem_iff_getElem?.1 ht
  obtain ⟨x, hx⟩ := z7 (l := xs) (i := i) (by rw [hl]; exact K3 hi)
  exact h i x t hx hi
theorem c4X {a b : List PT} (ha : ∀ t ∈ a, Nd t) (hb : ∀ t ∈ b, Nd t) : ∀ t ∈ a ++ b, Nd t := fun t h => (List.mem_append.1 h).elim (ha t) (hb t)
theorem EH.nd {H : Hp} {e : b6} {t : PT} (h : EH H e t) : Nd t := by
  induction h with
  | mk hs hb hl _ ih => exact .mk (fun z s e => by cases e) (b3L (R := EH H) hl ih)
theorem CH.nd {H : Hp} {e : b9} {t : PT} (h : CH H e t) : Nd t := by
  induction h with
  | mk hs hb hr hc hcb hl _ ih => exact .mk (fun z s e => by cases e) (c4X (b3L (R := EH H) hr.1 fun i x t a b => (hr.2 i x t a b).nd) (b3L (R := CH H) hl ih))
theorem SH.nd {H : Hp} {e : d7} {t : PT} (h : SH H e t) : Nd t := by
  induction h with
  | mk hs hb hr hc hcb hcr ha hab hal _ hbs hbb hbl _ ih1 ih2 =>
    exact .mk (fun z s e => by cases e) (c4X (b3L (R := CH H) hcr.1 fun i x t a b => (hcr.2 i x t a b).nd) (c4X (b3L (R := EH H) hr.1 fun i x t a b => (hr.2 i x t a b).nd) (c4X (b3L (R := SH H) hal ih1) (b3L (R := SH H) hbl ih2))))
section
variable {H : Hp}
theorem e5S {q : PP} (h : toldS q.nodes = 0) : (wTs q.nodes 1 w0S).fbad = 0 ∧ (allV q).1 = true ∧ (allV q).2.n = (wTs q.nodes 1 w0S).fn ∧ (allV q).2.d = (wTs q.nodes 1 w0S).fdepth ∧ (allV q).2.ns = putAll [] (nTs q.nodes) := by
  have hb : (wTs q.nodes 1 w0S).fbad = 0 := by
    unfold toldS at h
    by_cases hq : (wTs q.nodes 1 w0S).fbad = 0
    · exact hq
    · rw [if_neg hq] at h; exact h
  have hs := e8a q.nodes
  have hr : (allV q).1 = true := by
    cases hq : (allV q).1
    · obtain ⟨h1, h2⟩ := hs.2 hq
      omega
    · rfl
  obtain ⟨h1, _⟩ := hs.1 hr
  exact ⟨hb, hr, by rw [h1]; rfl, by rw [h1]; rfl, d2c q.nodes 1 v0 hr⟩
end
end Go.Proofs.YtnhkdkcgdcgmdaaGreatDoor
namespace Go.Proofs.YtnhkdkcgdcgmdaaGreatDoor
open Go.RowKit
set_option maxRecDepth 100000
set_option maxHeartbeats 2000000
mutual
def dpT (B : Int) : PT → Int → Prop
  | .mk _ cs, d => d ≤ B ∧ dpTs B cs (d + 1)
def dpTs (B : Int) : List PT → Int → Prop
  | [], _ => True
  | t :: ts, d => dpT B t d ∧ dpTs B ts d
end
variable {B : Int}
theorem d8v {s : W} {d : Int} (hb : s.fbad = 0) (h2 : ¬ s.fn = 4096) (h3 : ¬ 64 < d) : wStep s d = ⟨s.fn + 1, if d > s.fdepth then d else s.fdepth, 0⟩ := by
  unfold wStep; rw [if_pos hb, if_neg h2, if_neg h3]
mutual
theorem e1C : ∀ (t : PT) (d : Int) (s : W), 0 ≤ s.fn → s.fn ≤ 4096 → s.fbad = 0 → ((wT t d s).fbad = 0 ↔ (s.fn + cT t ≤ 4096 ∧ dpT 64 t d))
  | .mk l cs, d, s, h0, h1, hb => by
    rw [wT, cT, dpT]
    by_cases h2 : s.fn = 4096
    · have : (wStep s d).fbad ≠ 0 := by unfold wStep; rw [if_pos hb, if_pos h2]; exact (by decide : (33 : Int) ≠ 0)
      rw [a7Z _ _ _ this]
      exact ⟨fun e => (this e).elim, fun e => by omega⟩
    · by_cases h3 : 64 < d
      · have : (wStep s d).fbad ≠ 0 := by unfold wStep; rw [if_pos hb, if_neg h2, if_pos h3]; exact (by decide : (32 : Int) ≠ 0)
        rw [a7Z _ _ _ this]
        exact ⟨fun e => (this e).elim, fun e => by omega⟩
      · rw [d8v hb h2 h3, c6u cs (d + 1) _ (by dsimp only; omega) (by dsimp only; omega) rfl]
        dsimp only
        constructor
        · rintro ⟨a, b⟩; exact ⟨by omega, by omega, b⟩
        · rintro ⟨a, b, c⟩; exact ⟨by omega, c⟩
theorem c6u : ∀ (ts : List PT) (d : Int) (s : W), 0 ≤ s.fn → s.fn ≤ 4096 → s.fbad = 0 → ((wTs ts d s).fbad = 0 ↔ (s.fn + cTs ts ≤ 4096 ∧ dpTs 64 ts d))
  | [], d, s, h0, h1, hb => by rw [wTs, cTs, dpTs]; exact ⟨fun _ => ⟨by omega, trivial⟩, fun _ => hb⟩
  | t :: ts, d, s, h0, h1, hb => by
    rw [wTs, cTs, dpTs]
    by_cases h2 : (wT t d s).fbad = 0
    · have hi := (e1C t d s h0 h1 hb).1 h2
      have hc := e1B t d s h2
      rw [c6u ts d _ (by omega) (by omega) h2, hc]
      constructor
      · rintro ⟨a, b⟩; exact ⟨by omega, hi.2, b⟩
      · rintro ⟨a, b, c⟩; exact ⟨by omega, c⟩
    · rw [a7Z _ _ _ h2]
      have := mt (e1C t d s h0 h1 hb).2 h2
      exact ⟨fun e => (h2 e).elim, fun e => (this ⟨by omega, e.2.1⟩).elim⟩
end
theorem d2d (ts : List PT) : toldS ts = 0 ↔ (cTs ts ≤ 4096 ∧ dpTs 64 ts 1 ∧ formTs ts = true ∧ namesTs ts = true) := by
  have h := c6u ts 1 w0S (Int.le_refl _) (by decide) rfl
  have e0 : w0S.fn = 0 := rfl
  rw [e0] at h
  unfold toldS
  constructor
  · intro e
    split at e
    · rename_i hb
      have := h.1 hb
      split at e
      · rename_i hf
        split at e
        · rename_i hn; exact ⟨by omega, this.2, hf, hn⟩
        · cases e
      · cases e
    · rename_i hb; exact (hb e).elim
  · rintro ⟨a, b, c, d⟩
    rw [if_pos (h.2 ⟨by omega, b⟩), if_pos c, if_pos d]
end Go.Proofs.YtnhkdkcgdcgmdaaGreatDoor
namespace Go.Proofs.YtnhkdkcgdcgmdaaGreatDoor
open Go.RowKit
set_option maxRecDepth 100000
variable {w : World} {R : RT} {E : Pan}
def F25 (x0 : Value) (w : World) (R : RT) (E : Pan) : Prop :=
 oP E (xV (Instr.box 25 x0)) w fun q7 w_2 =>
 oP E (xV (Instr.alloc 25 true (.tuple #[]))) w_2 fun Q8 w_4 =>
 oP E (lA 25 q7) w_4 fun b6P w_6 =>
 oP E (xCall (fC 24) [b6P]) w_6 fun a5S w_8 =>
 oP E (xBin .neq 27 (.tmp 7) (.const (vI 0)) a5S (vI 0)) w_8 fun a5n o7 =>
 xcond a5n
 (oP E (xV (Instr.build 25 #[])) o7 fun a7g p7 =>
 oP E (sA 25 Q8 a7g) p7 fun _z_13 o8 =>
 xcell Tryz.prog 25 Q8 o8 fun b0z =>
 R (Value.tuple #[b0z, a5S]) o8)
 (dX o7 fun r5 =>
 qP Tryz.prog (fA 25 q7 0) fun b5I =>
 qP Tryz.prog (fA 25 q7 1) fun d2e =>
 qL Tryz.prog r5 (blk b5I) (lA 22 b5I) fun b9h =>
 qL Tryz.prog r5 (blk d2e) (lA 23 d2e) fun g6a =>
 oP E (xCall (fC 44) [b9h]) r5 fun g6b u6 =>
 keepX [(blk d2e)] r5 u6 (opK Tryz.prog E (xCall (fC 45) [g6a, (fC 46)]) u6 fun c9I v6 =>
 keepX [] u6 v6 (qP Tryz.prog (xV (Instr.build 25 #[(0, g6b), (1, c9I)])) fun b9k =>
 oP E (sA 25 Q8 b9k) v6 fun _z_26 a2d =>
 keepX [] v6 a2d (xcell Tryz.prog 25 Q8 a2d fun h9s =>
 R (Value.tuple #[h9s, (vI 0)]) a2d))))
noncomputable def c25 : Code := Tryz.f25.body.getD .skip
def h25 : Hint := (sQ (.seq (sQ (sQ (.cond (sQ .none) .none))) (.seq (.reg [(0, 2048, 2), (1, 4096, 2048), (2, 8192, 4096), (0, 16384, 2), (8, 32768, 16384), (20, 65536, 32768), (36, 131072, 73728), (127, 0, 131076), (255, 8, 0)] [18, 16, 16, 18, 2, 0, 18, 0, 18] (.early 0 (.early 3 (.load 1 (.load 4 (.step 2 (.step 5 (.early 6 (.step 7 (.early 8 .done)))))))))) .none)))
theorem g6c (x0 : Value) (w : World) (R : RT) (E : Pan) : F25 x0 w R E = callX Tryz.prog [.cell 2 25, .tmp 3] c25 h25 [x0] w R E := by kernel_rfl
theorem g6d {x0 : Value} (h : F25 x0 w R E) : Cv Tryz.prog 25 #[x0] w R E := by
 refine i7 (args := [x0]) (c := c25) (h := h25) (rs := [.cell 2 25, .tmp 3]) Tryz.func25 (by kernel_rfl) (by kernel_rfl) (nB (by kernel_rfl)) (by kernel_rfl) (by kernel_rfl) (by kernel_rfl) ?_
 rw [← g6c]
 exact h
def F44 (x0 : Value) (w : World) (R : RT) (E : Pan) : Prop :=
 oP E (xBin .eql 22 (.tmp 3) (.const (nS)) x0 (nS)) w fun b9b w_2 =>
 xcond b9b
 (R (nS) w_2)
 (oP E (xV (Instr.buildSlice 22 0 #[])) w_2 fun b4T w_4 =>
 oP E (xBuiltin .append #[22, 22] 22 [false, false] [b4T, x0]) w_4 fun a8I w_6 =>
 R a8I w_6)
noncomputable def c44 : Code := Tryz.f44.body.getD .skip
def h44 : Hint := (sQ (.seq (sQ (.cond (sQ .none) .none)) (sQ .none)))
theorem g6e (x0 : Value) (w : World) (R : RT) (E : Pan) : F44 x0 w R E = callX Tryz.prog [.tmp 2] c44 h44 [x0] w R E := by kernel_rfl
theorem g6f {x0 : Value} (h : F44 x0 w R E) : Cv Tryz.prog 44 #[x0] w R E := by
 refine i7 (args := [x0]) (c := c44) (h := h44) (rs := [.tmp 2]) Tryz.func44 (by kernel_rfl) (by kernel_rfl) (nB (by kernel_rfl)) (by kernel_rfl) (by kernel_rfl) (by kernel_rfl) ?_
 rw [← g6e]
 exact h
def d2f (x5 : Value) (w : World) (R : RT) (_E : Pan) : Prop :=
 ∀ _τ : Fr, (R x5 w)
def e1D (x1 x5 x8 x9 x10 : Value) (w : World) (next2 : NT) (j1 : NT) (_R : RT) (E : Pan) : Prop :=
 oP E (xBin .lss 3 (.tmp 10) (.tmp 9) x10 x9) w fun a4Z w_6 =>
 xcond a4Z
 (oP E (iA 23 x8 x10) w_6 fun a2Z w_8 =>
 oP E (lA 73 a2Z) w_8 fun a3b o7 =>
 oP E (xV (Instr.alloc 73 true (.tuple #[]))) o7 fun U1 p7 =>
 oP E (sA 73 U1 a3b) p7 fun _z_13 o8 =>
 oP E (lA 73 U1) o8 fun a3x r5 =>
 oP E (xCall x1 [a3x]) r5 fun a1D t8 =>
 oP E (xV (Instr.buildSlice 23 1 #[(0, a1D)])) t8 fun a1E t7 =>
 oP E (xBuiltin .append #[23, 23] 23 [false, false] [x5, a1E]) t7 fun a1F u6 =>
 oP E (xBin .add 3 (.tmp 10) (.const (vI 1)) x10 (vI 1)) u6 fun a1G v6 =>
 next2 [a1F, a1G] v6)
 (j1 [x5] w_6)
def F45 (x0 x1 : Value) (w : World) (R : RT) (E : Pan) : Prop :=
 xcut (fun l_1 w_2 => d2f (nth l_1 0) w_2 R E) fun j1 =>
 oP E (xBuiltin .len #[23] 3 [false] [x0]) w fun a0N w_4 =>
 xloop [5, 10] [(nS), (vI 0)] w_4 fun τ_25 y7 next2 =>
 e1D x1 (τ_25 5) x0 a0N (τ_25 10) y7 next2 j1 R E
noncomputable def c45 : Code := Tryz.f45.body.getD .skip
def h45 : Hint := (sQ (sQ (.cut [5] (sQ (.block (.loop [5, 10] (sQ (.seq (.cond .none .none) (.seq (.block (sQ .none)) .none)))))) (sQ .none))))
theorem g6g (x0 x1 : Value) (w : World) (R : RT) (E : Pan) : F45 x0 x1 w R E = callX Tryz.prog [.tmp 4] c45 h45 [x0, x1] w R E := by kernel_rfl
theorem g6h {x0 x1 : Value} (h : F45 x0 x1 w R E) : Cv Tryz.prog 45 #[x0, x1] w R E := by
 refine i7 (args := [x0, x1]) (c := c45) (h := h45) (rs := [.tmp 4]) Tryz.func45 (by kernel_rfl) (by kernel_rfl) (nB (by kernel_rfl)) (by kernel_rfl) (by kernel_rfl) (by kernel_rfl) ?_
 rw [← g6g]
 exact h
def F46 (x0 : Value) (w : World) (R : RT) (E : Pan) : Prop :=
 oP E (xV (Instr.box 73 x0)) w fun q7 w_2 =>
 oP E (xV (Instr.alloc 73 true (.tuple #[]))) w_2 fun Q8 w_4 =>
 dX w_4 fun w_5 =>
 qP Tryz.prog (fA 73 q7 2) fun d2g =>
 qP Tryz.prog (fA 73 q7 3) fun a5S =>
 qL Tryz.prog w_5 (blk d2g) (lA 51 d2g) fun e5T =>
 qL Tryz.prog w_5 (blk a5S) (lA 57 a5S) fun c9A =>
 oP E (xCall (fC 80) [e5T, (fC 81)]) w_5 fun d8w R7 =>
 keepX [(blk a5S)] w_5 R7 (qP Tryz.prog (fA 73 q7 2) fun c3K =>
 oP E (xCall (fC 82) [c9A, (fC 83)]) R7 fun b6M o8 =>
 keepX [] R7 o8 (opK Tryz.prog E (sA 51 c3K d8w) o8 fun _z_15 r5 =>
 keepX [] o8 r5 (qP Tryz.prog (fA 73 q7 3) fun b2L =>
 oP E (sA 57 b2L b6M) r5 fun _z_18 T2 =>
 keepX [] r5 T2 (dX T2 fun t7 =>
 qP Tryz.prog (fA 73 q7 4) fun c3M =>
 qP Tryz.prog (fA 73 q7 5) fun d2h =>
 qL Tryz.prog t7 (blk c3M) (lA 23 c3M) fun c8Y =>
 qL Tryz.prog t7 (blk d2h) (lA 23 d2h) fun g6i =>
 oP E (xCall (fC 45) [c8Y, (fC 46)]) t7 fun c9C y7 =>
 keepX [(blk d2h)] t7 y7 (qP Tryz.prog (fA 73 q7 4) fun c8T =>
 oP E (xCall (fC 45) [g6i, (fC 46)]) y7 fun g6j a9H =>
 keepX [] y7 a9H (opK Tryz.prog E (sA 23 c8T c9C) a9H fun _z_30 a8o =>
 keepX [] a9H a8o (qP Tryz.prog (fA 73 q7 5) fun g6k =>
 oP E (sA 23 g6k g6j) a8o fun _z_33 A6 =>
 keepX [] a8o A6 (opK Tryz.prog E (lA 73 q7) A6 fun g6l K5 =>
 oP E (sA 73 Q8 g6l) K5 fun _z_37 K0 =>
 xcell Tryz.prog 73 Q8 K0 fun h9t =>
 R h9t K0))))))))
noncomputable def c46 : Code := Tryz.f46.body.getD .skip
def h46 : Hint := (sQ (.seq (.reg [(0, 8, 2), (1, 16, 8), (2, 32, 16), (0, 64, 2), (8, 128, 64), (20, 256, 128), (31, 512, 2), (127, 0, 544), (255, 1024, 2), (511, 0, 1280)] [18, 16, 16, 18, 2, 0, 18, 0, 18, 0] (.early 0 (.early 3 (.load 1 (.load 4 (.step 2 (.early 6 (.step 5 (.step 7 (.early 8 (.step 9 .done))))))))))) (.seq (.reg [(0, 2048, 2), (1, 4096, 2048), (2, 8192, 4096), (0, 16384, 2), (8, 32768, 16384), (20, 65536, 32768), (31, 131072, 2), (127, 0, 139264), (255, 262144, 2), (511, 0, 327680)] [18, 16, 16, 18, 2, 0, 18, 0, 18, 0] (.early 0 (.early 3 (.load 1 (.load 4 (.step 2 (.early 6 (.step 5 (.step 7 (.early 8 (.step 9 .done))))))))))) (sQ .none))))
theorem g6m (x0 : Value) (w : World) (R : RT) (E : Pan) : F46 x0 w R E = callX Tryz.prog [.cell 2 73] c46 h46 [x0] w R E := by kernel_rfl
theorem g6n {x0 : Value} (h : F46 x0 w R E) : Cv Tryz.prog 46 #[x0] w R E := by
 refine i7 (args := [x0]) (c := c46) (h := h46) (rs := [.cell 2 73]) Tryz.func46 (by kernel_rfl) (by kernel_rfl) (nB (by kernel_rfl)) (by kernel_rfl) (by kernel_rfl) (by kernel_rfl) ?_
 rw [← g6m]
 exact h
def d2i (x5 : Value) (w : World) (R : RT) (_E : Pan) : Prop :=
 ∀ _τ : Fr, (R x5 w)
def e1E (x1 x5 x8 x9 x10 : Value) (w : World) (next2 : NT) (j1 : NT) (_R : RT) (E : Pan) : Prop :=
 oP E (xBin .lss 3 (.tmp 10) (.tmp 9) x10 x9) w fun a4Z w_6 =>
 xcond a4Z
 (oP E (iA 51 x8 x10) w_6 fun a2Z w_8 =>
 oP E (lA 53 a2Z) w_8 fun a3b o7 =>
 oP E (xV (Instr.alloc 53 true (.tuple #[]))) o7 fun U1 p7 =>
 oP E (sA 53 U1 a3b) p7 fun _z_13 o8 =>
 oP E (lA 53 U1) o8 fun a3x r5 =>
 oP E (xCall x1 [a3x]) r5 fun a1D t8 =>
 oP E (xV (Instr.buildSlice 51 1 #[(0, a1D)])) t8 fun a1E t7 =>
 oP E (xBuiltin .append #[51, 51] 51 [false, false] [x5, a1E]) t7 fun a1F u6 =>
 oP E (xBin .add 3 (.tmp 10) (.const (vI 1)) x10 (vI 1)) u6 fun a1G v6 =>
 next2 [a1F, a1G] v6)
 (j1 [x5] w_6)
def F80 (x0 x1 : Value) (w : World) (R : RT) (E : Pan) : Prop :=
 xcut (fun l_1 w_2 => d2i (nth l_1 0) w_2 R E) fun j1 =>
 oP E (xBuiltin .len #[51] 3 [false] [x0]) w fun a0N w_4 =>
 xloop [5, 10] [(nS), (vI 0)] w_4 fun τ_25 y7 next2 =>
 e1E x1 (τ_25 5) x0 a0N (τ_25 10) y7 next2 j1 R E
noncomputable def c80 : Code := Tryz.f80.body.getD .skip
def h80 : Hint := (sQ (sQ (.cut [5] (sQ (.block (.loop [5, 10] (sQ (.seq (.cond .none .none) (.seq (.block (sQ .none)) .none)))))) (sQ .none))))
theorem g6o (x0 x1 : Value) (w : World) (R : RT) (E : Pan) : F80 x0 x1 w R E = callX Tryz.prog [.tmp 4] c80 h80 [x0, x1] w R E := by kernel_rfl
theorem g6p {x0 x1 : Value} (h : F80 x0 x1 w R E) : Cv Tryz.prog 80 #[x0, x1] w R E := by
 refine i7 (args := [x0, x1]) (c := c80) (h := h80) (rs := [.tmp 4]) Tryz.func80 (by kernel_rfl) (by kernel_rfl) (nB (by kernel_rfl)) (by kernel_rfl) (by kernel_rfl) (by kernel_rfl) ?_
 rw [← g6o]
 exact h
def F81 (x0 : Value) (w : World) (R : RT) (E : Pan) : Prop :=
 oP E (xV (Instr.box 53 x0)) w fun q7 w_2 =>
 oP E (xV (Instr.alloc 53 true (.tuple #[]))) w_2 fun Q8 w_4 =>
 oP E (fA 53 q7 3) w_4 fun b6N w_6 =>
 oP E (lA 51 b6N) w_6 fun d5F w_8 =>
 oP E (xCall (fC 80) [d5F, (fC 81)]) w_8 fun d8x o7 =>
 oP E (fA 53 q7 3) o7 fun h4G p7 =>
 oP E (sA 51 h4G d8x) p7 fun _z_13 o8 =>
 oP E (lA 53 q7) o8 fun a5i r5 =>
 oP E (sA 53 Q8 a5i) r5 fun _z_17 t8 =>
 xcell Tryz.prog 53 Q8 t8 fun e5U =>
 R e5U t8
noncomputable def c81 : Code := Tryz.f81.body.getD .skip
def h81 : Hint := (sQ (sQ (sQ .none)))
theorem g6q (x0 : Value) (w : World) (R : RT) (E : Pan) : F81 x0 w R E = callX Tryz.prog [.cell 2 53] c81 h81 [x0] w R E := by kernel_rfl
theorem g6r {x0 : Value} (h : F81 x0 w R E) : Cv Tryz.prog 81 #[x0] w R E := by
 refine i7 (args := [x0]) (c := c81) (h := h81) (rs := [.cell 2 53]) Tryz.func81 (by kernel_rfl) (by kernel_rfl) (nB (by kernel_rfl)) (by kernel_rfl) (by kernel_rfl) (by kernel_rfl) ?_
 rw [← g6q]
 exact h
def d2j (x5 : Value) (w : World) (R : RT) (_E : Pan) : Prop :=
 ∀ _τ : Fr, (R x5 w)
def e1F (x1 x5 x8 x9 x10 : Value) (w : World) (next2 : NT) (j1 : NT) (_R : RT) (E : Pan) : Prop :=
 oP E (xBin .lss 3 (.tmp 10) (.tmp 9) x10 x9) w fun a4Z w_6 =>
 xcond a4Z
 (oP E (iA 57 x8 x10) w_6 fun a2Z w_8 =>
 oP E (lA 59 a2Z) w_8 fun a3b o7 =>
 oP E (xV (Instr.alloc 59 true (.tuple #[]))) o7 fun U1 p7 =>
 oP E (sA 59 U1 a3b) p7 fun _z_13 o8 =>
 oP E (lA 59 U1) o8 fun a3x r5 =>
 oP E (xCall x1 [a3x]) r5 fun a1D t8 =>
 oP E (xV (Instr.buildSlice 57 1 #[(0, a1D)])) t8 fun a1E t7 =>
 oP E (xBuiltin .append #[57, 57] 57 [false, false] [x5, a1E]) t7 fun a1F u6 =>
 oP E (xBin .add 3 (.tmp 10) (.const (vI 1)) x10 (vI 1)) u6 fun a1G v6 =>
 next2 [a1F, a1G] v6)
 (j1 [x5] w_6)
def F82 (x0 x1 : Value) (w : World) (R : RT) (E : Pan) : Prop :=
 xcut (fun l_1 w_2 => d2j (nth l_1 0) w_2 R E) fun j1 =>
 oP E (xBuiltin .len #[57] 3 [false] [x0]) w fun a0N w_4 =>
 xloop [5, 10] [(nS), (vI 0)] w_4 fun τ_25 y7 next2 =>
 e1F x1 (τ_25 5) x0 a0N (τ_25 10) y7 next2 j1 R E
noncomputable def c82 : Code := Tryz.f82.body.getD .skip
def h82 : Hint := (sQ (sQ (.cut [5] (sQ (.block (.loop [5, 10] (sQ (.seq (.cond .none .none) (.seq (.block (sQ .none)) .none)))))) (sQ .none))))
theorem g6s (x0 x1 : Value) (w : World) (R : RT) (E : Pan) : F82 x0 x1 w R E = callX Tryz.prog [.tmp 4] c82 h82 [x0, x1] w R E := by kernel_rfl
theorem g6t {x0 x1 : Value} (h : F82 x0 x1 w R E) : Cv Tryz.prog 82 #[x0, x1] w R E := by
 refine i7 (args := [x0, x1]) (c := c82) (h := h82) (rs := [.tmp 4]) Tryz.func82 (by kernel_rfl) (by kernel_rfl) (nB (by kernel_rfl)) (by kernel_rfl) (by kernel_rfl) (by kernel_rfl) ?_
 rw [← g6s]
 exact h
def F83 (x0 : Value) (w : World) (R : RT) (E : Pan) : Prop :=
 oP E (xV (Instr.box 59 x0)) w fun q7 w_2 =>
 oP E (xV (Instr.alloc 59 true (.tuple #[]))) w_2 fun Q8 w_4 =>
 dX w_4 fun w_5 =>
 qP Tryz.prog (fA 59 q7 2) fun d2g =>
 qP Tryz.prog (fA 59 q7 3) fun a5S =>
 qL Tryz.prog w_5 (blk d2g) (lA 51 d2g) fun e5T =>
 qL Tryz.prog w_5 (blk a5S) (lA 57 a5S) fun c9A =>
 oP E (xCall (fC 80) [e5T, (fC 81)]) w_5 fun d8w R7 =>
 keepX [(blk a5S)] w_5 R7 (qP Tryz.prog (fA 59 q7 2) fun c3K =>
 oP E (xCall (fC 82) [c9A, (fC 83)]) R7 fun b6M o8 =>
 keepX [] R7 o8 (opK Tryz.prog E (sA 51 c3K d8w) o8 fun _z_15 r5 =>
 keepX [] o8 r5 (qP Tryz.prog (fA 59 q7 3) fun b2L =>
 oP E (sA 57 b2L b6M) r5 fun _z_18 T2 =>
 keepX [] r5 T2 (opK Tryz.prog E (lA 59 q7) T2 fun g6u Z3 =>
 oP E (sA 59 Q8 g6u) Z3 fun _z_22 a0y =>
 xcell Tryz.prog 59 Q8 a0y fun e5h =>
 R e5h a0y))))
noncomputable def c83 : Code := Tryz.f83.body.getD .skip
def h83 : Hint := (sQ (.seq (.reg [(0, 8, 2), (1, 16, 8), (2, 32, 16), (0, 64, 2), (8, 128, 64), (20, 256, 128), (31, 512, 2), (127, 0, 544), (255, 1024, 2), (511, 0, 1280)] [18, 16, 16, 18, 2, 0, 18, 0, 18, 0] (.early 0 (.early 3 (.load 1 (.load 4 (.step 2 (.early 6 (.step 5 (.step 7 (.early 8 (.step 9 .done))))))))))) (sQ .none)))
theorem g6v (x0 : Value) (w : World) (R : RT) (E : Pan) : F83 x0 w R E = callX Tryz.prog [.cell 2 59] c83 h83 [x0] w R E := by kernel_rfl
theorem g6w {x0 : Value} (h : F83 x0 w R E) : Cv Tryz.prog 83 #[x0] w R E := by
 refine i7 (args := [x0]) (c := c83) (h := h83) (rs := [.cell 2 59]) Tryz.func83 (by kernel_rfl) (by kernel_rfl) (nB (by kernel_rfl)) (by kernel_rfl) (by kernel_rfl) (by kernel_rfl) ?_
 rw [← g6v]
 exact h
end Go.Proofs.YtnhkdkcgdcgmdaaGreatDoor
