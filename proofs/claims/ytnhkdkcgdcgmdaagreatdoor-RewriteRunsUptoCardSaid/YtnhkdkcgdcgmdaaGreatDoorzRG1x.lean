/- Which names a program has; the document's check of a program, its size, its names. The law TreeChecks. -/
import Derived.Test.YtnhkdkcgdcgmdaaGreatDoorProg
import Derived.KernelRfl
import Derived.Test.YtnhkdkcgdcgmdaaGreatDoorzRG1r
import Derived.Test.YtnhkdkcgdcgmdaaGreatDoorzRV1
import Derived.Test.YtnhkdkcgdcgmdaaGreatDoorzRK0
import Derived.Test.YtnhkdkcgdcgmdaaGreatDoorzRGz
namespace Go.Proofs.YtnhkdkcgdcgmdaaGreatDoor
open Go.RowKit
set_option maxRecDepth 100000
set_option maxHeartbeats 2000000
def namL (l : Lab) : List ByteArray := if (nameL l).2 = true then [(nameL l).1] else []
mutual
def nT : PT → List ByteArray
  | .mk l cs => namL l ++ nTs cs
def nTs : List PT → List ByteArray
  | [] => []
  | t :: ts => nT t ++ nTs ts
end
def putAll (l : List ByteArray) (xs : List ByteArray) : List ByteArray := xs.foldl putS l
theorem c5I (l a b : List ByteArray) : putAll l (a ++ b) = putAll (putAll l a) b := by unfold putAll; rw [List.foldl_append]
theorem e7y (v : V) (l : Lab) (d : Int) (h : (vMeet v l d).1 = true) : (vMeet v l d).2.ns = putAll v.ns (namL l) := by
  unfold vMeet at h ⊢
  unfold namL
  split at h
  · cases h
  · rename_i h1
    rw [if_neg h1]
    split at h
    · cases h
    · rename_i h2
      rw [if_neg h2]
      dsimp only
      split <;> rfl
mutual
theorem h5L : ∀ (t : PT) (d : Int) (v : V), (vT t d v).1 = true → (vT t d v).2.ns = putAll v.ns (nT t)
  | .mk l cs, d, v => by
    rw [vT, nT]
    by_cases hq : (vMeet v l d).1 = true
    · rw [if_pos hq]
      intro h
      rw [d3m cs (d + 1) _ h, e7y v l d hq, c5I]
    · rw [if_neg hq]; exact fun h => (hq h).elim
theorem d3m : ∀ (ts : List PT) (d : Int) (v : V), (vTs ts d v).1 = true → (vTs ts d v).2.ns = putAll v.ns (nTs ts)
  | [], d, v => by rw [vTs, nTs]; exact fun _ => rfl
  | t :: ts, d, v => by
    rw [vTs, nTs]
    by_cases hq : (vT t d v).1 = true
    · rw [if_pos hq]
      intro h
      rw [d3m ts d _ h, h5L t d v hq, c5I]
    · rw [if_neg hq]; exact fun h => (hq h).elim
end
abbrev Us := c4j
def useL : Lab → List Us
  | .decl _ _ => []
  | .cond .. => []
  | .expr k _ s _ => if (decide (k = 2) || decide (k = 4)) = true then [⟨s, decide (k = 4)⟩] else []
  | .stmt k s _ _ _ _ => if (decide (k = 1) || decide (k = 2)) = true then [⟨s, decide (k = 2)⟩] else []
mutual
def uT : PT → List Us
  | .mk l cs => useL l ++ uTs cs
def uTs : List PT → List Us
  | [] => []
  | t :: ts => uT t ++ uTs ts
end
theorem a4C : ∀ a b : List PT, uTs (a ++ b) = uTs a ++ uTs b
  | [], b => by rw [List.nil_append, uTs, List.nil_append]
  | t :: a, b => by rw [List.cons_append, uTs, uTs, a4C a b, List.append_assoc]
theorem e3d {ts : List PT} {i : Nat} {t : PT} (h : ts[i]? = some t) : uTs (ts.take (i + 1)) = uTs (ts.take i) ++ uT t := by
  rw [O9 h, a4C, uTs, uTs, List.append_nil]
theorem g7H (ts : List PT) (i : Nat) : (uTs (ts.take i)).length ≤ (uTs ts).length := by
  have := a4C (ts.take i) (ts.drop i)
  rw [List.take_append_drop] at this
  rw [this, List.length_append]; omega
theorem h5M {ts : List PT} {i : Nat} {t : PT} (h : ts[i]? = some t) : (uTs (ts.take i)).length + (uT t).length ≤ (uTs ts).length := by
  have := g7H ts (i + 1)
  rw [e3d h, List.length_append] at this; exact this
mutual
def cT : PT → Nat
  | .mk _ cs => 1 + cTs cs
def cTs : List PT → Nat
  | [] => 0
  | t :: ts => cT t + cTs ts
end
theorem a0A : ∀ a b : List PT, cTs (a ++ b) = cTs a + cTs b
  | [], b => by rw [List.nil_append, cTs, Nat.zero_add]
  | t :: a, b => by rw [List.cons_append, cTs, cTs, a0A a b, Nat.add_assoc]
theorem e7z (l : Lab) : (useL l).length ≤ 1 := by
  cases l <;> simp only [useL] <;> (try split) <;> simp
mutual
theorem g7I : ∀ t : PT, (uT t).length ≤ cT t
  | .mk l cs => by rw [uT, cT, List.length_append]; have := e7z l; have := c7o cs; omega
theorem c7o : ∀ ts : List PT, (uTs ts).length ≤ cTs ts
  | [] => by rw [uTs, cTs]; exact Nat.le_refl _
  | t :: ts => by rw [uTs, cTs, List.length_append]; have := g7I t; have := c7o ts; omega
end
mutual
theorem e3e : ∀ (t : PT) (d : Int) (s : W), (wT t d s).fbad = 0 → (wT t d s).fn = s.fn + cT t
  | .mk l cs, d, s, h => by
    rw [wT] at h ⊢
    rw [c7p cs _ _ h, cT]
    have hb : (wStep s d).fbad = 0 := by
      by_cases hq : (wStep s d).fbad = 0
      · exact hq
      · rw [a8n _ _ _ hq] at h; exact h
    unfold wStep at hb ⊢
    split at hb
    · rename_i h1
      rw [if_pos h1]
      split at hb
      · cases hb
      · rename_i h2
        rw [if_neg h2]
        split at hb
        · cases hb
        · rename_i h3
          rw [if_neg h3]; dsimp only; omega
    · rename_i h1; exact (h1 hb).elim
theorem c7p : ∀ (ts : List PT) (d : Int) (s : W), (wTs ts d s).fbad = 0 → (wTs ts d s).fn = s.fn + cTs ts
  | [], d, s, h => by rw [wTs, cTs]; simp
  | t :: ts, d, s, h => by
    rw [wTs] at h ⊢
    rw [c7p ts _ _ h, cTs]
    have hb : (wT t d s).fbad = 0 := by
      by_cases hq : (wT t d s).fbad = 0
      · exact hq
      · rw [a8n _ _ _ hq] at h; exact h
    rw [e3e t d s hb]; omega
end
theorem f4L {ts : List PT} (h : (wTs ts 1 w0S).fbad = 0) : cTs ts ≤ 4096 := by
  have h1 := c7p ts 1 w0S h
  have h2 := (d1L ts 1 w0S h4J).2
  have h3 : w0S.fn = 0 := rfl
  omega
inductive Nd : PT → Prop
  | mk {l : Lab} {cs : List PT} : (∀ z s, l ≠ .decl z s) → (∀ t ∈ cs, Nd t) → Nd (.mk l cs)
theorem b4p {α : Type} {R : α → PT → Prop} {xs : List α} {ts : List PT} (hl : xs.length = ts.length) (h : ∀ (i : Nat) (x : α) (t : PT), xs[i]? = some x → ts[i]? = some t → Nd t) : ∀ t ∈ ts, Nd t := fun t ht => by
  obtain ⟨i, hi⟩ := List.mem_iff_getElem?.1 ht
  obtain ⟨x, hx⟩ := B2 (l := xs) (i := i) (by rw [hl]; exact M1 hi)
  exact h i x t hx hi
theorem c5J {a b : List PT} (ha : ∀ t ∈ a, Nd t) (hb : ∀ t ∈ b, Nd t) : ∀ t ∈ a ++ b, Nd t := fun t h => (List.mem_append.1 h).elim (ha t) (hb t)
theorem EH.nd {H : Hp} {e : b6} {t : PT} (h : EH H e t) : Nd t := by
  induction h with
  | mk hs hb hl _ ih => exact .mk (fun z s e => by cases e) (b4p (R := EH H) hl ih)
theorem CH.nd {H : Hp} {e : b9} {t : PT} (h : CH H e t) : Nd t := by
  induction h with
  | mk hs hb hr hc hcb hl _ ih => exact .mk (fun z s e => by cases e) (c5J (b4p (R := EH H) hr.1 fun i x t a b => (hr.2 i x t a b).nd) (b4p (R := CH H) hl ih))
theorem SH.nd {H : Hp} {e : d5} {t : PT} (h : SH H e t) : Nd t := by
  induction h with
  | mk hs hb hr hc hcb hcr ha hab hal _ hbs hbb hbl _ ih1 ih2 =>
    exact .mk (fun z s e => by cases e) (c5J (b4p (R := CH H) hcr.1 fun i x t a b => (hcr.2 i x t a b).nd) (c5J (b4p (R := EH H) hr.1 fun i x t a b => (hr.2 i x t a b).nd) (c5J (b4p (R := SH H) hal ih1) (b4p (R := SH H) hbl ih2))))
section
variable {H : Hp}
theorem e7A {q : PP} (h : toldS q.nodes = 0) : (wTs q.nodes 1 w0S).fbad = 0 ∧ (allV q).1 = true ∧ (allV q).2.n = (wTs q.nodes 1 w0S).fn ∧ (allV q).2.d = (wTs q.nodes 1 w0S).fdepth ∧ (allV q).2.ns = putAll [] (nTs q.nodes) := by
  have hb : (wTs q.nodes 1 w0S).fbad = 0 := by
    unfold toldS at h
    by_cases hq : (wTs q.nodes 1 w0S).fbad = 0
    · exact hq
    · rw [if_neg hq] at h; exact h
  have hs := e9O q.nodes
  have hr : (allV q).1 = true := by
    cases hq : (allV q).1
    · obtain ⟨h1, h2⟩ := hs.2 hq
      omega
    · rfl
  obtain ⟨h1, _⟩ := hs.1 hr
  exact ⟨hb, hr, by rw [h1]; rfl, by rw [h1]; rfl, d3m q.nodes 1 v0 hr⟩
end
end Go.Proofs.YtnhkdkcgdcgmdaaGreatDoor
namespace Go.Proofs.YtnhkdkcgdcgmdaaGreatDoor
open Go.RowKit
set_option maxRecDepth 100000
set_option maxHeartbeats 2000000
mutual
def dpT (B : Int) : PT → Int → Prop
  | .mk _ cs, d => d ≤ B ∧ dpTs B cs (d + 1)
def dpTs (B : Int) : List PT → Int → Prop
  | [], _ => True
  | t :: ts, d => dpT B t d ∧ dpTs B ts d
end
variable {B : Int}
theorem a7a : ∀ (a b : List PT) (d : Int), dpTs B (a ++ b) d ↔ dpTs B a d ∧ dpTs B b d
  | [], b, d => by rw [List.nil_append, dpTs]; exact ⟨fun h => ⟨trivial, h⟩, fun h => h.2⟩
  | t :: a, b, d => by rw [List.cons_append, dpTs, dpTs, a7a a b, and_assoc]
theorem d9V {s : W} {d : Int} (hb : s.fbad = 0) (h2 : ¬ s.fn = 4096) (h3 : ¬ 64 < d) : wStep s d = ⟨s.fn + 1, if d > s.fdepth then d else s.fdepth, 0⟩ := by
  unfold wStep; rw [if_pos hb, if_neg h2, if_neg h3]
mutual
theorem e3f : ∀ (t : PT) (d : Int) (s : W), 0 ≤ s.fn → s.fn ≤ 4096 → s.fbad = 0 → ((wT t d s).fbad = 0 ↔ (s.fn + cT t ≤ 4096 ∧ dpT 64 t d))
  | .mk l cs, d, s, h0, h1, hb => by
    rw [wT, cT, dpT]
    by_cases h2 : s.fn = 4096
    · have : (wStep s d).fbad ≠ 0 := by unfold wStep; rw [if_pos hb, if_pos h2]; exact (by decide : (33 : Int) ≠ 0)
      rw [a8n _ _ _ this]
      exact ⟨fun e => (this e).elim, fun e => by omega⟩
    · by_cases h3 : 64 < d
      · have : (wStep s d).fbad ≠ 0 := by unfold wStep; rw [if_pos hb, if_neg h2, if_pos h3]; exact (by decide : (32 : Int) ≠ 0)
        rw [a8n _ _ _ this]
        exact ⟨fun e => (this e).elim, fun e => by omega⟩
      · rw [d9V hb h2 h3, c7q cs (d + 1) _ (by dsimp only; omega) (by dsimp only; omega) rfl]
        dsimp only
        constructor
        · rintro ⟨a, b⟩; exact ⟨by omega, by omega, b⟩
        · rintro ⟨a, b, c⟩; exact ⟨by omega, c⟩
theorem c7q : ∀ (ts : List PT) (d : Int) (s : W), 0 ≤ s.fn → s.fn ≤ 4096 → s.fbad = 0 → ((wTs ts d s).fbad = 0 ↔ (s.fn + cTs ts ≤ 4096 ∧ dpTs 64 ts d))
  | [], d, s, h0, h1, hb => by rw [wTs, cTs, dpTs]; exact ⟨fun _ => ⟨by omega, trivial⟩, fun _ => hb⟩
  | t :: ts, d, s, h0, h1, hb => by
    rw [wTs, cTs, dpTs]
    by_cases h2 : (wT t d s).fbad = 0
    · have hi := (e3f t d s h0 h1 hb).1 h2
      have hc := e3e t d s h2
      rw [c7q ts d _ (by omega) (by omega) h2, hc]
      constructor
      · rintro ⟨a, b⟩; exact ⟨by omega, hi.2, b⟩
      · rintro ⟨a, b, c⟩; exact ⟨by omega, c⟩
    · rw [a8n _ _ _ h2]
      have := mt (e3f t d s h0 h1 hb).2 h2
      exact ⟨fun e => (h2 e).elim, fun e => (this ⟨by omega, e.2.1⟩).elim⟩
end
theorem b4q (ts : List PT) : toldS ts = 0 ↔ (cTs ts ≤ 4096 ∧ dpTs 64 ts 1 ∧ formTs ts = true ∧ namesTs ts = true) := by
  have h := c7q ts 1 w0S (Int.le_refl _) (by decide) rfl
  have e0 : w0S.fn = 0 := rfl
  rw [e0] at h
  unfold toldS
  constructor
  · intro e
    split at e
    · rename_i hb
      have := h.1 hb
      split at e
      · rename_i hf
        split at e
        · rename_i hn; exact ⟨by omega, this.2, hf, hn⟩
        · cases e
      · cases e
    · rename_i hb; exact (hb e).elim
  · rintro ⟨a, b, c, d⟩
    rw [if_pos (h.2 ⟨by omega, b⟩), if_pos c, if_pos d]
end Go.Proofs.YtnhkdkcgdcgmdaaGreatDoor
namespace Go.Proofs.YtnhkdkcgdcgmdaaGreatDoor
open Go.RowKit
set_option maxRecDepth 100000
variable {w : World} {R : RT} {E : Pan}
def F25 (x0 : Value) (w : World) (R : RT) (E : Pan) : Prop :=
 oP E (xV (Instr.box 25 x0)) w fun r5 w_2 =>
 oP E (xV (Instr.alloc 25 true (.tuple #[]))) w_2 fun P9 w_4 =>
 oP E (lA 25 r5) w_4 fun b3x w_6 =>
 oP E (xCall (fC 24) [b3x]) w_6 fun a6f w_8 =>
 oP E (xBin .neq 27 (.tmp 7) (.const (vI 0)) a6f (vI 0)) w_8 fun a5t q7 =>
 xcond a5t
 (oP E (xV (Instr.build 25 #[])) q7 fun a5J q9 =>
 oP E (sA 25 P9 a5J) q9 fun _z_13 p9 =>
 xcell Tryz.prog 25 P9 p9 fun b1h =>
 R (Value.tuple #[b1h, a6f]) p9)
 (dX q7 fun s6 =>
 qP Tryz.prog (fA 25 r5 0) fun b6t =>
 qP Tryz.prog (fA 25 r5 1) fun d3n =>
 qL Tryz.prog s6 (blk b6t) (lA 22 b6t) fun b1O =>
 qL Tryz.prog s6 (blk d3n) (lA 23 d3n) fun c0u =>
 oP E (xCall (fC 44) [b1O]) s6 fun d2K y6 =>
 keepX [(blk d3n)] s6 y6 (opK Tryz.prog E (xCall (fC 45) [c0u, (fC 46)]) y6 fun d0N z6 =>
 keepX [] y6 z6 (qP Tryz.prog (xV (Instr.build 25 #[(0, d2K), (1, d0N)])) fun b9H =>
 oP E (sA 25 P9 b9H) z6 fun _z_26 Z6 =>
 keepX [] z6 Z6 (xcell Tryz.prog 25 P9 Z6 fun i0Z =>
 R (Value.tuple #[i0Z, (vI 0)]) Z6))))
noncomputable def c25 : Code := Tryz.f25.body.getD .skip
def h25 : Hint := (sQ (.seq (sQ (sQ (.cond (sQ .none) .none))) (.seq (.reg [(0, 2048, 2), (1, 4096, 2048), (2, 8192, 4096), (0, 16384, 2), (8, 32768, 16384), (20, 65536, 32768), (36, 131072, 73728), (127, 0, 131076), (255, 8, 0)] [18, 16, 16, 18, 2, 0, 18, 0, 18] (.early 0 (.early 3 (.load 1 (.load 4 (.step 2 (.step 5 (.early 6 (.step 7 (.early 8 .done)))))))))) .none)))
theorem g7J (x0 : Value) (w : World) (R : RT) (E : Pan) : F25 x0 w R E = callX Tryz.prog [.cell 2 25, .tmp 3] c25 h25 [x0] w R E := by kernel_rfl
theorem g7K {x0 : Value} (h : F25 x0 w R E) : Cv Tryz.prog 25 #[x0] w R E := by
 refine i6 (args := [x0]) (c := c25) (h := h25) (rs := [.cell 2 25, .tmp 3]) Tryz.func25 (by kernel_rfl) (by kernel_rfl) (nB (by kernel_rfl)) (by kernel_rfl) (by kernel_rfl) (by kernel_rfl) ?_
 rw [← g7J]
 exact h
def F44 (x0 : Value) (w : World) (R : RT) (E : Pan) : Prop :=
 oP E (xBin .eql 22 (.tmp 3) (.const (nS)) x0 (nS)) w fun b5y w_2 =>
 xcond b5y
 (R (nS) w_2)
 (oP E (xV (Instr.buildSlice 22 0 #[])) w_2 fun b2h w_4 =>
 oP E (xBuiltin .append #[22, 22] 22 [false, false] [b2h, x0]) w_4 fun a5v w_6 =>
 R a5v w_6)
noncomputable def c44 : Code := Tryz.f44.body.getD .skip
def h44 : Hint := (sQ (.seq (sQ (.cond (sQ .none) .none)) (sQ .none)))
theorem g7L (x0 : Value) (w : World) (R : RT) (E : Pan) : F44 x0 w R E = callX Tryz.prog [.tmp 2] c44 h44 [x0] w R E := by kernel_rfl
theorem g7M {x0 : Value} (h : F44 x0 w R E) : Cv Tryz.prog 44 #[x0] w R E := by
 refine i6 (args := [x0]) (c := c44) (h := h44) (rs := [.tmp 2]) Tryz.func44 (by kernel_rfl) (by kernel_rfl) (nB (by kernel_rfl)) (by kernel_rfl) (by kernel_rfl) (by kernel_rfl) ?_
 rw [← g7L]
 exact h
def d3o (x5 : Value) (w : World) (R : RT) (_E : Pan) : Prop :=
 ∀ _τ : Fr, (R x5 w)
def e3g (x1 x5 x8 x9 x10 : Value) (w : World) (next2 : NT) (j1 : NT) (_R : RT) (E : Pan) : Prop :=
 oP E (xBin .lss 3 (.tmp 10) (.tmp 9) x10 x9) w fun a5e w_6 =>
 xcond a5e
 (oP E (iA 23 x8 x10) w_6 fun a3k w_8 =>
 oP E (lA 73 a3k) w_8 fun a3l q7 =>
 oP E (xV (Instr.alloc 73 true (.tuple #[]))) q7 fun U6 q9 =>
 oP E (sA 73 U6 a3l) q9 fun _z_13 p9 =>
 oP E (lA 73 U6) p9 fun a3C s6 =>
 oP E (xCall x1 [a3C]) s6 fun a1N u5 =>
 oP E (xV (Instr.buildSlice 23 1 #[(0, a1N)])) u5 fun a1O u9 =>
 oP E (xBuiltin .append #[23, 23] 23 [false, false] [x5, a1O]) u9 fun a1P y6 =>
 oP E (xBin .add 3 (.tmp 10) (.const (vI 1)) x10 (vI 1)) y6 fun a1Q z6 =>
 next2 [a1P, a1Q] z6)
 (j1 [x5] w_6)
def F45 (x0 x1 : Value) (w : World) (R : RT) (E : Pan) : Prop :=
 xcut (fun l_1 w_2 => d3o (nth l_1 0) w_2 R E) fun j1 =>
 oP E (xBuiltin .len #[23] 3 [false] [x0]) w fun a0Q w_4 =>
 xloop [5, 10] [(nS), (vI 0)] w_4 fun τ_25 A6 next2 =>
 e3g x1 (τ_25 5) x0 a0Q (τ_25 10) A6 next2 j1 R E
noncomputable def c45 : Code := Tryz.f45.body.getD .skip
def h45 : Hint := (sQ (sQ (.cut [5] (sQ (.block (.loop [5, 10] (sQ (.seq (.cond .none .none) (.seq (.block (sQ .none)) .none)))))) (sQ .none))))
theorem g7N (x0 x1 : Value) (w : World) (R : RT) (E : Pan) : F45 x0 x1 w R E = callX Tryz.prog [.tmp 4] c45 h45 [x0, x1] w R E := by kernel_rfl
theorem g7O {x0 x1 : Value} (h : F45 x0 x1 w R E) : Cv Tryz.prog 45 #[x0, x1] w R E := by
 refine i6 (args := [x0, x1]) (c := c45) (h := h45) (rs := [.tmp 4]) Tryz.func45 (by kernel_rfl) (by kernel_rfl) (nB (by kernel_rfl)) (by kernel_rfl) (by kernel_rfl) (by kernel_rfl) ?_
 rw [← g7N]
 exact h
def F46 (x0 : Value) (w : World) (R : RT) (E : Pan) : Prop :=
 oP E (xV (Instr.box 73 x0)) w fun r5 w_2 =>
 oP E (xV (Instr.alloc 73 true (.tuple #[]))) w_2 fun P9 w_4 =>
 dX w_4 fun w_5 =>
 qP Tryz.prog (fA 73 r5 2) fun d3p =>
 qP Tryz.prog (fA 73 r5 3) fun a6f =>
 qL Tryz.prog w_5 (blk d3p) (lA 51 d3p) fun e7B =>
 qL Tryz.prog w_5 (blk a6f) (lA 57 a6f) fun d0F =>
 oP E (xCall (fC 80) [e7B, (fC 81)]) w_5 fun d9W R1 =>
 keepX [(blk a6f)] w_5 R1 (qP Tryz.prog (fA 73 r5 2) fun c4n =>
 oP E (xCall (fC 82) [d0F, (fC 83)]) R1 fun b7v p9 =>
 keepX [] R1 p9 (opK Tryz.prog E (sA 51 c4n d9W) p9 fun _z_15 s6 =>
 keepX [] p9 s6 (qP Tryz.prog (fA 73 r5 3) fun b3u =>
 oP E (sA 57 b3u b7v) s6 fun _z_18 Y6 =>
 keepX [] s6 Y6 (dX Y6 fun u9 =>
 qP Tryz.prog (fA 73 r5 4) fun c4p =>
 qP Tryz.prog (fA 73 r5 5) fun d3q =>
 qL Tryz.prog u9 (blk c4p) (lA 23 c4p) fun c9Z =>
 qL Tryz.prog u9 (blk d3q) (lA 23 d3q) fun d2q =>
 oP E (xCall (fC 45) [c9Z, (fC 46)]) u9 fun d0H A6 =>
 keepX [(blk d3q)] u9 A6 (qP Tryz.prog (fA 73 r5 4) fun c9U =>
 oP E (xCall (fC 45) [d2q, (fC 46)]) A6 fun g7P a6o =>
 keepX [] A6 a6o (opK Tryz.prog E (sA 23 c9U d0H) a6o fun _z_30 a7u =>
 keepX [] a6o a7u (qP Tryz.prog (fA 73 r5 5) fun g7Q =>
 oP E (sA 23 g7Q g7P) a7u fun _z_33 B3 =>
 keepX [] a7u B3 (opK Tryz.prog E (lA 73 r5) B3 fun g7R J0 =>
 oP E (sA 73 P9 g7R) J0 fun _z_37 I0 =>
 xcell Tryz.prog 73 P9 I0 fun i1a =>
 R i1a I0))))))))
noncomputable def c46 : Code := Tryz.f46.body.getD .skip
def h46 : Hint := (sQ (.seq (.reg [(0, 8, 2), (1, 16, 8), (2, 32, 16), (0, 64, 2), (8, 128, 64), (20, 256, 128), (31, 512, 2), (127, 0, 544), (255, 1024, 2), (511, 0, 1280)] [18, 16, 16, 18, 2, 0, 18, 0, 18, 0] (.early 0 (.early 3 (.load 1 (.load 4 (.step 2 (.early 6 (.step 5 (.step 7 (.early 8 (.step 9 .done))))))))))) (.seq (.reg [(0, 2048, 2), (1, 4096, 2048), (2, 8192, 4096), (0, 16384, 2), (8, 32768, 16384), (20, 65536, 32768), (31, 131072, 2), (127, 0, 139264), (255, 262144, 2), (511, 0, 327680)] [18, 16, 16, 18, 2, 0, 18, 0, 18, 0] (.early 0 (.early 3 (.load 1 (.load 4 (.step 2 (.early 6 (.step 5 (.step 7 (.early 8 (.step 9 .done))))))))))) (sQ .none))))
theorem g7S (x0 : Value) (w : World) (R : RT) (E : Pan) : F46 x0 w R E = callX Tryz.prog [.cell 2 73] c46 h46 [x0] w R E := by kernel_rfl
theorem g7T {x0 : Value} (h : F46 x0 w R E) : Cv Tryz.prog 46 #[x0] w R E := by
 refine i6 (args := [x0]) (c := c46) (h := h46) (rs := [.cell 2 73]) Tryz.func46 (by kernel_rfl) (by kernel_rfl) (nB (by kernel_rfl)) (by kernel_rfl) (by kernel_rfl) (by kernel_rfl) ?_
 rw [← g7S]
 exact h
def d3r (x5 : Value) (w : World) (R : RT) (_E : Pan) : Prop :=
 ∀ _τ : Fr, (R x5 w)
def e3h (x1 x5 x8 x9 x10 : Value) (w : World) (next2 : NT) (j1 : NT) (_R : RT) (E : Pan) : Prop :=
 oP E (xBin .lss 3 (.tmp 10) (.tmp 9) x10 x9) w fun a5e w_6 =>
 xcond a5e
 (oP E (iA 51 x8 x10) w_6 fun a3k w_8 =>
 oP E (lA 53 a3k) w_8 fun a3l q7 =>
 oP E (xV (Instr.alloc 53 true (.tuple #[]))) q7 fun U6 q9 =>
 oP E (sA 53 U6 a3l) q9 fun _z_13 p9 =>
 oP E (lA 53 U6) p9 fun a3C s6 =>
 oP E (xCall x1 [a3C]) s6 fun a1N u5 =>
 oP E (xV (Instr.buildSlice 51 1 #[(0, a1N)])) u5 fun a1O u9 =>
 oP E (xBuiltin .append #[51, 51] 51 [false, false] [x5, a1O]) u9 fun a1P y6 =>
 oP E (xBin .add 3 (.tmp 10) (.const (vI 1)) x10 (vI 1)) y6 fun a1Q z6 =>
 next2 [a1P, a1Q] z6)
 (j1 [x5] w_6)
def F80 (x0 x1 : Value) (w : World) (R : RT) (E : Pan) : Prop :=
 xcut (fun l_1 w_2 => d3r (nth l_1 0) w_2 R E) fun j1 =>
 oP E (xBuiltin .len #[51] 3 [false] [x0]) w fun a0Q w_4 =>
 xloop [5, 10] [(nS), (vI 0)] w_4 fun τ_25 A6 next2 =>
 e3h x1 (τ_25 5) x0 a0Q (τ_25 10) A6 next2 j1 R E
noncomputable def c80 : Code := Tryz.f80.body.getD .skip
def h80 : Hint := (sQ (sQ (.cut [5] (sQ (.block (.loop [5, 10] (sQ (.seq (.cond .none .none) (.seq (.block (sQ .none)) .none)))))) (sQ .none))))
theorem g7U (x0 x1 : Value) (w : World) (R : RT) (E : Pan) : F80 x0 x1 w R E = callX Tryz.prog [.tmp 4] c80 h80 [x0, x1] w R E := by kernel_rfl
theorem g7V {x0 x1 : Value} (h : F80 x0 x1 w R E) : Cv Tryz.prog 80 #[x0, x1] w R E := by
 refine i6 (args := [x0, x1]) (c := c80) (h := h80) (rs := [.tmp 4]) Tryz.func80 (by kernel_rfl) (by kernel_rfl) (nB (by kernel_rfl)) (by kernel_rfl) (by kernel_rfl) (by kernel_rfl) ?_
 rw [← g7U]
 exact h
def F81 (x0 : Value) (w : World) (R : RT) (E : Pan) : Prop :=
 oP E (xV (Instr.box 53 x0)) w fun r5 w_2 =>
 oP E (xV (Instr.alloc 53 true (.tuple #[]))) w_2 fun P9 w_4 =>
 oP E (fA 53 r5 3) w_4 fun b7w w_6 =>
 oP E (lA 51 b7w) w_6 fun d7i w_8 =>
 oP E (xCall (fC 80) [d7i, (fC 81)]) w_8 fun d9X q7 =>
 oP E (fA 53 r5 3) q7 fun h5N q9 =>
 oP E (sA 51 h5N d9X) q9 fun _z_13 p9 =>
 oP E (lA 53 r5) p9 fun c9e s6 =>
 oP E (sA 53 P9 c9e) s6 fun _z_17 u5 =>
 xcell Tryz.prog 53 P9 u5 fun e7C =>
 R e7C u5
noncomputable def c81 : Code := Tryz.f81.body.getD .skip
def h81 : Hint := (sQ (sQ (sQ .none)))
theorem g7W (x0 : Value) (w : World) (R : RT) (E : Pan) : F81 x0 w R E = callX Tryz.prog [.cell 2 53] c81 h81 [x0] w R E := by kernel_rfl
theorem g7X {x0 : Value} (h : F81 x0 w R E) : Cv Tryz.prog 81 #[x0] w R E := by
 refine i6 (args := [x0]) (c := c81) (h := h81) (rs := [.cell 2 53]) Tryz.func81 (by kernel_rfl) (by kernel_rfl) (nB (by kernel_rfl)) (by kernel_rfl) (by kernel_rfl) (by kernel_rfl) ?_
 rw [← g7W]
 exact h
def d3s (x5 : Value) (w : World) (R : RT) (_E : Pan) : Prop :=
 ∀ _τ : Fr, (R x5 w)
def e3i (x1 x5 x8 x9 x10 : Value) (w : World) (next2 : NT) (j1 : NT) (_R : RT) (E : Pan) : Prop :=
 oP E (xBin .lss 3 (.tmp 10) (.tmp 9) x10 x9) w fun a5e w_6 =>
 xcond a5e
 (oP E (iA 57 x8 x10) w_6 fun a3k w_8 =>
 oP E (lA 59 a3k) w_8 fun a3l q7 =>
 oP E (xV (Instr.alloc 59 true (.tuple #[]))) q7 fun U6 q9 =>
 oP E (sA 59 U6 a3l) q9 fun _z_13 p9 =>
 oP E (lA 59 U6) p9 fun a3C s6 =>
 oP E (xCall x1 [a3C]) s6 fun a1N u5 =>
 oP E (xV (Instr.buildSlice 57 1 #[(0, a1N)])) u5 fun a1O u9 =>
 oP E (xBuiltin .append #[57, 57] 57 [false, false] [x5, a1O]) u9 fun a1P y6 =>
 oP E (xBin .add 3 (.tmp 10) (.const (vI 1)) x10 (vI 1)) y6 fun a1Q z6 =>
 next2 [a1P, a1Q] z6)
 (j1 [x5] w_6)
def F82 (x0 x1 : Value) (w : World) (R : RT) (E : Pan) : Prop :=
 xcut (fun l_1 w_2 => d3s (nth l_1 0) w_2 R E) fun j1 =>
 oP E (xBuiltin .len #[57] 3 [false] [x0]) w fun a0Q w_4 =>
 xloop [5, 10] [(nS), (vI 0)] w_4 fun τ_25 A6 next2 =>
 e3i x1 (τ_25 5) x0 a0Q (τ_25 10) A6 next2 j1 R E
noncomputable def c82 : Code := Tryz.f82.body.getD .skip
def h82 : Hint := (sQ (sQ (.cut [5] (sQ (.block (.loop [5, 10] (sQ (.seq (.cond .none .none) (.seq (.block (sQ .none)) .none)))))) (sQ .none))))
theorem g7Y (x0 x1 : Value) (w : World) (R : RT) (E : Pan) : F82 x0 x1 w R E = callX Tryz.prog [.tmp 4] c82 h82 [x0, x1] w R E := by kernel_rfl
theorem g7Z {x0 x1 : Value} (h : F82 x0 x1 w R E) : Cv Tryz.prog 82 #[x0, x1] w R E := by
 refine i6 (args := [x0, x1]) (c := c82) (h := h82) (rs := [.tmp 4]) Tryz.func82 (by kernel_rfl) (by kernel_rfl) (nB (by kernel_rfl)) (by kernel_rfl) (by kernel_rfl) (by kernel_rfl) ?_
 rw [← g7Y]
 exact h
def F83 (x0 : Value) (w : World) (R : RT) (E : Pan) : Prop :=
 oP E (xV (Instr.box 59 x0)) w fun r5 w_2 =>
 oP E (xV (Instr.alloc 59 true (.tuple #[]))) w_2 fun P9 w_4 =>
 dX w_4 fun w_5 =>
 qP Tryz.prog (fA 59 r5 2) fun d3p =>
 qP Tryz.prog (fA 59 r5 3) fun a6f =>
 qL Tryz.prog w_5 (blk d3p) (lA 51 d3p) fun e7B =>
 qL Tryz.prog w_5 (blk a6f) (lA 57 a6f) fun d0F =>
 oP E (xCall (fC 80) [e7B, (fC 81)]) w_5 fun d9W R1 =>
 keepX [(blk a6f)] w_5 R1 (qP Tryz.prog (fA 59 r5 2) fun c4n =>
 oP E (xCall (fC 82) [d0F, (fC 83)]) R1 fun b7v p9 =>
 keepX [] R1 p9 (opK Tryz.prog E (sA 51 c4n d9W) p9 fun _z_15 s6 =>
 keepX [] p9 s6 (qP Tryz.prog (fA 59 r5 3) fun b3u =>
 oP E (sA 57 b3u b7v) s6 fun _z_18 Y6 =>
 keepX [] s6 Y6 (opK Tryz.prog E (lA 59 r5) Y6 fun g8a a0f =>
 oP E (sA 59 P9 g8a) a0f fun _z_22 a0R =>
 xcell Tryz.prog 59 P9 a0R fun e6I =>
 R e6I a0R))))
noncomputable def c83 : Code := Tryz.f83.body.getD .skip
def h83 : Hint := (sQ (.seq (.reg [(0, 8, 2), (1, 16, 8), (2, 32, 16), (0, 64, 2), (8, 128, 64), (20, 256, 128), (31, 512, 2), (127, 0, 544), (255, 1024, 2), (511, 0, 1280)] [18, 16, 16, 18, 2, 0, 18, 0, 18, 0] (.early 0 (.early 3 (.load 1 (.load 4 (.step 2 (.early 6 (.step 5 (.step 7 (.early 8 (.step 9 .done))))))))))) (sQ .none)))
theorem g8b (x0 : Value) (w : World) (R : RT) (E : Pan) : F83 x0 w R E = callX Tryz.prog [.cell 2 59] c83 h83 [x0] w R E := by kernel_rfl
theorem g8c {x0 : Value} (h : F83 x0 w R E) : Cv Tryz.prog 83 #[x0] w R E := by
 refine i6 (args := [x0]) (c := c83) (h := h83) (rs := [.cell 2 59]) Tryz.func83 (by kernel_rfl) (by kernel_rfl) (nB (by kernel_rfl)) (by kernel_rfl) (by kernel_rfl) (by kernel_rfl) ?_
 rw [← g8b]
 exact h
end Go.Proofs.YtnhkdkcgdcgmdaaGreatDoor
