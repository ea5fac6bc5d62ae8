/- The document's forms: which trees have theirs, which names are names; what it tells is what the program tells. The law TreeParts. -/
import Derived.Lib.TrimUEq
import Derived.Lib.ValidLaws
import Derived.Test.YtnhkdkcgdcgmdaaGreatDoorzRQo
import Derived.Test.YtnhkdkcgdcgmdaaGreatDoorzRV1z
import Derived.Test.YtnhkdkcgdcgmdaaGreatDoorProg
import Derived.KernelRfl
import Derived.Test.YtnhkdkcgdcgmdaaGreatDoorzRK0
import Derived.Test.YtnhkdkcgdcgmdaaGreatDoorzRGz
namespace Go.Proofs.YtnhkdkcgdcgmdaaGreatDoor
open Go.RowKit
set_option maxRecDepth 100000
set_option maxHeartbeats 2000000
def nameOk (l : Lab) : Bool := if (nameL l).2 = true then nameS (nameL l).1 else true
mutual
def formT : PT → Bool
  | .mk l cs => formL l && formTs cs
def formTs : List PT → Bool
  | [] => true
  | t :: ts => formT t && formTs ts
end
mutual
def namesT : PT → Bool
  | .mk l cs => nameOk l && namesTs cs
def namesTs : List PT → Bool
  | [] => true
  | t :: ts => namesT t && namesTs ts
end
theorem a6S : ∀ a b : List PT, formTs (a ++ b) = (formTs a && formTs b)
  | [], b => by rw [List.nil_append, formTs, Bool.true_and]
  | t :: a, b => by rw [List.cons_append, formTs, formTs, a6S a b, Bool.and_assoc]
theorem a5G : ∀ a b : List PT, namesTs (a ++ b) = (namesTs a && namesTs b)
  | [], b => by rw [List.nil_append, namesTs, Bool.true_and]
  | t :: a, b => by rw [List.cons_append, namesTs, namesTs, a5G a b, Bool.and_assoc]
abbrev Fm := c2y
def FR (f : Fm) (a b : Bool) (y : Fm) : Prop := y.fok = (f.fok && a) ∧ (y.fok = true → y.fnames = (f.fnames && b))
theorem FR.refl (f : Fm) : FR f true true f := ⟨(Bool.and_true _).symm, fun _ => (Bool.and_true _).symm⟩
theorem FR.trans {f g y : Fm} {a b a' b' : Bool} (h : FR f a b g) (h' : FR g a' b' y) : FR f (a && a') (b && b') y := by
  refine ⟨by rw [h'.1, h.1, Bool.and_assoc], fun hy => ?_⟩
  have hg : g.fok = true := by rw [h'.1] at hy; exact (Bool.and_eq_true_iff.1 hy).1
  rw [h'.2 hy, h.2 hg, Bool.and_assoc]
section
variable {H : Hp}
def toldS (ts : List PT) : Int := if (wTs ts 1 w0S).fbad = 0 then (if formTs ts = true then (if namesTs ts = true then 0 else 31) else 30) else (wTs ts 1 w0S).fbad
theorem h4J : wok w0S := ⟨by decide, by decide⟩
end
def fmR (v : V) (a b : Bool) (r : Bool × V) : Prop := r.1 = true → r.2.f = (v.f || !a) ∧ r.2.m = (v.m || !b)
theorem f2X (v : V) (l : Lab) (d : Int) : fmR v (formL l) (nameOk l) (vMeet v l d) := by
  unfold vMeet fmR nameOk
  intro h
  split at h
  · cases h
  · rename_i h1
    rw [if_neg h1]
    split at h
    · cases h
    · rename_i h2
      rw [if_neg h2]
      refine ⟨rfl, ?_⟩
      dsimp only
      cases (nameL l).2
      · simp
      · simp
mutual
theorem h9z : ∀ (t : PT) (d : Int) (v : V), fmR v (formT t) (namesT t) (vT t d v)
  | .mk l cs, d, v => by
    have hm := f2X v l d
    rw [vT, formT, namesT]
    by_cases hq : (vMeet v l d).1 = true
    · rw [if_pos hq]
      intro h
      have h1 := hm hq
      have h2 := d8r cs (d + 1) _ h
      rw [h2.1, h2.2, h1.1, h1.2]
      cases v.f <;> cases v.m <;> cases formL l <;> cases nameOk l <;> cases formTs cs <;> cases namesTs cs <;> exact ⟨rfl, rfl⟩
    · rw [if_neg hq]; exact fun h => (hq h).elim
theorem d8r : ∀ (ts : List PT) (d : Int) (v : V), fmR v (formTs ts) (namesTs ts) (vTs ts d v)
  | [], d, v => by
    rw [vTs, formTs, namesTs]
    intro _
    dsimp only
    cases v.f <;> cases v.m <;> exact ⟨rfl, rfl⟩
  | t :: ts, d, v => by
    have hm := h9z t d v
    rw [vTs, formTs, namesTs]
    by_cases hq : (vT t d v).1 = true
    · rw [if_pos hq]
      intro h
      have h1 := hm hq
      have h2 := d8r ts d _ h
      rw [h2.1, h2.2, h1.1, h1.2]
      cases v.f <;> cases v.m <;> cases formT t <;> cases namesT t <;> cases formTs ts <;> cases namesTs ts <;> exact ⟨rfl, rfl⟩
    · rw [if_neg hq]; exact fun h => (hq h).elim
end
theorem c1u (ts : List PT) : vEnd (vTs ts 1 v0) = toldS ts := by
  have hs := e9O ts
  have hf := d8r ts 1 v0
  unfold toldS vEnd
  generalize vTs ts 1 v0 = r at hs hf ⊢
  generalize wTs ts 1 w0S = s at hs ⊢
  by_cases hq : r.1 = true
  · obtain ⟨h1, h2, _⟩ := hs.1 hq
    obtain ⟨h3, h4⟩ := hf hq
    rw [if_pos hq, h1, h2, h3, h4, if_pos rfl]
    cases formTs ts <;> cases namesTs ts <;> rfl
  · obtain ⟨h1, h2⟩ := hs.2 (Bool.eq_false_iff.2 hq)
    rw [if_neg hq, h1, if_neg (by omega)]
section
variable {H : Hp}
theorem f2Y (hT : TabsH H) {e : b9} {t : PT} (he : CH H e t) (hsm : Sm t) {K : Int → Hp → Prop} (h : ∀ H', Hle H H' → K (vEnd (vTs [t] 1 v0)) H') : a7I e H K := by
  refine c0i _ ?_
  unfold a5n
  intro s H1 l1 hS hc
  refine c0h (hT.le l1) hS (ts := [t]) (y8.one (CH.le l1 he)) (by simp [big]) (fun u hu => by rw [List.mem_singleton.1 hu]; exact hsm) fun sl H2 l2 hS2 => h H2 (l1.trans l2)
end
end Go.Proofs.YtnhkdkcgdcgmdaaGreatDoor
namespace Go.Proofs.YtnhkdkcgdcgmdaaGreatDoor
open Go.RowKit
set_option maxRecDepth 100000
variable {w : World} {R : RT} {E : Pan}
def F73 (x0 x1 x2 : Value) (w : World) (R : RT) (E : Pan) : Prop :=
 oP E (xBin .lss 3 (.tmp 7) (.const (vI 1)) x0 (vI 1)) w fun b9u w_2 =>
 oP E (gsem (asB b9u) false (xBin .gtr 3 (.tmp 10) (.const (vI 6)) (gval (asB b9u) false x0) (vI 6))) w_2 fun a4h w_4 =>
 oP E (xPick b9u (vB true) a4h) w_4 fun a9Z w_6 =>
 xcond a9Z
 (R (vB false) w_6)
 (oP E (xCall (fC 118) []) w_6 fun b0a w_8 =>
 oP E (xV (Instr.index 177 b0a x0)) w_8 fun b4Y q7 =>
 oP E (xCall b4Y [x1, x2]) q7 fun d1S q9 =>
 R d1S q9)
noncomputable def c73 : Code := Tryz.f73.body.getD .skip
def h73 : Hint := (sQ (.seq (sQ (.cond (sQ .none) .none)) (sQ .none)))
theorem g2v (x0 x1 x2 : Value) (w : World) (R : RT) (E : Pan) : F73 x0 x1 x2 w R E = callX Tryz.prog [.tmp 6] c73 h73 [x0, x1, x2] w R E := by kernel_rfl
theorem g2w {x0 x1 x2 : Value} (h : F73 x0 x1 x2 w R E) : Cv Tryz.prog 73 #[x0, x1, x2] w R E := by
 refine i6 (args := [x0, x1, x2]) (c := c73) (h := h73) (rs := [.tmp 6]) Tryz.func73 (by kernel_rfl) (by kernel_rfl) (nB (by kernel_rfl)) (by kernel_rfl) (by kernel_rfl) (by kernel_rfl) ?_
 rw [← g2v]
 exact h
def d8s (x0 : Value) (w : World) (R : RT) (E : Pan) : Prop :=
 oP E (xCall (fC 114) [(vI 0), x0]) w fun c2B w_2 =>
 oP E (eX c2B 0) w_2 fun a7n w_4 =>
 oP E (eX c2B 1) w_4 fun a5v w_6 =>
 R (Value.tuple #[a7n, a5v]) w_6
noncomputable def g2x : Code := Tryz.f112.body.getD .skip
def g2y : Hint := (sQ (sQ .none))
theorem f2Z (x0 : Value) (w : World) (R : RT) (E : Pan) : d8s x0 w R E = callX Tryz.prog [.tmp 2, .tmp 3] g2x g2y [x0] w R E := by kernel_rfl
theorem f3a {x0 : Value} (h : d8s x0 w R E) : Cv Tryz.prog 112 #[x0] w R E := by
 refine i6 (args := [x0]) (c := g2x) (h := g2y) (rs := [.tmp 2, .tmp 3]) Tryz.func112 (by kernel_rfl) (by kernel_rfl) (nB (by kernel_rfl)) (by kernel_rfl) (by kernel_rfl) (by kernel_rfl) ?_
 rw [← f2Z]
 exact h
def d8t (x0 x1 : Value) (w : World) (R : RT) (E : Pan) : Prop :=
 oP E (xBin .add 2 (.tmp 7) (.tmp 8) x0 x1) w fun b3Y w_2 =>
 oP E (xBin .lss 2 (.tmp 10) (.const (vI 0)) x0 (vI 0)) w_2 fun a4h w_4 =>
 oP E (xBin .lss 2 (.tmp 12) (.const (vI 0)) x1 (vI 0)) w_4 fun a8o w_6 =>
 oP E (xBin .eql 4 (.tmp 11) (.tmp 13) a4h a8o) w_6 fun a3o w_8 =>
 oP E (gsem (asB a3o) true (xBin .lss 2 (.tmp 16) (.const (vI 0)) (gval (asB a3o) true b3Y) (vI 0))) w_8 fun c4P q7 =>
 oP E (gsem (asB a3o) true (xBin .lss 2 (.tmp 18) (.const (vI 0)) (gval (asB a3o) true x0) (vI 0))) q7 fun a8O q9 =>
 oP E (gsem (asB a3o) true (xBin .neq 4 (.tmp 17) (.tmp 19) c4P a8O)) q9 fun b0p p9 =>
 oP E (xPick a3o b0p (vB false)) p9 fun c0j s6 =>
 xcond c0j
 (R (Value.tuple #[(vI 0), (vI 1)]) s6)
 (R (Value.tuple #[b3Y, (vI 0)]) s6)
noncomputable def g2z : Code := Tryz.f113.body.getD .skip
def g2A : Hint := (sQ (sQ (.seq (sQ (.cond (sQ .none) .none)) (sQ .none))))
theorem f3b (x0 x1 : Value) (w : World) (R : RT) (E : Pan) : d8t x0 x1 w R E = callX Tryz.prog [.tmp 4, .tmp 5] g2z g2A [x0, x1] w R E := by kernel_rfl
theorem f3c {x0 x1 : Value} (h : d8t x0 x1 w R E) : Cv Tryz.prog 113 #[x0, x1] w R E := by
 refine i6 (args := [x0, x1]) (c := g2z) (h := g2A) (rs := [.tmp 4, .tmp 5]) Tryz.func113 (by kernel_rfl) (by kernel_rfl) (nB (by kernel_rfl)) (by kernel_rfl) (by kernel_rfl) (by kernel_rfl) ?_
 rw [← f3b]
 exact h
def d8u (x0 x1 : Value) (w : World) (R : RT) (E : Pan) : Prop :=
 oP E (xBin .sub 2 (.tmp 7) (.tmp 8) x0 x1) w fun b3Y w_2 =>
 oP E (xBin .lss 2 (.tmp 10) (.const (vI 0)) x0 (vI 0)) w_2 fun a4h w_4 =>
 oP E (xBin .lss 2 (.tmp 12) (.const (vI 0)) x1 (vI 0)) w_4 fun a8o w_6 =>
 oP E (xBin .neq 4 (.tmp 11) (.tmp 13) a4h a8o) w_6 fun a3o w_8 =>
 oP E (gsem (asB a3o) true (xBin .lss 2 (.tmp 16) (.const (vI 0)) (gval (asB a3o) true b3Y) (vI 0))) w_8 fun c4P q7 =>
 oP E (gsem (asB a3o) true (xBin .lss 2 (.tmp 18) (.const (vI 0)) (gval (asB a3o) true x0) (vI 0))) q7 fun a8O q9 =>
 oP E (gsem (asB a3o) true (xBin .neq 4 (.tmp 17) (.tmp 19) c4P a8O)) q9 fun b0p p9 =>
 oP E (xPick a3o b0p (vB false)) p9 fun c0j s6 =>
 xcond c0j
 (R (Value.tuple #[(vI 0), (vI 1)]) s6)
 (R (Value.tuple #[b3Y, (vI 0)]) s6)
noncomputable def g2B : Code := Tryz.f114.body.getD .skip
def g2C : Hint := (sQ (sQ (.seq (sQ (.cond (sQ .none) .none)) (sQ .none))))
theorem f3d (x0 x1 : Value) (w : World) (R : RT) (E : Pan) : d8u x0 x1 w R E = callX Tryz.prog [.tmp 4, .tmp 5] g2B g2C [x0, x1] w R E := by kernel_rfl
theorem f3e {x0 x1 : Value} (h : d8u x0 x1 w R E) : Cv Tryz.prog 114 #[x0, x1] w R E := by
 refine i6 (args := [x0, x1]) (c := g2B) (h := g2C) (rs := [.tmp 4, .tmp 5]) Tryz.func114 (by kernel_rfl) (by kernel_rfl) (nB (by kernel_rfl)) (by kernel_rfl) (by kernel_rfl) (by kernel_rfl) ?_
 rw [← f3d]
 exact h
def c6Z (x0 x1 x6 x7 x8 : Value) (w : World) (R : RT) (E : Pan) : Prop :=
 ∀ _τ : Fr, (oP E (xBin .neq 200 (.tmp 24) (.const (Value.int .u64 0)) x6 (Value.int .u64 0)) w fun c4Q q9 =>
 oP E (gsem (asB c4Q) false (xBin .gtr 200 (.tmp 27) (.tmp 28) (gval (asB c4Q) false x7) (gval (asB c4Q) false x8))) q9 fun d1T p9 =>
 oP E (xPick c4Q (vB true) d1T) p9 fun c4R s6 =>
 xcond c4R
 (R (Value.tuple #[(vI 0), (vI 1)]) s6)
 (oP E (xBin .mul 2 (.tmp 31) (.tmp 32) x0 x1) s6 fun d1U u5 =>
 R (Value.tuple #[d1U, (vI 0)]) u5))
def d8v (x0 x1 : Value) (w : World) (R : RT) (E : Pan) : Prop :=
 oP E (xCall (fC 147) [x0]) w fun d8w w_2 =>
 oP E (xCall (fC 147) [x1]) w_2 fun d8x w_4 =>
 oP E (xCall (fC 146) [d8w, d8x]) w_4 fun e9P w_6 =>
 oP E (eX e9P 0) w_6 fun c4S w_8 =>
 oP E (eX e9P 1) w_8 fun c4T q7 =>
 xcut (fun a6b u9 => c6Z x0 x1 c4S c4T (nth a6b 0) u9 R E) fun j1 =>
 oP E (xBin .lss 2 (.tmp 17) (.const (vI 0)) x0 (vI 0)) q7 fun g2D y6 =>
 oP E (xBin .lss 2 (.tmp 19) (.const (vI 0)) x1 (vI 0)) y6 fun a1Q z6 =>
 oP E (xBin .neq 4 (.tmp 18) (.tmp 20) g2D a1Q) z6 fun g2E A6 =>
 xcond g2E
 (oP E (xBin .add 200 (.tmp 22) (.const (Value.int .u64 1)) (Value.int .u64 9223372036854775807) (Value.int .u64 1)) A6 fun b3Z D8 =>
 j1 [b3Z] D8)
 (j1 [(Value.int .u64 9223372036854775807)] A6)
noncomputable def g2F : Code := Tryz.f115.body.getD .skip
def g2G : Hint := (sQ (sQ (sQ (.cut [8] (sQ (.cond .none .none)) (.seq (sQ (.cond (sQ .none) .none)) (sQ .none))))))
theorem f3f (x0 x1 : Value) (w : World) (R : RT) (E : Pan) : d8v x0 x1 w R E = callX Tryz.prog [.tmp 4, .tmp 5] g2F g2G [x0, x1] w R E := by kernel_rfl
theorem f3g {x0 x1 : Value} (h : d8v x0 x1 w R E) : Cv Tryz.prog 115 #[x0, x1] w R E := by
 refine i6 (args := [x0, x1]) (c := g2F) (h := g2G) (rs := [.tmp 4, .tmp 5]) Tryz.func115 (by kernel_rfl) (by kernel_rfl) (nB (by kernel_rfl)) (by kernel_rfl) (by kernel_rfl) (by kernel_rfl) ?_
 rw [← f3f]
 exact h
def d8y (x0 x1 : Value) (w : World) (R : RT) (E : Pan) : Prop :=
 oP E (xCall (fC 148) [x0, x1]) w fun b3Y w_2 =>
 oP E (xBin .neq 3 (.tmp 10) (.const (vI 0)) b3Y (vI 0)) w_2 fun a4h w_4 =>
 xcond a4h
 (R (Value.tuple #[(vI 0), b3Y]) w_4)
 (oP E (xBin .quo 2 (.tmp 13) (.tmp 14) x0 x1) w_4 fun c4U w_6 =>
 R (Value.tuple #[c4U, (vI 0)]) w_6)
noncomputable def g2H : Code := Tryz.f116.body.getD .skip
def g2I : Hint := (sQ (.seq (sQ (sQ (.cond (sQ .none) .none))) (sQ .none)))
theorem f3h (x0 x1 : Value) (w : World) (R : RT) (E : Pan) : d8y x0 x1 w R E = callX Tryz.prog [.tmp 4, .tmp 5] g2H g2I [x0, x1] w R E := by kernel_rfl
theorem f3i {x0 x1 : Value} (h : d8y x0 x1 w R E) : Cv Tryz.prog 116 #[x0, x1] w R E := by
 refine i6 (args := [x0, x1]) (c := g2H) (h := g2I) (rs := [.tmp 4, .tmp 5]) Tryz.func116 (by kernel_rfl) (by kernel_rfl) (nB (by kernel_rfl)) (by kernel_rfl) (by kernel_rfl) (by kernel_rfl) ?_
 rw [← f3h]
 exact h
def d8z (x0 x1 : Value) (w : World) (R : RT) (E : Pan) : Prop :=
 oP E (xCall (fC 148) [x0, x1]) w fun b3Y w_2 =>
 oP E (xBin .neq 3 (.tmp 10) (.const (vI 0)) b3Y (vI 0)) w_2 fun a4h w_4 =>
 xcond a4h
 (R (Value.tuple #[(vI 0), b3Y]) w_4)
 (oP E (xBin .rem 2 (.tmp 13) (.tmp 14) x0 x1) w_4 fun c4U w_6 =>
 R (Value.tuple #[c4U, (vI 0)]) w_6)
noncomputable def g2J : Code := Tryz.f117.body.getD .skip
def g2K : Hint := (sQ (.seq (sQ (sQ (.cond (sQ .none) .none))) (sQ .none)))
theorem f3j (x0 x1 : Value) (w : World) (R : RT) (E : Pan) : d8z x0 x1 w R E = callX Tryz.prog [.tmp 4, .tmp 5] g2J g2K [x0, x1] w R E := by kernel_rfl
theorem f3k {x0 x1 : Value} (h : d8z x0 x1 w R E) : Cv Tryz.prog 117 #[x0, x1] w R E := by
 refine i6 (args := [x0, x1]) (c := g2J) (h := g2K) (rs := [.tmp 4, .tmp 5]) Tryz.func117 (by kernel_rfl) (by kernel_rfl) (nB (by kernel_rfl)) (by kernel_rfl) (by kernel_rfl) (by kernel_rfl) ?_
 rw [← f3j]
 exact h
def d8A (w : World) (R : RT) (E : Pan) : Prop :=
 oP E (xV (Instr.alloc 177 true (.tuple #[]))) w fun g2L w_2 =>
 oP E (xV (Instr.build 177 #[(0, (fC 149)), (1, (fC 150)), (2, (fC 151)), (3, (fC 152)), (4, (fC 153)), (5, (fC 154)), (6, (fC 155))])) w_2 fun h9A w_4 =>
 oP E (sA 177 g2L h9A) w_4 fun _z_5 w_6 =>
 xcell Tryz.prog 177 g2L w_6 fun r_7 =>
 R r_7 w_6
noncomputable def g2M : Code := Tryz.f118.body.getD .skip
def g2N : Hint := (sQ (sQ .none))
theorem f3l (w : World) (R : RT) (E : Pan) : d8A  w R E = callX Tryz.prog [.cell 0 177] g2M g2N [] w R E := by kernel_rfl
theorem f3m (h : d8A  w R E) : Cv Tryz.prog 118 #[] w R E := by
 refine i6 (args := []) (c := g2M) (h := g2N) (rs := [.cell 0 177]) Tryz.func118 (by kernel_rfl) (by kernel_rfl) (Nat.zero_le _) (by kernel_rfl) (by kernel_rfl) (by kernel_rfl) ?_
 rw [← f3l]
 exact h
def d8B (x0 x1 : Value) (w : World) (R : RT) (E : Pan) : Prop :=
 oP E (xBin .and 200 (.tmp 14) (.const (Value.int .u64 4294967295)) x0 (Value.int .u64 4294967295)) w fun e9Q w_2 =>
 oP E (xBin .shr 200 (.tmp 16) (.const (Value.int .u64 32)) x0 (Value.int .u64 32)) w_2 fun c8G w_4 =>
 oP E (xBin .and 200 (.tmp 18) (.const (Value.int .u64 4294967295)) x1 (Value.int .u64 4294967295)) w_4 fun e9R w_6 =>
 oP E (xBin .shr 200 (.tmp 20) (.const (Value.int .u64 32)) x1 (Value.int .u64 32)) w_6 fun c1v w_8 =>
 oP E (xBin .mul 200 (.tmp 22) (.tmp 23) e9Q e9R) w_8 fun h4K q7 =>
 oP E (xBin .mul 200 (.tmp 25) (.tmp 26) c8G e9R) q7 fun g2O q9 =>
 oP E (xBin .shr 200 (.tmp 28) (.const (Value.int .u64 32)) h4K (Value.int .u64 32)) q9 fun d1T p9 =>
 oP E (xBin .add 200 (.tmp 27) (.tmp 29) g2O d1T) p9 fun c4R s6 =>
 oP E (xBin .and 200 (.tmp 31) (.const (Value.int .u64 4294967295)) c4R (Value.int .u64 4294967295)) s6 fun g2P u5 =>
 oP E (xBin .shr 200 (.tmp 33) (.const (Value.int .u64 32)) c4R (Value.int .u64 32)) u5 fun g2Q u9 =>
 oP E (xBin .mul 200 (.tmp 36) (.tmp 37) e9Q c1v) u9 fun g2R y6 =>
 oP E (xBin .add 200 (.tmp 35) (.tmp 38) g2P g2R) y6 fun g2S z6 =>
 oP E (xBin .mul 200 (.tmp 40) (.tmp 41) c8G c1v) z6 fun g2T A6 =>
 oP E (xBin .add 200 (.tmp 42) (.tmp 43) g2T g2Q) A6 fun g2U D8 =>
 oP E (xBin .shr 200 (.tmp 45) (.const (Value.int .u64 32)) g2S (Value.int .u64 32)) D8 fun g2V K1 =>
 oP E (xBin .add 200 (.tmp 44) (.tmp 46) g2U g2V) K1 fun g2W B7 =>
 oP E (xBin .mul 200 (.tmp 48) (.tmp 49) x0 x1) B7 fun g2X B3 =>
 R (Value.tuple #[g2W, g2X]) B3
noncomputable def g2Y : Code := Tryz.f146.body.getD .skip
def g2Z : Hint := (sQ (sQ (sQ (sQ (sQ (sQ (sQ (sQ (sQ (sQ (sQ (sQ .none))))))))))))
theorem f3n (x0 x1 : Value) (w : World) (R : RT) (E : Pan) : d8B x0 x1 w R E = callX Tryz.prog [.tmp 4, .tmp 5] g2Y g2Z [x0, x1] w R E := by kernel_rfl
theorem f3o {x0 x1 : Value} (h : d8B x0 x1 w R E) : Cv Tryz.prog 146 #[x0, x1] w R E := by
 refine i6 (args := [x0, x1]) (c := g2Y) (h := g2Z) (rs := [.tmp 4, .tmp 5]) Tryz.func146 (by kernel_rfl) (by kernel_rfl) (nB (by kernel_rfl)) (by kernel_rfl) (by kernel_rfl) (by kernel_rfl) ?_
 rw [← f3n]
 exact h
def d8C (x0 : Value) (w : World) (R : RT) (E : Pan) : Prop :=
 oP E (xBin .lss 2 (.tmp 3) (.const (vI 0)) x0 (vI 0)) w fun b5y w_2 =>
 xcond b5y
 (oP E (xV (convert 2 200 x0)) w_2 fun a7n w_4 =>
 oP E (xV (Op.unary .neg a7n)) w_4 fun a5v w_6 =>
 R a5v w_6)
 (oP E (xV (convert 2 200 x0)) w_2 fun d1V w_8 =>
 R d1V w_8)
noncomputable def g3a : Code := Tryz.f147.body.getD .skip
def g3b : Hint := (sQ (.seq (sQ (.cond (sQ .none) .none)) (sQ .none)))
theorem f3p (x0 : Value) (w : World) (R : RT) (E : Pan) : d8C x0 w R E = callX Tryz.prog [.tmp 2] g3a g3b [x0] w R E := by kernel_rfl
theorem f3q {x0 : Value} (h : d8C x0 w R E) : Cv Tryz.prog 147 #[x0] w R E := by
 refine i6 (args := [x0]) (c := g3a) (h := g3b) (rs := [.tmp 2]) Tryz.func147 (by kernel_rfl) (by kernel_rfl) (nB (by kernel_rfl)) (by kernel_rfl) (by kernel_rfl) (by kernel_rfl) ?_
 rw [← f3p]
 exact h
def d8D (x0 x1 : Value) (w : World) (R : RT) (E : Pan) : Prop :=
 oP E (xBin .eql 2 (.tmp 6) (.const (vI 0)) x1 (vI 0)) w fun a5u w_2 =>
 xcond a5u
 (R (vI 2) w_2)
 (oP E (xBin .eql 2 (.tmp 9) (.const (vI (-9223372036854775808))) x0 (vI (-9223372036854775808))) w_2 fun b7x w_4 =>
 oP E (gsem (asB b7x) true (xBin .eql 2 (.tmp 12) (.const (vI (-1))) (gval (asB b7x) true x1) (vI (-1)))) w_4 fun a8o w_6 =>
 oP E (xPick b7x a8o (vB false)) w_6 fun a3o w_8 =>
 xcond a3o
 (R (vI 1) w_8)
 (R (vI 0) w_8))
noncomputable def g3c : Code := Tryz.f148.body.getD .skip
def g3d : Hint := (sQ (.seq (.block (sQ (.cond (sQ .none) (sQ (.cond (sQ .none) .none))))) (sQ .none)))
theorem f3r (x0 x1 : Value) (w : World) (R : RT) (E : Pan) : d8D x0 x1 w R E = callX Tryz.prog [.tmp 4] g3c g3d [x0, x1] w R E := by kernel_rfl
theorem f3s {x0 x1 : Value} (h : d8D x0 x1 w R E) : Cv Tryz.prog 148 #[x0, x1] w R E := by
 refine i6 (args := [x0, x1]) (c := g3c) (h := g3d) (rs := [.tmp 4]) Tryz.func148 (by kernel_rfl) (by kernel_rfl) (nB (by kernel_rfl)) (by kernel_rfl) (by kernel_rfl) (by kernel_rfl) ?_
 rw [← f3r]
 exact h
def d8E (x0 x1 : Value) (w : World) (R : RT) (E : Pan) : Prop :=
 oP E (xBin .lss 2 (.tmp 5) (.tmp 6) x0 x1) w fun a5u w_2 =>
 R a5u w_2
noncomputable def g3e : Code := Tryz.f150.body.getD .skip
def g3f : Hint := (sQ (sQ .none))
theorem f3t (x0 x1 : Value) (w : World) (R : RT) (E : Pan) : d8E x0 x1 w R E = callX Tryz.prog [.tmp 4] g3e g3f [x0, x1] w R E := by kernel_rfl
theorem f3u {x0 x1 : Value} (h : d8E x0 x1 w R E) : Cv Tryz.prog 150 #[x0, x1] w R E := by
 refine i6 (args := [x0, x1]) (c := g3e) (h := g3f) (rs := [.tmp 4]) Tryz.func150 (by kernel_rfl) (by kernel_rfl) (nB (by kernel_rfl)) (by kernel_rfl) (by kernel_rfl) (by kernel_rfl) ?_
 rw [← f3t]
 exact h
def d8F (x0 x1 : Value) (w : World) (R : RT) (E : Pan) : Prop :=
 oP E (xBin .leq 2 (.tmp 5) (.tmp 6) x0 x1) w fun a5u w_2 =>
 R a5u w_2
noncomputable def g3g : Code := Tryz.f151.body.getD .skip
def g3h : Hint := (sQ (sQ .none))
theorem f3v (x0 x1 : Value) (w : World) (R : RT) (E : Pan) : d8F x0 x1 w R E = callX Tryz.prog [.tmp 4] g3g g3h [x0, x1] w R E := by kernel_rfl
theorem f3w {x0 x1 : Value} (h : d8F x0 x1 w R E) : Cv Tryz.prog 151 #[x0, x1] w R E := by
 refine i6 (args := [x0, x1]) (c := g3g) (h := g3h) (rs := [.tmp 4]) Tryz.func151 (by kernel_rfl) (by kernel_rfl) (nB (by kernel_rfl)) (by kernel_rfl) (by kernel_rfl) (by kernel_rfl) ?_
 rw [← f3v]
 exact h
def d8G (x0 x1 : Value) (w : World) (R : RT) (E : Pan) : Prop :=
 oP E (xBin .eql 2 (.tmp 5) (.tmp 6) x0 x1) w fun a5u w_2 =>
 R a5u w_2
noncomputable def g3i : Code := Tryz.f152.body.getD .skip
def g3j : Hint := (sQ (sQ .none))
theorem f3x (x0 x1 : Value) (w : World) (R : RT) (E : Pan) : d8G x0 x1 w R E = callX Tryz.prog [.tmp 4] g3i g3j [x0, x1] w R E := by kernel_rfl
theorem f3y {x0 x1 : Value} (h : d8G x0 x1 w R E) : Cv Tryz.prog 152 #[x0, x1] w R E := by
 refine i6 (args := [x0, x1]) (c := g3i) (h := g3j) (rs := [.tmp 4]) Tryz.func152 (by kernel_rfl) (by kernel_rfl) (nB (by kernel_rfl)) (by kernel_rfl) (by kernel_rfl) (by kernel_rfl) ?_
 rw [← f3x]
 exact h
def d8H (x0 x1 : Value) (w : World) (R : RT) (E : Pan) : Prop :=
 oP E (xBin .neq 2 (.tmp 5) (.tmp 6) x0 x1) w fun a5u w_2 =>
 R a5u w_2
noncomputable def g3k : Code := Tryz.f153.body.getD .skip
def g3l : Hint := (sQ (sQ .none))
theorem f3z (x0 x1 : Value) (w : World) (R : RT) (E : Pan) : d8H x0 x1 w R E = callX Tryz.prog [.tmp 4] g3k g3l [x0, x1] w R E := by kernel_rfl
theorem f3A {x0 x1 : Value} (h : d8H x0 x1 w R E) : Cv Tryz.prog 153 #[x0, x1] w R E := by
 refine i6 (args := [x0, x1]) (c := g3k) (h := g3l) (rs := [.tmp 4]) Tryz.func153 (by kernel_rfl) (by kernel_rfl) (nB (by kernel_rfl)) (by kernel_rfl) (by kernel_rfl) (by kernel_rfl) ?_
 rw [← f3z]
 exact h
def d8I (x0 x1 : Value) (w : World) (R : RT) (E : Pan) : Prop :=
 oP E (xBin .gtr 2 (.tmp 5) (.tmp 6) x0 x1) w fun a5u w_2 =>
 R a5u w_2
noncomputable def g3m : Code := Tryz.f154.body.getD .skip
def g3n : Hint := (sQ (sQ .none))
theorem f3B (x0 x1 : Value) (w : World) (R : RT) (E : Pan) : d8I x0 x1 w R E = callX Tryz.prog [.tmp 4] g3m g3n [x0, x1] w R E := by kernel_rfl
theorem f3C {x0 x1 : Value} (h : d8I x0 x1 w R E) : Cv Tryz.prog 154 #[x0, x1] w R E := by
 refine i6 (args := [x0, x1]) (c := g3m) (h := g3n) (rs := [.tmp 4]) Tryz.func154 (by kernel_rfl) (by kernel_rfl) (nB (by kernel_rfl)) (by kernel_rfl) (by kernel_rfl) (by kernel_rfl) ?_
 rw [← f3B]
 exact h
def d8J (x0 x1 : Value) (w : World) (R : RT) (E : Pan) : Prop :=
 oP E (xBin .geq 2 (.tmp 5) (.tmp 6) x0 x1) w fun a5u w_2 =>
 R a5u w_2
noncomputable def g3o : Code := Tryz.f155.body.getD .skip
def g3p : Hint := (sQ (sQ .none))
theorem f3D (x0 x1 : Value) (w : World) (R : RT) (E : Pan) : d8J x0 x1 w R E = callX Tryz.prog [.tmp 4] g3o g3p [x0, x1] w R E := by kernel_rfl
theorem f3E {x0 x1 : Value} (h : d8J x0 x1 w R E) : Cv Tryz.prog 155 #[x0, x1] w R E := by
 refine i6 (args := [x0, x1]) (c := g3o) (h := g3p) (rs := [.tmp 4]) Tryz.func155 (by kernel_rfl) (by kernel_rfl) (nB (by kernel_rfl)) (by kernel_rfl) (by kernel_rfl) (by kernel_rfl) ?_
 rw [← f3D]
 exact h
end Go.Proofs.YtnhkdkcgdcgmdaaGreatDoor
