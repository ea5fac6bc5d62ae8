/- The document's forms: which trees have theirs, which names are names; what it tells is what the program tells. The law TreeParts. -/
import Derived.Lib.TrimUEq
import Derived.Lib.ValidLaws
import Derived.Test.YtnhkdkcgdcgmdaaGreatDoorzPQ5
import Derived.Test.YtnhkdkcgdcgmdaaGreatDoorzPV1z
import Derived.Test.YtnhkdkcgdcgmdaaGreatDoorProg
import Derived.KernelRfl
import Derived.Test.YtnhkdkcgdcgmdaaGreatDoorzPK0
import Derived.Test.YtnhkdkcgdcgmdaaGreatDoorzPGz
namespace Go.Proofs.YtnhkdkcgdcgmdaaGreatDoor
open Go.RowKit
set_option maxRecDepth 100000
set_option maxHeartbeats 2000000
def nameOk (l : Lab) : Bool := if (nameL l).2 = true then nameS (nameL l).1 else true
mutual
def formT : PT → Bool
  | .mk l cs => formL l && formTs cs
def formTs : List PT → Bool
  | [] => true
  | t :: ts => formT t && formTs ts
end
mutual
def namesT : PT → Bool
  | .mk l cs => nameOk l && namesTs cs
def namesTs : List PT → Bool
  | [] => true
  | t :: ts => namesT t && namesTs ts
end
theorem b7x : ∀ a b : List PT, formTs (a ++ b) = (formTs a && formTs b)
  | [], b => by rw [List.nil_append, formTs, Bool.true_and]
  | t :: a, b => by rw [List.cons_append, formTs, formTs, b7x a b, Bool.and_assoc]
abbrev Fm := c1Y
def FR (f : Fm) (a b : Bool) (y : Fm) : Prop := y.fok = (f.fok && a) ∧ (y.fok = true → y.fnames = (f.fnames && b))
theorem FR.refl (f : Fm) : FR f true true f := ⟨(Bool.and_true _).symm, fun _ => (Bool.and_true _).symm⟩
theorem FR.trans {f g y : Fm} {a b a' b' : Bool} (h : FR f a b g) (h' : FR g a' b' y) : FR f (a && a') (b && b') y := by
  refine ⟨by rw [h'.1, h.1, Bool.and_assoc], fun hy => ?_⟩
  have hg : g.fok = true := by rw [h'.1] at hy; exact (Bool.and_eq_true_iff.1 hy).1
  rw [h'.2 hy, h.2 hg, Bool.and_assoc]
section
variable {H : Hp}
def toldS (ts : List PT) : Int := if (wTs ts 1 w0S).fbad = 0 then (if formTs ts = true then (if namesTs ts = true then 0 else 31) else 30) else (wTs ts 1 w0S).fbad
theorem h2R : wok w0S := ⟨by decide, by decide⟩
end
def fmR (v : V) (a b : Bool) (r : Bool × V) : Prop := r.1 = true → r.2.f = (v.f || !a) ∧ r.2.m = (v.m || !b)
theorem f1t (v : V) (l : Lab) (d : Int) : fmR v (formL l) (nameOk l) (vMeet v l d) := by
  unfold vMeet fmR nameOk
  intro h
  split at h
  · cases h
  · rename_i h1
    rw [if_neg h1]
    split at h
    · cases h
    · rename_i h2
      rw [if_neg h2]
      refine ⟨rfl, ?_⟩
      dsimp only
      cases (nameL l).2
      · simp
      · simp
mutual
theorem h7Y : ∀ (t : PT) (d : Int) (v : V), fmR v (formT t) (namesT t) (vT t d v)
  | .mk l cs, d, v => by
    have hm := f1t v l d
    rw [vT, formT, namesT]
    by_cases hq : (vMeet v l d).1 = true
    · rw [if_pos hq]
      intro h
      have h1 := hm hq
      have h2 := d6I cs (d + 1) _ h
      rw [h2.1, h2.2, h1.1, h1.2]
      cases v.f <;> cases v.m <;> cases formL l <;> cases nameOk l <;> cases formTs cs <;> cases namesTs cs <;> exact ⟨rfl, rfl⟩
    · rw [if_neg hq]; exact fun h => (hq h).elim
theorem d6I : ∀ (ts : List PT) (d : Int) (v : V), fmR v (formTs ts) (namesTs ts) (vTs ts d v)
  | [], d, v => by
    rw [vTs, formTs, namesTs]
    intro _
    dsimp only
    cases v.f <;> cases v.m <;> exact ⟨rfl, rfl⟩
  | t :: ts, d, v => by
    have hm := h7Y t d v
    rw [vTs, formTs, namesTs]
    by_cases hq : (vT t d v).1 = true
    · rw [if_pos hq]
      intro h
      have h1 := hm hq
      have h2 := d6I ts d _ h
      rw [h2.1, h2.2, h1.1, h1.2]
      cases v.f <;> cases v.m <;> cases formT t <;> cases namesT t <;> cases formTs ts <;> cases namesTs ts <;> exact ⟨rfl, rfl⟩
    · rw [if_neg hq]; exact fun h => (hq h).elim
end
theorem b5U (ts : List PT) : vEnd (vTs ts 1 v0) = toldS ts := by
  have hs := e8a ts
  have hf := d6I ts 1 v0
  unfold toldS vEnd
  generalize vTs ts 1 v0 = r at hs hf ⊢
  generalize wTs ts 1 w0S = s at hs ⊢
  by_cases hq : r.1 = true
  · obtain ⟨h1, h2, _⟩ := hs.1 hq
    obtain ⟨h3, h4⟩ := hf hq
    rw [if_pos hq, h1, h2, h3, h4, if_pos rfl]
    cases formTs ts <;> cases namesTs ts <;> rfl
  · obtain ⟨h1, h2⟩ := hs.2 (Bool.eq_false_iff.2 hq)
    rw [if_neg hq, h1, if_neg (by omega)]
section
variable {H : Hp}
theorem f1u (hT : TabsH H) {e : b9} {t : PT} (he : CH H e t) (hsm : Sm t) {K : Int → Hp → Prop} (h : ∀ H', Hle H H' → K (vEnd (vTs [t] 1 v0)) H') : a7u e H K := by
  refine b9J _ ?_
  unfold a5h
  intro s H1 l1 hS hc
  refine b9I (hT.le l1) hS (ts := [t]) (u0.one (CH.le l1 he)) (by simp [big]) (fun u hu => by rw [List.mem_singleton.1 hu]; exact hsm) fun sl H2 l2 hS2 => h H2 (l1.trans l2)
end
end Go.Proofs.YtnhkdkcgdcgmdaaGreatDoor
namespace Go.Proofs.YtnhkdkcgdcgmdaaGreatDoor
open Go.RowKit
set_option maxRecDepth 100000
variable {w : World} {R : RT} {E : Pan}
def F73 (x0 x1 x2 : Value) (w : World) (R : RT) (E : Pan) : Prop :=
 oP E (xBin .lss 3 (.tmp 7) (.const (vI 1)) x0 (vI 1)) w fun b8V w_2 =>
 oP E (gsem (asB b8V) false (xBin .gtr 3 (.tmp 10) (.const (vI 6)) (gval (asB b8V) false x0) (vI 6))) w_2 fun a4b w_4 =>
 oP E (xPick b8V (vB true) a4b) w_4 fun a9t w_6 =>
 xcond a9t
 (R (vB false) w_6)
 (oP E (xCall (fC 118) []) w_6 fun a9u w_8 =>
 oP E (xV (Instr.index 177 a9u x0)) w_8 fun b4p o7 =>
 oP E (xCall b4p [x1, x2]) o7 fun d0J p7 =>
 R d0J p7)
noncomputable def c73 : Code := Tryz.f73.body.getD .skip
def h73 : Hint := (sQ (.seq (sQ (.cond (sQ .none) .none)) (sQ .none)))
theorem g1a (x0 x1 x2 : Value) (w : World) (R : RT) (E : Pan) : F73 x0 x1 x2 w R E = callX Tryz.prog [.tmp 6] c73 h73 [x0, x1, x2] w R E := by kernel_rfl
theorem g1b {x0 x1 x2 : Value} (h : F73 x0 x1 x2 w R E) : Cv Tryz.prog 73 #[x0, x1, x2] w R E := by
 refine i7 (args := [x0, x1, x2]) (c := c73) (h := h73) (rs := [.tmp 6]) Tryz.func73 (by kernel_rfl) (by kernel_rfl) (nB (by kernel_rfl)) (by kernel_rfl) (by kernel_rfl) (by kernel_rfl) ?_
 rw [← g1a]
 exact h
def d6J (x0 : Value) (w : World) (R : RT) (E : Pan) : Prop :=
 oP E (xCall (fC 114) [(vI 0), x0]) w fun c2b w_2 =>
 oP E (eX c2b 0) w_2 fun a6W w_4 =>
 oP E (eX c2b 1) w_4 fun a8I w_6 =>
 R (Value.tuple #[a6W, a8I]) w_6
noncomputable def g1c : Code := Tryz.f112.body.getD .skip
def g1d : Hint := (sQ (sQ .none))
theorem f1v (x0 : Value) (w : World) (R : RT) (E : Pan) : d6J x0 w R E = callX Tryz.prog [.tmp 2, .tmp 3] g1c g1d [x0] w R E := by kernel_rfl
theorem f1w {x0 : Value} (h : d6J x0 w R E) : Cv Tryz.prog 112 #[x0] w R E := by
 refine i7 (args := [x0]) (c := g1c) (h := g1d) (rs := [.tmp 2, .tmp 3]) Tryz.func112 (by kernel_rfl) (by kernel_rfl) (nB (by kernel_rfl)) (by kernel_rfl) (by kernel_rfl) (by kernel_rfl) ?_
 rw [← f1v]
 exact h
def d6K (x0 x1 : Value) (w : World) (R : RT) (E : Pan) : Prop :=
 oP E (xBin .add 2 (.tmp 7) (.tmp 8) x0 x1) w fun b3r w_2 =>
 oP E (xBin .lss 2 (.tmp 10) (.const (vI 0)) x0 (vI 0)) w_2 fun a4b w_4 =>
 oP E (xBin .lss 2 (.tmp 12) (.const (vI 0)) x1 (vI 0)) w_4 fun a9M w_6 =>
 oP E (xBin .eql 4 (.tmp 11) (.tmp 13) a4b a9M) w_6 fun a3e w_8 =>
 oP E (gsem (asB a3e) true (xBin .lss 2 (.tmp 16) (.const (vI 0)) (gval (asB a3e) true b3r) (vI 0))) w_8 fun c4i o7 =>
 oP E (gsem (asB a3e) true (xBin .lss 2 (.tmp 18) (.const (vI 0)) (gval (asB a3e) true x0) (vI 0))) o7 fun b1i p7 =>
 oP E (gsem (asB a3e) true (xBin .neq 4 (.tmp 17) (.tmp 19) c4i b1i)) p7 fun b3s o8 =>
 oP E (xPick a3e b3s (vB false)) o8 fun b9K r5 =>
 xcond b9K
 (R (Value.tuple #[(vI 0), (vI 1)]) r5)
 (R (Value.tuple #[b3r, (vI 0)]) r5)
noncomputable def g1e : Code := Tryz.f113.body.getD .skip
def g1f : Hint := (sQ (sQ (.seq (sQ (.cond (sQ .none) .none)) (sQ .none))))
theorem f1x (x0 x1 : Value) (w : World) (R : RT) (E : Pan) : d6K x0 x1 w R E = callX Tryz.prog [.tmp 4, .tmp 5] g1e g1f [x0, x1] w R E := by kernel_rfl
theorem f1y {x0 x1 : Value} (h : d6K x0 x1 w R E) : Cv Tryz.prog 113 #[x0, x1] w R E := by
 refine i7 (args := [x0, x1]) (c := g1e) (h := g1f) (rs := [.tmp 4, .tmp 5]) Tryz.func113 (by kernel_rfl) (by kernel_rfl) (nB (by kernel_rfl)) (by kernel_rfl) (by kernel_rfl) (by kernel_rfl) ?_
 rw [← f1x]
 exact h
def d6L (x0 x1 : Value) (w : World) (R : RT) (E : Pan) : Prop :=
 oP E (xBin .sub 2 (.tmp 7) (.tmp 8) x0 x1) w fun b3r w_2 =>
 oP E (xBin .lss 2 (.tmp 10) (.const (vI 0)) x0 (vI 0)) w_2 fun a4b w_4 =>
 oP E (xBin .lss 2 (.tmp 12) (.const (vI 0)) x1 (vI 0)) w_4 fun a9M w_6 =>
 oP E (xBin .neq 4 (.tmp 11) (.tmp 13) a4b a9M) w_6 fun a3e w_8 =>
 oP E (gsem (asB a3e) true (xBin .lss 2 (.tmp 16) (.const (vI 0)) (gval (asB a3e) true b3r) (vI 0))) w_8 fun c4i o7 =>
 oP E (gsem (asB a3e) true (xBin .lss 2 (.tmp 18) (.const (vI 0)) (gval (asB a3e) true x0) (vI 0))) o7 fun b1i p7 =>
 oP E (gsem (asB a3e) true (xBin .neq 4 (.tmp 17) (.tmp 19) c4i b1i)) p7 fun b3s o8 =>
 oP E (xPick a3e b3s (vB false)) o8 fun b9K r5 =>
 xcond b9K
 (R (Value.tuple #[(vI 0), (vI 1)]) r5)
 (R (Value.tuple #[b3r, (vI 0)]) r5)
noncomputable def g1g : Code := Tryz.f114.body.getD .skip
def g1h : Hint := (sQ (sQ (.seq (sQ (.cond (sQ .none) .none)) (sQ .none))))
theorem f1z (x0 x1 : Value) (w : World) (R : RT) (E : Pan) : d6L x0 x1 w R E = callX Tryz.prog [.tmp 4, .tmp 5] g1g g1h [x0, x1] w R E := by kernel_rfl
theorem f1A {x0 x1 : Value} (h : d6L x0 x1 w R E) : Cv Tryz.prog 114 #[x0, x1] w R E := by
 refine i7 (args := [x0, x1]) (c := g1g) (h := g1h) (rs := [.tmp 4, .tmp 5]) Tryz.func114 (by kernel_rfl) (by kernel_rfl) (nB (by kernel_rfl)) (by kernel_rfl) (by kernel_rfl) (by kernel_rfl) ?_
 rw [← f1z]
 exact h
def c6k (x0 x1 x6 x7 x8 : Value) (w : World) (R : RT) (E : Pan) : Prop :=
 ∀ _τ : Fr, (oP E (xBin .neq 200 (.tmp 24) (.const (Value.int .u64 0)) x6 (Value.int .u64 0)) w fun c4j p7 =>
 oP E (gsem (asB c4j) false (xBin .gtr 200 (.tmp 27) (.tmp 28) (gval (asB c4j) false x7) (gval (asB c4j) false x8))) p7 fun d0K o8 =>
 oP E (xPick c4j (vB true) d0K) o8 fun c4k r5 =>
 xcond c4k
 (R (Value.tuple #[(vI 0), (vI 1)]) r5)
 (oP E (xBin .mul 2 (.tmp 31) (.tmp 32) x0 x1) r5 fun d0L t8 =>
 R (Value.tuple #[d0L, (vI 0)]) t8))
def d6M (x0 x1 : Value) (w : World) (R : RT) (E : Pan) : Prop :=
 oP E (xCall (fC 147) [x0]) w fun d6N w_2 =>
 oP E (xCall (fC 147) [x1]) w_2 fun d6O w_4 =>
 oP E (xCall (fC 146) [d6N, d6O]) w_4 fun c7D w_6 =>
 oP E (eX c7D 0) w_6 fun d6P w_8 =>
 oP E (eX c7D 1) w_8 fun h2S o7 =>
 xcut (fun a5O t7 => c6k x0 x1 d6P h2S (nth a5O 0) t7 R E) fun j1 =>
 oP E (xBin .lss 2 (.tmp 17) (.const (vI 0)) x0 (vI 0)) o7 fun g1i u6 =>
 oP E (xBin .lss 2 (.tmp 19) (.const (vI 0)) x1 (vI 0)) u6 fun a1G v6 =>
 oP E (xBin .neq 4 (.tmp 18) (.tmp 20) g1i a1G) v6 fun g1j y7 =>
 xcond g1j
 (oP E (xBin .add 200 (.tmp 22) (.const (Value.int .u64 1)) (Value.int .u64 9223372036854775807) (Value.int .u64 1)) y7 fun b3t C4 =>
 j1 [b3t] C4)
 (j1 [(Value.int .u64 9223372036854775807)] y7)
noncomputable def g1k : Code := Tryz.f115.body.getD .skip
def g1l : Hint := (sQ (sQ (sQ (.cut [8] (sQ (.cond .none .none)) (.seq (sQ (.cond (sQ .none) .none)) (sQ .none))))))
theorem f1B (x0 x1 : Value) (w : World) (R : RT) (E : Pan) : d6M x0 x1 w R E = callX Tryz.prog [.tmp 4, .tmp 5] g1k g1l [x0, x1] w R E := by kernel_rfl
theorem f1C {x0 x1 : Value} (h : d6M x0 x1 w R E) : Cv Tryz.prog 115 #[x0, x1] w R E := by
 refine i7 (args := [x0, x1]) (c := g1k) (h := g1l) (rs := [.tmp 4, .tmp 5]) Tryz.func115 (by kernel_rfl) (by kernel_rfl) (nB (by kernel_rfl)) (by kernel_rfl) (by kernel_rfl) (by kernel_rfl) ?_
 rw [← f1B]
 exact h
def d6Q (x0 x1 : Value) (w : World) (R : RT) (E : Pan) : Prop :=
 oP E (xCall (fC 148) [x0, x1]) w fun b3r w_2 =>
 oP E (xBin .neq 3 (.tmp 10) (.const (vI 0)) b3r (vI 0)) w_2 fun a4b w_4 =>
 xcond a4b
 (R (Value.tuple #[(vI 0), b3r]) w_4)
 (oP E (xBin .quo 2 (.tmp 13) (.tmp 14) x0 x1) w_4 fun c4l w_6 =>
 R (Value.tuple #[c4l, (vI 0)]) w_6)
noncomputable def g1m : Code := Tryz.f116.body.getD .skip
def g1n : Hint := (sQ (.seq (sQ (sQ (.cond (sQ .none) .none))) (sQ .none)))
theorem f1D (x0 x1 : Value) (w : World) (R : RT) (E : Pan) : d6Q x0 x1 w R E = callX Tryz.prog [.tmp 4, .tmp 5] g1m g1n [x0, x1] w R E := by kernel_rfl
theorem f1E {x0 x1 : Value} (h : d6Q x0 x1 w R E) : Cv Tryz.prog 116 #[x0, x1] w R E := by
 refine i7 (args := [x0, x1]) (c := g1m) (h := g1n) (rs := [.tmp 4, .tmp 5]) Tryz.func116 (by kernel_rfl) (by kernel_rfl) (nB (by kernel_rfl)) (by kernel_rfl) (by kernel_rfl) (by kernel_rfl) ?_
 rw [← f1D]
 exact h
def d6R (x0 x1 : Value) (w : World) (R : RT) (E : Pan) : Prop :=
 oP E (xCall (fC 148) [x0, x1]) w fun b3r w_2 =>
 oP E (xBin .neq 3 (.tmp 10) (.const (vI 0)) b3r (vI 0)) w_2 fun a4b w_4 =>
 xcond a4b
 (R (Value.tuple #[(vI 0), b3r]) w_4)
 (oP E (xBin .rem 2 (.tmp 13) (.tmp 14) x0 x1) w_4 fun c4l w_6 =>
 R (Value.tuple #[c4l, (vI 0)]) w_6)
noncomputable def g1o : Code := Tryz.f117.body.getD .skip
def g1p : Hint := (sQ (.seq (sQ (sQ (.cond (sQ .none) .none))) (sQ .none)))
theorem f1F (x0 x1 : Value) (w : World) (R : RT) (E : Pan) : d6R x0 x1 w R E = callX Tryz.prog [.tmp 4, .tmp 5] g1o g1p [x0, x1] w R E := by kernel_rfl
theorem f1G {x0 x1 : Value} (h : d6R x0 x1 w R E) : Cv Tryz.prog 117 #[x0, x1] w R E := by
 refine i7 (args := [x0, x1]) (c := g1o) (h := g1p) (rs := [.tmp 4, .tmp 5]) Tryz.func117 (by kernel_rfl) (by kernel_rfl) (nB (by kernel_rfl)) (by kernel_rfl) (by kernel_rfl) (by kernel_rfl) ?_
 rw [← f1F]
 exact h
def d6S (w : World) (R : RT) (E : Pan) : Prop :=
 oP E (xV (Instr.alloc 177 true (.tuple #[]))) w fun g1q w_2 =>
 oP E (xV (Instr.build 177 #[(0, (fC 149)), (1, (fC 150)), (2, (fC 151)), (3, (fC 152)), (4, (fC 153)), (5, (fC 154)), (6, (fC 155))])) w_2 fun h7Z w_4 =>
 oP E (sA 177 g1q h7Z) w_4 fun _z_5 w_6 =>
 xcell Tryz.prog 177 g1q w_6 fun r_7 =>
 R r_7 w_6
noncomputable def g1r : Code := Tryz.f118.body.getD .skip
def g1s : Hint := (sQ (sQ .none))
theorem f1H (w : World) (R : RT) (E : Pan) : d6S  w R E = callX Tryz.prog [.cell 0 177] g1r g1s [] w R E := by kernel_rfl
theorem f1I (h : d6S  w R E) : Cv Tryz.prog 118 #[] w R E := by
 refine i7 (args := []) (c := g1r) (h := g1s) (rs := [.cell 0 177]) Tryz.func118 (by kernel_rfl) (by kernel_rfl) (Nat.zero_le _) (by kernel_rfl) (by kernel_rfl) (by kernel_rfl) ?_
 rw [← f1H]
 exact h
def d6T (x0 x1 : Value) (w : World) (R : RT) (E : Pan) : Prop :=
 oP E (xBin .and 200 (.tmp 14) (.const (Value.int .u64 4294967295)) x0 (Value.int .u64 4294967295)) w fun e8b w_2 =>
 oP E (xBin .shr 200 (.tmp 16) (.const (Value.int .u64 32)) x0 (Value.int .u64 32)) w_2 fun c7E w_4 =>
 oP E (xBin .and 200 (.tmp 18) (.const (Value.int .u64 4294967295)) x1 (Value.int .u64 4294967295)) w_4 fun e8c w_6 =>
 oP E (xBin .shr 200 (.tmp 20) (.const (Value.int .u64 32)) x1 (Value.int .u64 32)) w_6 fun c0X w_8 =>
 oP E (xBin .mul 200 (.tmp 22) (.tmp 23) e8b e8c) w_8 fun h2T o7 =>
 oP E (xBin .mul 200 (.tmp 25) (.tmp 26) c7E e8c) o7 fun g1t p7 =>
 oP E (xBin .shr 200 (.tmp 28) (.const (Value.int .u64 32)) h2T (Value.int .u64 32)) p7 fun d0K o8 =>
 oP E (xBin .add 200 (.tmp 27) (.tmp 29) g1t d0K) o8 fun c4k r5 =>
 oP E (xBin .and 200 (.tmp 31) (.const (Value.int .u64 4294967295)) c4k (Value.int .u64 4294967295)) r5 fun g1u t8 =>
 oP E (xBin .shr 200 (.tmp 33) (.const (Value.int .u64 32)) c4k (Value.int .u64 32)) t8 fun g1v t7 =>
 oP E (xBin .mul 200 (.tmp 36) (.tmp 37) e8b c0X) t7 fun g1w u6 =>
 oP E (xBin .add 200 (.tmp 35) (.tmp 38) g1u g1w) u6 fun g1x v6 =>
 oP E (xBin .mul 200 (.tmp 40) (.tmp 41) c7E c0X) v6 fun g1y y7 =>
 oP E (xBin .add 200 (.tmp 42) (.tmp 43) g1y g1v) y7 fun g1z C4 =>
 oP E (xBin .shr 200 (.tmp 45) (.const (Value.int .u64 32)) g1x (Value.int .u64 32)) C4 fun g1A H7 =>
 oP E (xBin .add 200 (.tmp 44) (.tmp 46) g1z g1A) H7 fun g1B D6 =>
 oP E (xBin .mul 200 (.tmp 48) (.tmp 49) x0 x1) D6 fun g1C A6 =>
 R (Value.tuple #[g1B, g1C]) A6
noncomputable def g1D : Code := Tryz.f146.body.getD .skip
def g1E : Hint := (sQ (sQ (sQ (sQ (sQ (sQ (sQ (sQ (sQ (sQ (sQ (sQ .none))))))))))))
theorem f1J (x0 x1 : Value) (w : World) (R : RT) (E : Pan) : d6T x0 x1 w R E = callX Tryz.prog [.tmp 4, .tmp 5] g1D g1E [x0, x1] w R E := by kernel_rfl
theorem f1K {x0 x1 : Value} (h : d6T x0 x1 w R E) : Cv Tryz.prog 146 #[x0, x1] w R E := by
 refine i7 (args := [x0, x1]) (c := g1D) (h := g1E) (rs := [.tmp 4, .tmp 5]) Tryz.func146 (by kernel_rfl) (by kernel_rfl) (nB (by kernel_rfl)) (by kernel_rfl) (by kernel_rfl) (by kernel_rfl) ?_
 rw [← f1J]
 exact h
def d6U (x0 : Value) (w : World) (R : RT) (E : Pan) : Prop :=
 oP E (xBin .lss 2 (.tmp 3) (.const (vI 0)) x0 (vI 0)) w fun b9b w_2 =>
 xcond b9b
 (oP E (xV (convert 2 200 x0)) w_2 fun a6W w_4 =>
 oP E (xV (Op.unary .neg a6W)) w_4 fun a8I w_6 =>
 R a8I w_6)
 (oP E (xV (convert 2 200 x0)) w_2 fun d0M w_8 =>
 R d0M w_8)
noncomputable def g1F : Code := Tryz.f147.body.getD .skip
def g1G : Hint := (sQ (.seq (sQ (.cond (sQ .none) .none)) (sQ .none)))
theorem f1L (x0 : Value) (w : World) (R : RT) (E : Pan) : d6U x0 w R E = callX Tryz.prog [.tmp 2] g1F g1G [x0] w R E := by kernel_rfl
theorem f1M {x0 : Value} (h : d6U x0 w R E) : Cv Tryz.prog 147 #[x0] w R E := by
 refine i7 (args := [x0]) (c := g1F) (h := g1G) (rs := [.tmp 2]) Tryz.func147 (by kernel_rfl) (by kernel_rfl) (nB (by kernel_rfl)) (by kernel_rfl) (by kernel_rfl) (by kernel_rfl) ?_
 rw [← f1L]
 exact h
def d6V (x0 x1 : Value) (w : World) (R : RT) (E : Pan) : Prop :=
 oP E (xBin .eql 2 (.tmp 6) (.const (vI 0)) x1 (vI 0)) w fun a5p w_2 =>
 xcond a5p
 (R (vI 2) w_2)
 (oP E (xBin .eql 2 (.tmp 9) (.const (vI (-9223372036854775808))) x0 (vI (-9223372036854775808))) w_2 fun b6O w_4 =>
 oP E (gsem (asB b6O) true (xBin .eql 2 (.tmp 12) (.const (vI (-1))) (gval (asB b6O) true x1) (vI (-1)))) w_4 fun a9M w_6 =>
 oP E (xPick b6O a9M (vB false)) w_6 fun a3e w_8 =>
 xcond a3e
 (R (vI 1) w_8)
 (R (vI 0) w_8))
noncomputable def g1H : Code := Tryz.f148.body.getD .skip
def g1I : Hint := (sQ (.seq (.block (sQ (.cond (sQ .none) (sQ (.cond (sQ .none) .none))))) (sQ .none)))
theorem f1N (x0 x1 : Value) (w : World) (R : RT) (E : Pan) : d6V x0 x1 w R E = callX Tryz.prog [.tmp 4] g1H g1I [x0, x1] w R E := by kernel_rfl
theorem f1O {x0 x1 : Value} (h : d6V x0 x1 w R E) : Cv Tryz.prog 148 #[x0, x1] w R E := by
 refine i7 (args := [x0, x1]) (c := g1H) (h := g1I) (rs := [.tmp 4]) Tryz.func148 (by kernel_rfl) (by kernel_rfl) (nB (by kernel_rfl)) (by kernel_rfl) (by kernel_rfl) (by kernel_rfl) ?_
 rw [← f1N]
 exact h
def d6W (x0 x1 : Value) (w : World) (R : RT) (E : Pan) : Prop :=
 oP E (xBin .lss 2 (.tmp 5) (.tmp 6) x0 x1) w fun a5p w_2 =>
 R a5p w_2
noncomputable def g1J : Code := Tryz.f150.body.getD .skip
def g1K : Hint := (sQ (sQ .none))
theorem f1P (x0 x1 : Value) (w : World) (R : RT) (E : Pan) : d6W x0 x1 w R E = callX Tryz.prog [.tmp 4] g1J g1K [x0, x1] w R E := by kernel_rfl
theorem f1Q {x0 x1 : Value} (h : d6W x0 x1 w R E) : Cv Tryz.prog 150 #[x0, x1] w R E := by
 refine i7 (args := [x0, x1]) (c := g1J) (h := g1K) (rs := [.tmp 4]) Tryz.func150 (by kernel_rfl) (by kernel_rfl) (nB (by kernel_rfl)) (by kernel_rfl) (by kernel_rfl) (by kernel_rfl) ?_
 rw [← f1P]
 exact h
def d6X (x0 x1 : Value) (w : World) (R : RT) (E : Pan) : Prop :=
 oP E (xBin .leq 2 (.tmp 5) (.tmp 6) x0 x1) w fun a5p w_2 =>
 R a5p w_2
noncomputable def g1L : Code := Tryz.f151.body.getD .skip
def g1M : Hint := (sQ (sQ .none))
theorem f1R (x0 x1 : Value) (w : World) (R : RT) (E : Pan) : d6X x0 x1 w R E = callX Tryz.prog [.tmp 4] g1L g1M [x0, x1] w R E := by kernel_rfl
theorem f1S {x0 x1 : Value} (h : d6X x0 x1 w R E) : Cv Tryz.prog 151 #[x0, x1] w R E := by
 refine i7 (args := [x0, x1]) (c := g1L) (h := g1M) (rs := [.tmp 4]) Tryz.func151 (by kernel_rfl) (by kernel_rfl) (nB (by kernel_rfl)) (by kernel_rfl) (by kernel_rfl) (by kernel_rfl) ?_
 rw [← f1R]
 exact h
def d6Y (x0 x1 : Value) (w : World) (R : RT) (E : Pan) : Prop :=
 oP E (xBin .eql 2 (.tmp 5) (.tmp 6) x0 x1) w fun a5p w_2 =>
 R a5p w_2
noncomputable def g1N : Code := Tryz.f152.body.getD .skip
def g1O : Hint := (sQ (sQ .none))
theorem f1T (x0 x1 : Value) (w : World) (R : RT) (E : Pan) : d6Y x0 x1 w R E = callX Tryz.prog [.tmp 4] g1N g1O [x0, x1] w R E := by kernel_rfl
theorem f1U {x0 x1 : Value} (h : d6Y x0 x1 w R E) : Cv Tryz.prog 152 #[x0, x1] w R E := by
 refine i7 (args := [x0, x1]) (c := g1N) (h := g1O) (rs := [.tmp 4]) Tryz.func152 (by kernel_rfl) (by kernel_rfl) (nB (by kernel_rfl)) (by kernel_rfl) (by kernel_rfl) (by kernel_rfl) ?_
 rw [← f1T]
 exact h
def d6Z (x0 x1 : Value) (w : World) (R : RT) (E : Pan) : Prop :=
 oP E (xBin .neq 2 (.tmp 5) (.tmp 6) x0 x1) w fun a5p w_2 =>
 R a5p w_2
noncomputable def g1P : Code := Tryz.f153.body.getD .skip
def g1Q : Hint := (sQ (sQ .none))
theorem f1V (x0 x1 : Value) (w : World) (R : RT) (E : Pan) : d6Z x0 x1 w R E = callX Tryz.prog [.tmp 4] g1P g1Q [x0, x1] w R E := by kernel_rfl
theorem f1W {x0 x1 : Value} (h : d6Z x0 x1 w R E) : Cv Tryz.prog 153 #[x0, x1] w R E := by
 refine i7 (args := [x0, x1]) (c := g1P) (h := g1Q) (rs := [.tmp 4]) Tryz.func153 (by kernel_rfl) (by kernel_rfl) (nB (by kernel_rfl)) (by kernel_rfl) (by kernel_rfl) (by kernel_rfl) ?_
 rw [← f1V]
 exact h
def d7a (x0 x1 : Value) (w : World) (R : RT) (E : Pan) : Prop :=
 oP E (xBin .gtr 2 (.tmp 5) (.tmp 6) x0 x1) w fun a5p w_2 =>
 R a5p w_2
noncomputable def g1R : Code := Tryz.f154.body.getD .skip
def g1S : Hint := (sQ (sQ .none))
theorem f1X (x0 x1 : Value) (w : World) (R : RT) (E : Pan) : d7a x0 x1 w R E = callX Tryz.prog [.tmp 4] g1R g1S [x0, x1] w R E := by kernel_rfl
theorem f1Y {x0 x1 : Value} (h : d7a x0 x1 w R E) : Cv Tryz.prog 154 #[x0, x1] w R E := by
 refine i7 (args := [x0, x1]) (c := g1R) (h := g1S) (rs := [.tmp 4]) Tryz.func154 (by kernel_rfl) (by kernel_rfl) (nB (by kernel_rfl)) (by kernel_rfl) (by kernel_rfl) (by kernel_rfl) ?_
 rw [← f1X]
 exact h
def d7b (x0 x1 : Value) (w : World) (R : RT) (E : Pan) : Prop :=
 oP E (xBin .geq 2 (.tmp 5) (.tmp 6) x0 x1) w fun a5p w_2 =>
 R a5p w_2
noncomputable def g1T : Code := Tryz.f155.body.getD .skip
def g1U : Hint := (sQ (sQ .none))
theorem f1Z (x0 x1 : Value) (w : World) (R : RT) (E : Pan) : d7b x0 x1 w R E = callX Tryz.prog [.tmp 4] g1T g1U [x0, x1] w R E := by kernel_rfl
theorem f2a {x0 x1 : Value} (h : d7b x0 x1 w R E) : Cv Tryz.prog 155 #[x0, x1] w R E := by
 refine i7 (args := [x0, x1]) (c := g1T) (h := g1U) (rs := [.tmp 4]) Tryz.func155 (by kernel_rfl) (by kernel_rfl) (nB (by kernel_rfl)) (by kernel_rfl) (by kernel_rfl) (by kernel_rfl) ?_
 rw [← f1Z]
 exact h
end Go.Proofs.YtnhkdkcgdcgmdaaGreatDoor
