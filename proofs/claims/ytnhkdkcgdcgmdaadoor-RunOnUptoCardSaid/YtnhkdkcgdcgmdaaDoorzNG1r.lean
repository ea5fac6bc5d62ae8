/- The document's forms: which trees have theirs, which names are names; what it tells is what the program tells. The law TreeParts. -/
import Derived.Test.YtnhkdkcgdcgmdaaDoorProg
import Derived.KernelRfl
import Derived.Lib.TrimUEq
import Derived.Lib.ValidLaws
import Derived.Test.YtnhkdkcgdcgmdaaDoorzNQ6
import Derived.Test.YtnhkdkcgdcgmdaaDoorzNV1
import Derived.Test.YtnhkdkcgdcgmdaaDoorzNK0
import Derived.Test.YtnhkdkcgdcgmdaaDoorzNGz
namespace Go.Proofs.YtnhkdkcgdcgmdaaDoor
open Go.RowKit
set_option maxRecDepth 100000
set_option maxHeartbeats 2000000
def nameOk (l : Lab) : Bool := if (nameL l).2 = true then nameS (nameL l).1 else true
mutual
def formT : PT → Bool
  | .mk l cs => formL l && formTs cs
def formTs : List PT → Bool
  | [] => true
  | t :: ts => formT t && formTs ts
end
mutual
def namesT : PT → Bool
  | .mk l cs => nameOk l && namesTs cs
def namesTs : List PT → Bool
  | [] => true
  | t :: ts => namesT t && namesTs ts
end
theorem b2T : ∀ a b : List PT, formTs (a ++ b) = (formTs a && formTs b)
  | [], b => by rw [List.nil_append, formTs, Bool.true_and]
  | t :: a, b => by rw [List.cons_append, formTs, formTs, b2T a b, Bool.and_assoc]
theorem b6v : ∀ a b : List PT, namesTs (a ++ b) = (namesTs a && namesTs b)
  | [], b => by rw [List.nil_append, namesTs, Bool.true_and]
  | t :: a, b => by rw [List.cons_append, namesTs, namesTs, b6v a b, Bool.and_assoc]
abbrev Fm := b6D
def FR (f : Fm) (a b : Bool) (y : Fm) : Prop := y.fok = (f.fok && a) ∧ (y.fok = true → y.fnames = (f.fnames && b))
theorem FR.refl (f : Fm) : FR f true true f := ⟨(Bool.and_true _).symm, fun _ => (Bool.and_true _).symm⟩
theorem FR.trans {f g y : Fm} {a b a' b' : Bool} (h : FR f a b g) (h' : FR g a' b' y) : FR f (a && a') (b && b') y := by
  refine ⟨by rw [h'.1, h.1, Bool.and_assoc], fun hy => ?_⟩
  have hg : g.fok = true := by rw [h'.1] at hy; exact (Bool.and_eq_true_iff.1 hy).1
  rw [h'.2 hy, h.2 hg, Bool.and_assoc]
section
variable {H : Hp}
def toldS (ts : List PT) : Int := if (wTs ts 1 w0S).fbad = 0 then (if formTs ts = true then (if namesTs ts = true then 0 else 31) else 30) else (wTs ts 1 w0S).fbad
theorem g1L : wok w0S := ⟨by decide, by decide⟩
end
def fmR (v : V) (a b : Bool) (r : Bool × V) : Prop := r.1 = true → r.2.f = (v.f || !a) ∧ r.2.m = (v.m || !b)
theorem e3r (v : V) (l : Lab) (d : Int) : fmR v (formL l) (nameOk l) (vMeet v l d) := by
  unfold vMeet fmR nameOk
  intro h
  split at h
  · cases h
  · rename_i h1
    rw [if_neg h1]
    split at h
    · cases h
    · rename_i h2
      rw [if_neg h2]
      refine ⟨rfl, ?_⟩
      dsimp only
      cases (nameL l).2
      · simp
      · simp
mutual
theorem g5Y : ∀ (t : PT) (d : Int) (v : V), fmR v (formT t) (namesT t) (vT t d v)
  | .mk l cs, d, v => by
    have hm := e3r v l d
    rw [vT, formT, namesT]
    by_cases hq : (vMeet v l d).1 = true
    · rw [if_pos hq]
      intro h
      have h1 := hm hq
      have h2 := d0c cs (d + 1) _ h
      rw [h2.1, h2.2, h1.1, h1.2]
      cases v.f <;> cases v.m <;> cases formL l <;> cases nameOk l <;> cases formTs cs <;> cases namesTs cs <;> exact ⟨rfl, rfl⟩
    · rw [if_neg hq]; exact fun h => (hq h).elim
theorem d0c : ∀ (ts : List PT) (d : Int) (v : V), fmR v (formTs ts) (namesTs ts) (vTs ts d v)
  | [], d, v => by
    rw [vTs, formTs, namesTs]
    intro _
    dsimp only
    cases v.f <;> cases v.m <;> exact ⟨rfl, rfl⟩
  | t :: ts, d, v => by
    have hm := g5Y t d v
    rw [vTs, formTs, namesTs]
    by_cases hq : (vT t d v).1 = true
    · rw [if_pos hq]
      intro h
      have h1 := hm hq
      have h2 := d0c ts d _ h
      rw [h2.1, h2.2, h1.1, h1.2]
      cases v.f <;> cases v.m <;> cases formT t <;> cases namesT t <;> cases formTs ts <;> cases namesTs ts <;> exact ⟨rfl, rfl⟩
    · rw [if_neg hq]; exact fun h => (hq h).elim
end
theorem e3s (ts : List PT) : vEnd (vTs ts 1 v0) = toldS ts := by
  have hs := e0s ts
  have hf := d0c ts 1 v0
  unfold toldS vEnd
  generalize vTs ts 1 v0 = r at hs hf ⊢
  generalize wTs ts 1 w0S = s at hs ⊢
  by_cases hq : r.1 = true
  · obtain ⟨h1, h2, _⟩ := hs.1 hq
    obtain ⟨h3, h4⟩ := hf hq
    rw [if_pos hq, h1, h2, h3, h4, if_pos rfl]
    cases formTs ts <;> cases namesTs ts <;> rfl
  · obtain ⟨h1, h2⟩ := hs.2 (Bool.eq_false_iff.2 hq)
    rw [if_neg hq, h1, if_neg (by omega)]
section
variable {H : Hp}
end
end Go.Proofs.YtnhkdkcgdcgmdaaDoor
namespace Go.Proofs.YtnhkdkcgdcgmdaaDoor
open Go.RowKit
set_option maxRecDepth 100000
variable {w : World} {R : RT} {E : Pan}
def F26 (x0 x1 : Value) (w : World) (R : RT) (E : Pan) : Prop :=
 oP E (xBin .add 2 (.tmp 7) (.tmp 8) x0 x1) w fun a9r w_2 =>
 oP E (xBin .lss 2 (.tmp 10) (.const (vI 0)) x0 (vI 0)) w_2 fun a1f w_4 =>
 oP E (xBin .lss 2 (.tmp 12) (.const (vI 0)) x1 (vI 0)) w_4 fun a4q w_6 =>
 oP E (xBin .eql 4 (.tmp 11) (.tmp 13) a1f a4q) w_6 fun U7 w_8 =>
 oP E (gsem (asB U7) true (xBin .lss 2 (.tmp 16) (.const (vI 0)) (gval (asB U7) true a9r) (vI 0))) w_8 fun b8G o0 =>
 oP E (gsem (asB U7) true (xBin .lss 2 (.tmp 18) (.const (vI 0)) (gval (asB U7) true x0) (vI 0))) o0 fun a7m o8 =>
 oP E (gsem (asB U7) true (xBin .neq 4 (.tmp 17) (.tmp 19) b8G a7m)) o8 fun a9s p5 =>
 oP E (xPick U7 a9s (vB false)) p5 fun b4z p9 =>
 xcond b4z
 (R (Value.tuple #[(vI 0), (vI 1)]) p9)
 (R (Value.tuple #[a9r, (vI 0)]) p9)
noncomputable def c26 : Code := Tryd.f26.body.getD .skip
def h26 : Hint := (sQ (sQ (.seq (sQ (.cond (sQ .none) .none)) (sQ .none))))
theorem f2c (x0 x1 : Value) (w : World) (R : RT) (E : Pan) : F26 x0 x1 w R E = callX Tryd.prog [.tmp 4, .tmp 5] c26 h26 [x0, x1] w R E := by kernel_rfl
theorem f2d {x0 x1 : Value} (h : F26 x0 x1 w R E) : Cv Tryd.prog 26 #[x0, x1] w R E := by
 refine h9 (args := [x0, x1]) (c := c26) (h := h26) (rs := [.tmp 4, .tmp 5]) Tryd.func26 (by kernel_rfl) (by kernel_rfl) (nB (by kernel_rfl)) (by kernel_rfl) (by kernel_rfl) (by kernel_rfl) ?_
 rw [← f2c]
 exact h
def F27 (x0 x1 : Value) (w : World) (R : RT) (E : Pan) : Prop :=
 oP E (xBin .sub 2 (.tmp 7) (.tmp 8) x0 x1) w fun a9r w_2 =>
 oP E (xBin .lss 2 (.tmp 10) (.const (vI 0)) x0 (vI 0)) w_2 fun a1f w_4 =>
 oP E (xBin .lss 2 (.tmp 12) (.const (vI 0)) x1 (vI 0)) w_4 fun a4q w_6 =>
 oP E (xBin .neq 4 (.tmp 11) (.tmp 13) a1f a4q) w_6 fun U7 w_8 =>
 oP E (gsem (asB U7) true (xBin .lss 2 (.tmp 16) (.const (vI 0)) (gval (asB U7) true a9r) (vI 0))) w_8 fun b8G o0 =>
 oP E (gsem (asB U7) true (xBin .lss 2 (.tmp 18) (.const (vI 0)) (gval (asB U7) true x0) (vI 0))) o0 fun a7m o8 =>
 oP E (gsem (asB U7) true (xBin .neq 4 (.tmp 17) (.tmp 19) b8G a7m)) o8 fun a9s p5 =>
 oP E (xPick U7 a9s (vB false)) p5 fun b4z p9 =>
 xcond b4z
 (R (Value.tuple #[(vI 0), (vI 1)]) p9)
 (R (Value.tuple #[a9r, (vI 0)]) p9)
noncomputable def c27 : Code := Tryd.f27.body.getD .skip
def h27 : Hint := (sQ (sQ (.seq (sQ (.cond (sQ .none) .none)) (sQ .none))))
theorem f2e (x0 x1 : Value) (w : World) (R : RT) (E : Pan) : F27 x0 x1 w R E = callX Tryd.prog [.tmp 4, .tmp 5] c27 h27 [x0, x1] w R E := by kernel_rfl
theorem f2f {x0 x1 : Value} (h : F27 x0 x1 w R E) : Cv Tryd.prog 27 #[x0, x1] w R E := by
 refine h9 (args := [x0, x1]) (c := c27) (h := h27) (rs := [.tmp 4, .tmp 5]) Tryd.func27 (by kernel_rfl) (by kernel_rfl) (nB (by kernel_rfl)) (by kernel_rfl) (by kernel_rfl) (by kernel_rfl) ?_
 rw [← f2e]
 exact h
def c4M (x0 x1 x6 x7 x8 : Value) (w : World) (R : RT) (E : Pan) : Prop :=
 ∀ _τ : Fr, (oP E (xBin .neq 96 (.tmp 24) (.const (Value.int .u64 0)) x6 (Value.int .u64 0)) w fun b8H o8 =>
 oP E (gsem (asB b8H) false (xBin .gtr 96 (.tmp 27) (.tmp 28) (gval (asB b8H) false x7) (gval (asB b8H) false x8))) o8 fun c4N p5 =>
 oP E (xPick b8H (vB true) c4N) p5 fun b8I p9 =>
 xcond b8I
 (R (Value.tuple #[(vI 0), (vI 1)]) p9)
 (oP E (xBin .mul 2 (.tmp 31) (.tmp 32) x0 x1) p9 fun f2g r7 =>
 R (Value.tuple #[f2g, (vI 0)]) r7))
def F28 (x0 x1 : Value) (w : World) (R : RT) (E : Pan) : Prop :=
 oP E (xCall (fC 48) [x0]) w fun d0d w_2 =>
 oP E (xCall (fC 48) [x1]) w_2 fun b8J w_4 =>
 oP E (xCall (fC 47) [d0d, b8J]) w_4 fun e0t w_6 =>
 oP E (eX e0t 0) w_6 fun d0e w_8 =>
 oP E (eX e0t 1) w_8 fun d0f o0 =>
 xcut (fun a3G q7 => c4M x0 x1 d0e d0f (nth a3G 0) q7 R E) fun j1 =>
 oP E (xBin .lss 2 (.tmp 17) (.const (vI 0)) x0 (vI 0)) o0 fun f2h s7 =>
 oP E (xBin .lss 2 (.tmp 19) (.const (vI 0)) x1 (vI 0)) s7 fun a5R u9 =>
 oP E (xBin .neq 4 (.tmp 18) (.tmp 20) f2h a5R) u9 fun f2i A6 =>
 xcond f2i
 (oP E (xBin .add 96 (.tmp 22) (.const (Value.int .u64 1)) (Value.int .u64 9223372036854775807) (Value.int .u64 1)) A6 fun b4A C8 =>
 j1 [b4A] C8)
 (j1 [(Value.int .u64 9223372036854775807)] A6)
noncomputable def c28 : Code := Tryd.f28.body.getD .skip
def h28 : Hint := (sQ (sQ (sQ (.cut [8] (sQ (.cond .none .none)) (.seq (sQ (.cond (sQ .none) .none)) (sQ .none))))))
theorem f2j (x0 x1 : Value) (w : World) (R : RT) (E : Pan) : F28 x0 x1 w R E = callX Tryd.prog [.tmp 4, .tmp 5] c28 h28 [x0, x1] w R E := by kernel_rfl
theorem f2k {x0 x1 : Value} (h : F28 x0 x1 w R E) : Cv Tryd.prog 28 #[x0, x1] w R E := by
 refine h9 (args := [x0, x1]) (c := c28) (h := h28) (rs := [.tmp 4, .tmp 5]) Tryd.func28 (by kernel_rfl) (by kernel_rfl) (nB (by kernel_rfl)) (by kernel_rfl) (by kernel_rfl) (by kernel_rfl) ?_
 rw [← f2j]
 exact h
def F29 (x0 x1 : Value) (w : World) (R : RT) (E : Pan) : Prop :=
 oP E (xCall (fC 49) [x0, x1]) w fun a9r w_2 =>
 oP E (xBin .neq 3 (.tmp 10) (.const (vI 0)) a9r (vI 0)) w_2 fun a1f w_4 =>
 xcond a1f
 (R (Value.tuple #[(vI 0), a9r]) w_4)
 (oP E (xBin .quo 2 (.tmp 13) (.tmp 14) x0 x1) w_4 fun b2U w_6 =>
 R (Value.tuple #[b2U, (vI 0)]) w_6)
noncomputable def c29 : Code := Tryd.f29.body.getD .skip
def h29 : Hint := (sQ (.seq (sQ (sQ (.cond (sQ .none) .none))) (sQ .none)))
theorem f2l (x0 x1 : Value) (w : World) (R : RT) (E : Pan) : F29 x0 x1 w R E = callX Tryd.prog [.tmp 4, .tmp 5] c29 h29 [x0, x1] w R E := by kernel_rfl
theorem f2m {x0 x1 : Value} (h : F29 x0 x1 w R E) : Cv Tryd.prog 29 #[x0, x1] w R E := by
 refine h9 (args := [x0, x1]) (c := c29) (h := h29) (rs := [.tmp 4, .tmp 5]) Tryd.func29 (by kernel_rfl) (by kernel_rfl) (nB (by kernel_rfl)) (by kernel_rfl) (by kernel_rfl) (by kernel_rfl) ?_
 rw [← f2l]
 exact h
def F30 (x0 x1 : Value) (w : World) (R : RT) (E : Pan) : Prop :=
 oP E (xCall (fC 49) [x0, x1]) w fun a9r w_2 =>
 oP E (xBin .neq 3 (.tmp 10) (.const (vI 0)) a9r (vI 0)) w_2 fun a1f w_4 =>
 xcond a1f
 (R (Value.tuple #[(vI 0), a9r]) w_4)
 (oP E (xBin .rem 2 (.tmp 13) (.tmp 14) x0 x1) w_4 fun b2U w_6 =>
 R (Value.tuple #[b2U, (vI 0)]) w_6)
noncomputable def c30 : Code := Tryd.f30.body.getD .skip
def h30 : Hint := (sQ (.seq (sQ (sQ (.cond (sQ .none) .none))) (sQ .none)))
theorem f2n (x0 x1 : Value) (w : World) (R : RT) (E : Pan) : F30 x0 x1 w R E = callX Tryd.prog [.tmp 4, .tmp 5] c30 h30 [x0, x1] w R E := by kernel_rfl
theorem f2o {x0 x1 : Value} (h : F30 x0 x1 w R E) : Cv Tryd.prog 30 #[x0, x1] w R E := by
 refine h9 (args := [x0, x1]) (c := c30) (h := h30) (rs := [.tmp 4, .tmp 5]) Tryd.func30 (by kernel_rfl) (by kernel_rfl) (nB (by kernel_rfl)) (by kernel_rfl) (by kernel_rfl) (by kernel_rfl) ?_
 rw [← f2n]
 exact h
def F47 (x0 x1 : Value) (w : World) (R : RT) (E : Pan) : Prop :=
 oP E (xBin .and 96 (.tmp 14) (.const (Value.int .u64 4294967295)) x0 (Value.int .u64 4294967295)) w fun e0u w_2 =>
 oP E (xBin .shr 96 (.tmp 16) (.const (Value.int .u64 32)) x0 (Value.int .u64 32)) w_2 fun c1Z w_4 =>
 oP E (xBin .and 96 (.tmp 18) (.const (Value.int .u64 4294967295)) x1 (Value.int .u64 4294967295)) w_4 fun e0v w_6 =>
 oP E (xBin .shr 96 (.tmp 20) (.const (Value.int .u64 32)) x1 (Value.int .u64 32)) w_6 fun c2a w_8 =>
 oP E (xBin .mul 96 (.tmp 22) (.tmp 23) e0u e0v) w_8 fun g1M o0 =>
 oP E (xBin .mul 96 (.tmp 25) (.tmp 26) c1Z e0v) o0 fun f2p o8 =>
 oP E (xBin .shr 96 (.tmp 28) (.const (Value.int .u64 32)) g1M (Value.int .u64 32)) o8 fun c4N p5 =>
 oP E (xBin .add 96 (.tmp 27) (.tmp 29) f2p c4N) p5 fun b8I p9 =>
 oP E (xBin .and 96 (.tmp 31) (.const (Value.int .u64 4294967295)) b8I (Value.int .u64 4294967295)) p9 fun f2q r7 =>
 oP E (xBin .shr 96 (.tmp 33) (.const (Value.int .u64 32)) b8I (Value.int .u64 32)) r7 fun f2r q7 =>
 oP E (xBin .mul 96 (.tmp 36) (.tmp 37) e0u c2a) q7 fun f2s s7 =>
 oP E (xBin .add 96 (.tmp 35) (.tmp 38) f2q f2s) s7 fun f2t u9 =>
 oP E (xBin .mul 96 (.tmp 40) (.tmp 41) c1Z c2a) u9 fun f2u A6 =>
 oP E (xBin .add 96 (.tmp 42) (.tmp 43) f2u f2r) A6 fun f2v C8 =>
 oP E (xBin .shr 96 (.tmp 45) (.const (Value.int .u64 32)) f2t (Value.int .u64 32)) C8 fun f2w E0 =>
 oP E (xBin .add 96 (.tmp 44) (.tmp 46) f2v f2w) E0 fun f2x C3 =>
 oP E (xBin .mul 96 (.tmp 48) (.tmp 49) x0 x1) C3 fun f2y D3 =>
 R (Value.tuple #[f2x, f2y]) D3
noncomputable def c47 : Code := Tryd.f47.body.getD .skip
def h47 : Hint := (sQ (sQ (sQ (sQ (sQ (sQ (sQ (sQ (sQ (sQ (sQ (sQ .none))))))))))))
theorem f2z (x0 x1 : Value) (w : World) (R : RT) (E : Pan) : F47 x0 x1 w R E = callX Tryd.prog [.tmp 4, .tmp 5] c47 h47 [x0, x1] w R E := by kernel_rfl
theorem f2A {x0 x1 : Value} (h : F47 x0 x1 w R E) : Cv Tryd.prog 47 #[x0, x1] w R E := by
 refine h9 (args := [x0, x1]) (c := c47) (h := h47) (rs := [.tmp 4, .tmp 5]) Tryd.func47 (by kernel_rfl) (by kernel_rfl) (nB (by kernel_rfl)) (by kernel_rfl) (by kernel_rfl) (by kernel_rfl) ?_
 rw [← f2z]
 exact h
def F48 (x0 : Value) (w : World) (R : RT) (E : Pan) : Prop :=
 oP E (xBin .lss 2 (.tmp 3) (.const (vI 0)) x0 (vI 0)) w fun b3V w_2 =>
 xcond b3V
 (oP E (xV (convert 2 96 x0)) w_2 fun a3H w_4 =>
 oP E (xV (Op.unary .neg a3H)) w_4 fun a6t w_6 =>
 R a6t w_6)
 (oP E (xV (convert 2 96 x0)) w_2 fun d7g w_8 =>
 R d7g w_8)
noncomputable def c48 : Code := Tryd.f48.body.getD .skip
def h48 : Hint := (sQ (.seq (sQ (.cond (sQ .none) .none)) (sQ .none)))
theorem f2B (x0 : Value) (w : World) (R : RT) (E : Pan) : F48 x0 w R E = callX Tryd.prog [.tmp 2] c48 h48 [x0] w R E := by kernel_rfl
theorem f2C {x0 : Value} (h : F48 x0 w R E) : Cv Tryd.prog 48 #[x0] w R E := by
 refine h9 (args := [x0]) (c := c48) (h := h48) (rs := [.tmp 2]) Tryd.func48 (by kernel_rfl) (by kernel_rfl) (nB (by kernel_rfl)) (by kernel_rfl) (by kernel_rfl) (by kernel_rfl) ?_
 rw [← f2B]
 exact h
def F49 (x0 x1 : Value) (w : World) (R : RT) (E : Pan) : Prop :=
 oP E (xBin .eql 2 (.tmp 6) (.const (vI 0)) x1 (vI 0)) w fun a1E w_2 =>
 xcond a1E
 (R (vI 2) w_2)
 (oP E (xBin .eql 2 (.tmp 9) (.const (vI (-9223372036854775808))) x0 (vI (-9223372036854775808))) w_2 fun b2g w_4 =>
 oP E (gsem (asB b2g) true (xBin .eql 2 (.tmp 12) (.const (vI (-1))) (gval (asB b2g) true x1) (vI (-1)))) w_4 fun a4q w_6 =>
 oP E (xPick b2g a4q (vB false)) w_6 fun U7 w_8 =>
 xcond U7
 (R (vI 1) w_8)
 (R (vI 0) w_8))
noncomputable def c49 : Code := Tryd.f49.body.getD .skip
def h49 : Hint := (sQ (.seq (.block (sQ (.cond (sQ .none) (sQ (.cond (sQ .none) .none))))) (sQ .none)))
theorem f2D (x0 x1 : Value) (w : World) (R : RT) (E : Pan) : F49 x0 x1 w R E = callX Tryd.prog [.tmp 4] c49 h49 [x0, x1] w R E := by kernel_rfl
theorem f2E {x0 x1 : Value} (h : F49 x0 x1 w R E) : Cv Tryd.prog 49 #[x0, x1] w R E := by
 refine h9 (args := [x0, x1]) (c := c49) (h := h49) (rs := [.tmp 4]) Tryd.func49 (by kernel_rfl) (by kernel_rfl) (nB (by kernel_rfl)) (by kernel_rfl) (by kernel_rfl) (by kernel_rfl) ?_
 rw [← f2D]
 exact h
def F75 (x0 x1 x2 : Value) (w : World) (R : RT) (E : Pan) : Prop :=
 oP E (xBin .lss 3 (.tmp 7) (.const (vI 1)) x0 (vI 1)) w fun b0I w_2 =>
 oP E (gsem (asB b0I) false (xBin .gtr 3 (.tmp 10) (.const (vI 6)) (gval (asB b0I) false x0) (vI 6))) w_2 fun a1f w_4 =>
 oP E (xPick b0I (vB true) a1f) w_4 fun a5S w_6 =>
 xcond a5S
 (R (vB false) w_6)
 (oP E (xCall (fC 110) []) w_6 fun a5T w_8 =>
 oP E (xV (Instr.index 171 a5T x0)) w_8 fun a4U o0 =>
 oP E (xCall a4U [x1, x2]) o0 fun b4B o8 =>
 R b4B o8)
noncomputable def c75 : Code := Tryd.f75.body.getD .skip
def h75 : Hint := (sQ (.seq (sQ (.cond (sQ .none) .none)) (sQ .none)))
theorem f2F (x0 x1 x2 : Value) (w : World) (R : RT) (E : Pan) : F75 x0 x1 x2 w R E = callX Tryd.prog [.tmp 6] c75 h75 [x0, x1, x2] w R E := by kernel_rfl
theorem f2G {x0 x1 x2 : Value} (h : F75 x0 x1 x2 w R E) : Cv Tryd.prog 75 #[x0, x1, x2] w R E := by
 refine h9 (args := [x0, x1, x2]) (c := c75) (h := h75) (rs := [.tmp 6]) Tryd.func75 (by kernel_rfl) (by kernel_rfl) (nB (by kernel_rfl)) (by kernel_rfl) (by kernel_rfl) (by kernel_rfl) ?_
 rw [← f2F]
 exact h
def d0g (x0 : Value) (w : World) (R : RT) (E : Pan) : Prop :=
 oP E (xCall (fC 27) [(vI 0), x0]) w fun b2j w_2 =>
 oP E (eX b2j 0) w_2 fun a3H w_4 =>
 oP E (eX b2j 1) w_4 fun a6t w_6 =>
 R (Value.tuple #[a3H, a6t]) w_6
noncomputable def f2H : Code := Tryd.f101.body.getD .skip
def f2I : Hint := (sQ (sQ .none))
theorem e3t (x0 : Value) (w : World) (R : RT) (E : Pan) : d0g x0 w R E = callX Tryd.prog [.tmp 2, .tmp 3] f2H f2I [x0] w R E := by kernel_rfl
theorem e3u {x0 : Value} (h : d0g x0 w R E) : Cv Tryd.prog 101 #[x0] w R E := by
 refine h9 (args := [x0]) (c := f2H) (h := f2I) (rs := [.tmp 2, .tmp 3]) Tryd.func101 (by kernel_rfl) (by kernel_rfl) (nB (by kernel_rfl)) (by kernel_rfl) (by kernel_rfl) (by kernel_rfl) ?_
 rw [← e3t]
 exact h
def d0h (w : World) (R : RT) (E : Pan) : Prop :=
 oP E (xV (Instr.alloc 171 true (.tuple #[]))) w fun f2J w_2 =>
 oP E (xV (Instr.build 171 #[(0, (fC 123)), (1, (fC 124)), (2, (fC 125)), (3, (fC 126)), (4, (fC 127)), (5, (fC 128)), (6, (fC 129))])) w_2 fun g5Z w_4 =>
 oP E (sA 171 f2J g5Z) w_4 fun _z_5 w_6 =>
 xcell Tryd.prog 171 f2J w_6 fun r_7 =>
 R r_7 w_6
noncomputable def f2K : Code := Tryd.f110.body.getD .skip
def f2L : Hint := (sQ (sQ .none))
theorem e3v (w : World) (R : RT) (E : Pan) : d0h  w R E = callX Tryd.prog [.cell 0 171] f2K f2L [] w R E := by kernel_rfl
theorem e3w (h : d0h  w R E) : Cv Tryd.prog 110 #[] w R E := by
 refine h9 (args := []) (c := f2K) (h := f2L) (rs := [.cell 0 171]) Tryd.func110 (by kernel_rfl) (by kernel_rfl) (Nat.zero_le _) (by kernel_rfl) (by kernel_rfl) (by kernel_rfl) ?_
 rw [← e3v]
 exact h
def d0i (x0 x1 : Value) (w : World) (R : RT) (E : Pan) : Prop :=
 oP E (xBin .lss 2 (.tmp 5) (.tmp 6) x0 x1) w fun a1E w_2 =>
 R a1E w_2
noncomputable def f2M : Code := Tryd.f124.body.getD .skip
def f2N : Hint := (sQ (sQ .none))
theorem e3x (x0 x1 : Value) (w : World) (R : RT) (E : Pan) : d0i x0 x1 w R E = callX Tryd.prog [.tmp 4] f2M f2N [x0, x1] w R E := by kernel_rfl
theorem e3y {x0 x1 : Value} (h : d0i x0 x1 w R E) : Cv Tryd.prog 124 #[x0, x1] w R E := by
 refine h9 (args := [x0, x1]) (c := f2M) (h := f2N) (rs := [.tmp 4]) Tryd.func124 (by kernel_rfl) (by kernel_rfl) (nB (by kernel_rfl)) (by kernel_rfl) (by kernel_rfl) (by kernel_rfl) ?_
 rw [← e3x]
 exact h
def d0j (x0 x1 : Value) (w : World) (R : RT) (E : Pan) : Prop :=
 oP E (xBin .leq 2 (.tmp 5) (.tmp 6) x0 x1) w fun a1E w_2 =>
 R a1E w_2
noncomputable def f2O : Code := Tryd.f125.body.getD .skip
def f2P : Hint := (sQ (sQ .none))
theorem e3z (x0 x1 : Value) (w : World) (R : RT) (E : Pan) : d0j x0 x1 w R E = callX Tryd.prog [.tmp 4] f2O f2P [x0, x1] w R E := by kernel_rfl
theorem e3A {x0 x1 : Value} (h : d0j x0 x1 w R E) : Cv Tryd.prog 125 #[x0, x1] w R E := by
 refine h9 (args := [x0, x1]) (c := f2O) (h := f2P) (rs := [.tmp 4]) Tryd.func125 (by kernel_rfl) (by kernel_rfl) (nB (by kernel_rfl)) (by kernel_rfl) (by kernel_rfl) (by kernel_rfl) ?_
 rw [← e3z]
 exact h
def d0k (x0 x1 : Value) (w : World) (R : RT) (E : Pan) : Prop :=
 oP E (xBin .eql 2 (.tmp 5) (.tmp 6) x0 x1) w fun a1E w_2 =>
 R a1E w_2
noncomputable def f2Q : Code := Tryd.f126.body.getD .skip
def f2R : Hint := (sQ (sQ .none))
theorem e3B (x0 x1 : Value) (w : World) (R : RT) (E : Pan) : d0k x0 x1 w R E = callX Tryd.prog [.tmp 4] f2Q f2R [x0, x1] w R E := by kernel_rfl
theorem e3C {x0 x1 : Value} (h : d0k x0 x1 w R E) : Cv Tryd.prog 126 #[x0, x1] w R E := by
 refine h9 (args := [x0, x1]) (c := f2Q) (h := f2R) (rs := [.tmp 4]) Tryd.func126 (by kernel_rfl) (by kernel_rfl) (nB (by kernel_rfl)) (by kernel_rfl) (by kernel_rfl) (by kernel_rfl) ?_
 rw [← e3B]
 exact h
def d0l (x0 x1 : Value) (w : World) (R : RT) (E : Pan) : Prop :=
 oP E (xBin .neq 2 (.tmp 5) (.tmp 6) x0 x1) w fun a1E w_2 =>
 R a1E w_2
noncomputable def f2S : Code := Tryd.f127.body.getD .skip
def f2T : Hint := (sQ (sQ .none))
theorem e3D (x0 x1 : Value) (w : World) (R : RT) (E : Pan) : d0l x0 x1 w R E = callX Tryd.prog [.tmp 4] f2S f2T [x0, x1] w R E := by kernel_rfl
theorem e3E {x0 x1 : Value} (h : d0l x0 x1 w R E) : Cv Tryd.prog 127 #[x0, x1] w R E := by
 refine h9 (args := [x0, x1]) (c := f2S) (h := f2T) (rs := [.tmp 4]) Tryd.func127 (by kernel_rfl) (by kernel_rfl) (nB (by kernel_rfl)) (by kernel_rfl) (by kernel_rfl) (by kernel_rfl) ?_
 rw [← e3D]
 exact h
def d0m (x0 x1 : Value) (w : World) (R : RT) (E : Pan) : Prop :=
 oP E (xBin .gtr 2 (.tmp 5) (.tmp 6) x0 x1) w fun a1E w_2 =>
 R a1E w_2
noncomputable def f2U : Code := Tryd.f128.body.getD .skip
def f2V : Hint := (sQ (sQ .none))
theorem e3F (x0 x1 : Value) (w : World) (R : RT) (E : Pan) : d0m x0 x1 w R E = callX Tryd.prog [.tmp 4] f2U f2V [x0, x1] w R E := by kernel_rfl
theorem e3G {x0 x1 : Value} (h : d0m x0 x1 w R E) : Cv Tryd.prog 128 #[x0, x1] w R E := by
 refine h9 (args := [x0, x1]) (c := f2U) (h := f2V) (rs := [.tmp 4]) Tryd.func128 (by kernel_rfl) (by kernel_rfl) (nB (by kernel_rfl)) (by kernel_rfl) (by kernel_rfl) (by kernel_rfl) ?_
 rw [← e3F]
 exact h
def d0n (x0 x1 : Value) (w : World) (R : RT) (E : Pan) : Prop :=
 oP E (xBin .geq 2 (.tmp 5) (.tmp 6) x0 x1) w fun a1E w_2 =>
 R a1E w_2
noncomputable def f2W : Code := Tryd.f129.body.getD .skip
def f2X : Hint := (sQ (sQ .none))
theorem e3H (x0 x1 : Value) (w : World) (R : RT) (E : Pan) : d0n x0 x1 w R E = callX Tryd.prog [.tmp 4] f2W f2X [x0, x1] w R E := by kernel_rfl
theorem e3I {x0 x1 : Value} (h : d0n x0 x1 w R E) : Cv Tryd.prog 129 #[x0, x1] w R E := by
 refine h9 (args := [x0, x1]) (c := f2W) (h := f2X) (rs := [.tmp 4]) Tryd.func129 (by kernel_rfl) (by kernel_rfl) (nB (by kernel_rfl)) (by kernel_rfl) (by kernel_rfl) (by kernel_rfl) ?_
 rw [← e3H]
 exact h
end Go.Proofs.YtnhkdkcgdcgmdaaDoor
