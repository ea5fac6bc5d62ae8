/- The second reading of some of the program's functions, printed by gen2.py off the code; each is held against the code by the kernel. -/
import Derived.Test.YtnhkdkcgdcgmdaaDoorProg
import Derived.Test.YtnhkdkcgdcgmdaaDoorzRK0
import Derived.KernelRfl
namespace Go.Proofs.YtnhkdkcgdcgmdaaDoor
open Go.RowKit
set_option maxRecDepth 100000
def F26 (x0 x1 : Value) (w : World) (R : Value → World → Prop) (E : Pan) : Prop :=
 opK Tryd.prog E (xBin .add 2 (.tmp 7) (.tmp 8) x0 x1) w fun a2Y w_2 =>
 opK Tryd.prog E (xBin .lss 2 (.tmp 10) (.const (Value.int .i64 0)) x0 (Value.int .i64 0)) w_2 fun a1S w_4 =>
 opK Tryd.prog E (xBin .lss 2 (.tmp 12) (.const (Value.int .i64 0)) x1 (Value.int .i64 0)) w_4 fun a9g w_6 =>
 opK Tryd.prog E (xBin .eql 4 (.tmp 11) (.tmp 13) a1S a9g) w_6 fun Y1 w_8 =>
 opK Tryd.prog E (gsem (asB Y1) true (xBin .lss 2 (.tmp 16) (.const (Value.int .i64 0)) (gval (asB Y1) true a2Y) (Value.int .i64 0))) w_8 fun d5A l0 =>
 opK Tryd.prog E (gsem (asB Y1) true (xBin .lss 2 (.tmp 18) (.const (Value.int .i64 0)) (gval (asB Y1) true x0) (Value.int .i64 0))) l0 fun b0C m6 =>
 opK Tryd.prog E (gsem (asB Y1) true (xBin .neq 4 (.tmp 17) (.tmp 19) d5A b0C)) m6 fun b9g l8 =>
 opK Tryd.prog E (xPick Y1 b9g (Value.bool false)) l8 fun b9h o5 =>
 xcond b9h
 (R (Value.tuple #[(Value.int .i64 0), (Value.int .i64 1)]) o5)
 (R (Value.tuple #[a2Y, (Value.int .i64 0)]) o5)
noncomputable def c26 : Code := Tryd.f26.body.getD .skip
def h26 : Hint := (.seq .none (.seq .none (.seq (.seq .none (.cond (.seq .none .none) .none)) (.seq .none .none))))
theorem g2J (x0 x1 : Value) (w : World) (R : Value → World → Prop) (E : Pan) : F26 x0 x1 w R E = callX Tryd.prog [.tmp 4, .tmp 5] c26 h26 [x0, x1] w R E := by kernel_rfl
theorem g2K {x0 x1 : Value} {w : World} {R : Value → World → Prop} {E : Pan} (h : F26 x0 x1 w R E) : Cv Tryd.prog 26 #[x0, x1] w R E := by
 refine g7 (args := [x0, x1]) (c := c26) (h := h26) (rs := [.tmp 4, .tmp 5]) Tryd.func26 (by kernel_rfl) (by kernel_rfl) (Nat.le_of_ble_eq_true (by kernel_rfl)) (by kernel_rfl) (by kernel_rfl) (by kernel_rfl) ?_
 rw [← g2J]
 exact h
def F27 (x0 x1 : Value) (w : World) (R : Value → World → Prop) (E : Pan) : Prop :=
 opK Tryd.prog E (xBin .sub 2 (.tmp 7) (.tmp 8) x0 x1) w fun a2Y w_2 =>
 opK Tryd.prog E (xBin .lss 2 (.tmp 10) (.const (Value.int .i64 0)) x0 (Value.int .i64 0)) w_2 fun a1S w_4 =>
 opK Tryd.prog E (xBin .lss 2 (.tmp 12) (.const (Value.int .i64 0)) x1 (Value.int .i64 0)) w_4 fun a9g w_6 =>
 opK Tryd.prog E (xBin .neq 4 (.tmp 11) (.tmp 13) a1S a9g) w_6 fun Y1 w_8 =>
 opK Tryd.prog E (gsem (asB Y1) true (xBin .lss 2 (.tmp 16) (.const (Value.int .i64 0)) (gval (asB Y1) true a2Y) (Value.int .i64 0))) w_8 fun d5A l0 =>
 opK Tryd.prog E (gsem (asB Y1) true (xBin .lss 2 (.tmp 18) (.const (Value.int .i64 0)) (gval (asB Y1) true x0) (Value.int .i64 0))) l0 fun b0C m6 =>
 opK Tryd.prog E (gsem (asB Y1) true (xBin .neq 4 (.tmp 17) (.tmp 19) d5A b0C)) m6 fun b9g l8 =>
 opK Tryd.prog E (xPick Y1 b9g (Value.bool false)) l8 fun b9h o5 =>
 xcond b9h
 (R (Value.tuple #[(Value.int .i64 0), (Value.int .i64 1)]) o5)
 (R (Value.tuple #[a2Y, (Value.int .i64 0)]) o5)
noncomputable def c27 : Code := Tryd.f27.body.getD .skip
def h27 : Hint := (.seq .none (.seq .none (.seq (.seq .none (.cond (.seq .none .none) .none)) (.seq .none .none))))
theorem g2L (x0 x1 : Value) (w : World) (R : Value → World → Prop) (E : Pan) : F27 x0 x1 w R E = callX Tryd.prog [.tmp 4, .tmp 5] c27 h27 [x0, x1] w R E := by kernel_rfl
theorem g2M {x0 x1 : Value} {w : World} {R : Value → World → Prop} {E : Pan} (h : F27 x0 x1 w R E) : Cv Tryd.prog 27 #[x0, x1] w R E := by
 refine g7 (args := [x0, x1]) (c := c27) (h := h27) (rs := [.tmp 4, .tmp 5]) Tryd.func27 (by kernel_rfl) (by kernel_rfl) (Nat.le_of_ble_eq_true (by kernel_rfl)) (by kernel_rfl) (by kernel_rfl) (by kernel_rfl) ?_
 rw [← g2L]
 exact h
def d0V (x0 x1 x6 x7 x8 : Value) (w : World) (R : Value → World → Prop) (E : Pan) : Prop :=
 ∀ _τ : Fr, (opK Tryd.prog E (xBin .neq 96 (.tmp 24) (.const (Value.int .u64 0)) x6 (Value.int .u64 0)) w fun c3A m6 =>
 opK Tryd.prog E (gsem (asB c3A) false (xBin .gtr 96 (.tmp 27) (.tmp 28) (gval (asB c3A) false x7) (gval (asB c3A) false x8))) m6 fun d0W l8 =>
 opK Tryd.prog E (xPick c3A (Value.bool true) d0W) l8 fun c3B o5 =>
 xcond c3B
 (R (Value.tuple #[(Value.int .i64 0), (Value.int .i64 1)]) o5)
 (opK Tryd.prog E (xBin .mul 2 (.tmp 31) (.tmp 32) x0 x1) o5 fun b8X p5 =>
 R (Value.tuple #[b8X, (Value.int .i64 0)]) p5))
def F28 (x0 x1 : Value) (w : World) (R : Value → World → Prop) (E : Pan) : Prop :=
 opK Tryd.prog E (xCall (Value.func (.func 48) #[] #[]) [x0]) w fun g9E w_2 =>
 opK Tryd.prog E (xCall (Value.func (.func 48) #[] #[]) [x1]) w_2 fun c3x w_4 =>
 opK Tryd.prog E (xCall (Value.func (.func 47) #[] #[]) [g9E, c3x]) w_4 fun b0u w_6 =>
 opK Tryd.prog E (xV (Instr.extract b0u 0)) w_6 fun b7e w_8 =>
 opK Tryd.prog E (xV (Instr.extract b0u 1)) w_8 fun a1g l0 =>
 xcut (fun a4T o7 => d0V x0 x1 b7e a1g (nth a4T 0) o7 R E) fun j1 =>
 opK Tryd.prog E (xBin .lss 2 (.tmp 17) (.const (Value.int .i64 0)) x0 (Value.int .i64 0)) l0 fun g2N r9 =>
 opK Tryd.prog E (xBin .lss 2 (.tmp 19) (.const (Value.int .i64 0)) x1 (Value.int .i64 0)) r9 fun a6w q8 =>
 opK Tryd.prog E (xBin .neq 4 (.tmp 18) (.tmp 20) g2N a6w) q8 fun c8B t7 =>
 xcond c8B
 (opK Tryd.prog E (xBin .add 96 (.tmp 22) (.const (Value.int .u64 1)) (Value.int .u64 9223372036854775807) (Value.int .u64 1)) t7 fun g2O w4 =>
 j1 [g2O] w4)
 (j1 [(Value.int .u64 9223372036854775807)] t7)
noncomputable def c28 : Code := Tryd.f28.body.getD .skip
def h28 : Hint := (.seq .none (.seq .none (.seq .none (.cut [8] (.seq .none (.cond .none .none)) (.seq (.seq .none (.cond (.seq .none .none) .none)) (.seq .none .none))))))
theorem g2P (x0 x1 : Value) (w : World) (R : Value → World → Prop) (E : Pan) : F28 x0 x1 w R E = callX Tryd.prog [.tmp 4, .tmp 5] c28 h28 [x0, x1] w R E := by kernel_rfl
theorem g2Q {x0 x1 : Value} {w : World} {R : Value → World → Prop} {E : Pan} (h : F28 x0 x1 w R E) : Cv Tryd.prog 28 #[x0, x1] w R E := by
 refine g7 (args := [x0, x1]) (c := c28) (h := h28) (rs := [.tmp 4, .tmp 5]) Tryd.func28 (by kernel_rfl) (by kernel_rfl) (Nat.le_of_ble_eq_true (by kernel_rfl)) (by kernel_rfl) (by kernel_rfl) (by kernel_rfl) ?_
 rw [← g2P]
 exact h
def F29 (x0 x1 : Value) (w : World) (R : Value → World → Prop) (E : Pan) : Prop :=
 opK Tryd.prog E (xCall (Value.func (.func 49) #[] #[]) [x0, x1]) w fun a2Y w_2 =>
 opK Tryd.prog E (xBin .neq 3 (.tmp 10) (.const (Value.int .i64 0)) a2Y (Value.int .i64 0)) w_2 fun a1S w_4 =>
 xcond a1S
 (R (Value.tuple #[(Value.int .i64 0), a2Y]) w_4)
 (opK Tryd.prog E (xBin .quo 2 (.tmp 13) (.tmp 14) x0 x1) w_4 fun c3C w_6 =>
 R (Value.tuple #[c3C, (Value.int .i64 0)]) w_6)
noncomputable def c29 : Code := Tryd.f29.body.getD .skip
def h29 : Hint := (.seq .none (.seq (.seq .none (.seq .none (.cond (.seq .none .none) .none))) (.seq .none .none)))
theorem g2R (x0 x1 : Value) (w : World) (R : Value → World → Prop) (E : Pan) : F29 x0 x1 w R E = callX Tryd.prog [.tmp 4, .tmp 5] c29 h29 [x0, x1] w R E := by kernel_rfl
theorem g2S {x0 x1 : Value} {w : World} {R : Value → World → Prop} {E : Pan} (h : F29 x0 x1 w R E) : Cv Tryd.prog 29 #[x0, x1] w R E := by
 refine g7 (args := [x0, x1]) (c := c29) (h := h29) (rs := [.tmp 4, .tmp 5]) Tryd.func29 (by kernel_rfl) (by kernel_rfl) (Nat.le_of_ble_eq_true (by kernel_rfl)) (by kernel_rfl) (by kernel_rfl) (by kernel_rfl) ?_
 rw [← g2R]
 exact h
def F30 (x0 x1 : Value) (w : World) (R : Value → World → Prop) (E : Pan) : Prop :=
 opK Tryd.prog E (xCall (Value.func (.func 49) #[] #[]) [x0, x1]) w fun a2Y w_2 =>
 opK Tryd.prog E (xBin .neq 3 (.tmp 10) (.const (Value.int .i64 0)) a2Y (Value.int .i64 0)) w_2 fun a1S w_4 =>
 xcond a1S
 (R (Value.tuple #[(Value.int .i64 0), a2Y]) w_4)
 (opK Tryd.prog E (xBin .rem 2 (.tmp 13) (.tmp 14) x0 x1) w_4 fun c3C w_6 =>
 R (Value.tuple #[c3C, (Value.int .i64 0)]) w_6)
noncomputable def c30 : Code := Tryd.f30.body.getD .skip
def h30 : Hint := (.seq .none (.seq (.seq .none (.seq .none (.cond (.seq .none .none) .none))) (.seq .none .none)))
theorem g2T (x0 x1 : Value) (w : World) (R : Value → World → Prop) (E : Pan) : F30 x0 x1 w R E = callX Tryd.prog [.tmp 4, .tmp 5] c30 h30 [x0, x1] w R E := by kernel_rfl
theorem g2U {x0 x1 : Value} {w : World} {R : Value → World → Prop} {E : Pan} (h : F30 x0 x1 w R E) : Cv Tryd.prog 30 #[x0, x1] w R E := by
 refine g7 (args := [x0, x1]) (c := c30) (h := h30) (rs := [.tmp 4, .tmp 5]) Tryd.func30 (by kernel_rfl) (by kernel_rfl) (Nat.le_of_ble_eq_true (by kernel_rfl)) (by kernel_rfl) (by kernel_rfl) (by kernel_rfl) ?_
 rw [← g2T]
 exact h
def F47 (x0 x1 : Value) (w : World) (R : Value → World → Prop) (E : Pan) : Prop :=
 opK Tryd.prog E (xBin .and 96 (.tmp 14) (.const (Value.int .u64 4294967295)) x0 (Value.int .u64 4294967295)) w fun e5Y w_2 =>
 opK Tryd.prog E (xBin .shr 96 (.tmp 16) (.const (Value.int .u64 32)) x0 (Value.int .u64 32)) w_2 fun e5Z w_4 =>
 opK Tryd.prog E (xBin .and 96 (.tmp 18) (.const (Value.int .u64 4294967295)) x1 (Value.int .u64 4294967295)) w_4 fun e6a w_6 =>
 opK Tryd.prog E (xBin .shr 96 (.tmp 20) (.const (Value.int .u64 32)) x1 (Value.int .u64 32)) w_6 fun e6b w_8 =>
 opK Tryd.prog E (xBin .mul 96 (.tmp 22) (.tmp 23) e5Y e6a) w_8 fun g9F l0 =>
 opK Tryd.prog E (xBin .mul 96 (.tmp 25) (.tmp 26) e5Z e6a) l0 fun g2V m6 =>
 opK Tryd.prog E (xBin .shr 96 (.tmp 28) (.const (Value.int .u64 32)) g9F (Value.int .u64 32)) m6 fun d0W l8 =>
 opK Tryd.prog E (xBin .add 96 (.tmp 27) (.tmp 29) g2V d0W) l8 fun c3B o5 =>
 opK Tryd.prog E (xBin .and 96 (.tmp 31) (.const (Value.int .u64 4294967295)) c3B (Value.int .u64 4294967295)) o5 fun g2W p5 =>
 opK Tryd.prog E (xBin .shr 96 (.tmp 33) (.const (Value.int .u64 32)) c3B (Value.int .u64 32)) p5 fun d0h o7 =>
 opK Tryd.prog E (xBin .mul 96 (.tmp 36) (.tmp 37) e5Y e6b) o7 fun g2X r9 =>
 opK Tryd.prog E (xBin .add 96 (.tmp 35) (.tmp 38) g2W g2X) r9 fun g2Y q8 =>
 opK Tryd.prog E (xBin .mul 96 (.tmp 40) (.tmp 41) e5Z e6b) q8 fun g2Z t7 =>
 opK Tryd.prog E (xBin .add 96 (.tmp 42) (.tmp 43) g2Z d0h) t7 fun g3a w4 =>
 opK Tryd.prog E (xBin .shr 96 (.tmp 45) (.const (Value.int .u64 32)) g2Y (Value.int .u64 32)) w4 fun g3b A8 =>
 opK Tryd.prog E (xBin .add 96 (.tmp 44) (.tmp 46) g3a g3b) A8 fun g3c w5 =>
 opK Tryd.prog E (xBin .mul 96 (.tmp 48) (.tmp 49) x0 x1) w5 fun g3d z2 =>
 R (Value.tuple #[g3c, g3d]) z2
noncomputable def c47 : Code := Tryd.f47.body.getD .skip
def h47 : Hint := (.seq .none (.seq .none (.seq .none (.seq .none (.seq .none (.seq .none (.seq .none (.seq .none (.seq .none (.seq .none (.seq .none (.seq .none .none))))))))))))
theorem g3e (x0 x1 : Value) (w : World) (R : Value → World → Prop) (E : Pan) : F47 x0 x1 w R E = callX Tryd.prog [.tmp 4, .tmp 5] c47 h47 [x0, x1] w R E := by kernel_rfl
theorem g3f {x0 x1 : Value} {w : World} {R : Value → World → Prop} {E : Pan} (h : F47 x0 x1 w R E) : Cv Tryd.prog 47 #[x0, x1] w R E := by
 refine g7 (args := [x0, x1]) (c := c47) (h := h47) (rs := [.tmp 4, .tmp 5]) Tryd.func47 (by kernel_rfl) (by kernel_rfl) (Nat.le_of_ble_eq_true (by kernel_rfl)) (by kernel_rfl) (by kernel_rfl) (by kernel_rfl) ?_
 rw [← g3e]
 exact h
def F48 (x0 : Value) (w : World) (R : Value → World → Prop) (E : Pan) : Prop :=
 opK Tryd.prog E (xBin .lss 2 (.tmp 3) (.const (Value.int .i64 0)) x0 (Value.int .i64 0)) w fun b8e w_2 =>
 xcond b8e
 (opK Tryd.prog E (xV (convert 2 96 x0)) w_2 fun b6p w_4 =>
 opK Tryd.prog E (xV (Op.unary .neg b6p)) w_4 fun b6j w_6 =>
 R b6j w_6)
 (opK Tryd.prog E (xV (convert 2 96 x0)) w_2 fun c1i w_8 =>
 R c1i w_8)
noncomputable def c48 : Code := Tryd.f48.body.getD .skip
def h48 : Hint := (.seq .none (.seq (.seq .none (.cond (.seq .none .none) .none)) (.seq .none .none)))
theorem g3g (x0 : Value) (w : World) (R : Value → World → Prop) (E : Pan) : F48 x0 w R E = callX Tryd.prog [.tmp 2] c48 h48 [x0] w R E := by kernel_rfl
theorem g3h {x0 : Value} {w : World} {R : Value → World → Prop} {E : Pan} (h : F48 x0 w R E) : Cv Tryd.prog 48 #[x0] w R E := by
 refine g7 (args := [x0]) (c := c48) (h := h48) (rs := [.tmp 2]) Tryd.func48 (by kernel_rfl) (by kernel_rfl) (Nat.le_of_ble_eq_true (by kernel_rfl)) (by kernel_rfl) (by kernel_rfl) (by kernel_rfl) ?_
 rw [← g3g]
 exact h
def F49 (x0 x1 : Value) (w : World) (R : Value → World → Prop) (E : Pan) : Prop :=
 opK Tryd.prog E (xBin .eql 2 (.tmp 6) (.const (Value.int .i64 0)) x1 (Value.int .i64 0)) w fun Z5 w_2 =>
 xcond Z5
 (R (Value.int .i64 2) w_2)
 (opK Tryd.prog E (xBin .eql 2 (.tmp 9) (.const (Value.int .i64 (-9223372036854775808))) x0 (Value.int .i64 (-9223372036854775808))) w_2 fun a8G w_4 =>
 opK Tryd.prog E (gsem (asB a8G) true (xBin .eql 2 (.tmp 12) (.const (Value.int .i64 (-1))) (gval (asB a8G) true x1) (Value.int .i64 (-1)))) w_4 fun a9g w_6 =>
 opK Tryd.prog E (xPick a8G a9g (Value.bool false)) w_6 fun Y1 w_8 =>
 xcond Y1
 (R (Value.int .i64 1) w_8)
 (R (Value.int .i64 0) w_8))
noncomputable def c49 : Code := Tryd.f49.body.getD .skip
def h49 : Hint := (.seq .none (.seq (.block (.seq .none (.cond (.seq .none .none) (.seq .none (.cond (.seq .none .none) .none))))) (.seq .none .none)))
theorem g3i (x0 x1 : Value) (w : World) (R : Value → World → Prop) (E : Pan) : F49 x0 x1 w R E = callX Tryd.prog [.tmp 4] c49 h49 [x0, x1] w R E := by kernel_rfl
theorem g3j {x0 x1 : Value} {w : World} {R : Value → World → Prop} {E : Pan} (h : F49 x0 x1 w R E) : Cv Tryd.prog 49 #[x0, x1] w R E := by
 refine g7 (args := [x0, x1]) (c := c49) (h := h49) (rs := [.tmp 4]) Tryd.func49 (by kernel_rfl) (by kernel_rfl) (Nat.le_of_ble_eq_true (by kernel_rfl)) (by kernel_rfl) (by kernel_rfl) (by kernel_rfl) ?_
 rw [← g3i]
 exact h
def F71 (x0 x1 x2 : Value) (w : World) (R : Value → World → Prop) (E : Pan) : Prop :=
 opK Tryd.prog E (xBin .eql 3 (.tmp 8) (.const (Value.int .i64 5)) x0 (Value.int .i64 5)) w fun b4c w_2 =>
 xcond b4c
 (opK Tryd.prog E (xCall (Value.func (.func 104) #[] #[]) [x1]) w_2 fun c6Q w_4 =>
 opK Tryd.prog E (xV (Instr.extract c6Q 0)) w_4 fun a9g w_6 =>
 opK Tryd.prog E (xV (Instr.extract c6Q 1)) w_6 fun Y1 w_8 =>
 R (Value.tuple #[a9g, Y1]) w_8)
 (opK Tryd.prog E (xBin .eql 3 (.tmp 8) (.const (Value.int .i64 6)) x0 (Value.int .i64 6)) w_2 fun a1g l0 =>
 xcond a1g
 (opK Tryd.prog E (xCall (Value.func (.func 105) #[] #[]) [x1, x2]) l0 fun b0C m6 =>
 opK Tryd.prog E (xV (Instr.extract b0C 0)) m6 fun b9g l8 =>
 opK Tryd.prog E (xV (Instr.extract b0C 1)) l8 fun b9h o5 =>
 R (Value.tuple #[b9g, b9h]) o5)
 (opK Tryd.prog E (xBin .eql 3 (.tmp 8) (.const (Value.int .i64 7)) x0 (Value.int .i64 7)) l0 fun b2V p5 =>
 xcond b2V
 (opK Tryd.prog E (xCall (Value.func (.func 106) #[] #[]) [x1, x2]) p5 fun b5I o7 =>
 opK Tryd.prog E (xV (Instr.extract b5I 0)) o7 fun b2S r9 =>
 opK Tryd.prog E (xV (Instr.extract b5I 1)) r9 fun a2h q8 =>
 R (Value.tuple #[b2S, a2h]) q8)
 (opK Tryd.prog E (xBin .eql 3 (.tmp 8) (.const (Value.int .i64 8)) x0 (Value.int .i64 8)) p5 fun d0X t7 =>
 xcond d0X
 (opK Tryd.prog E (xCall (Value.func (.func 107) #[] #[]) [x1, x2]) t7 fun e0k w4 =>
 opK Tryd.prog E (xV (Instr.extract e0k 0)) w4 fun g3k A8 =>
 opK Tryd.prog E (xV (Instr.extract e0k 1)) A8 fun g3l w5 =>
 R (Value.tuple #[g3k, g3l]) w5)
 (opK Tryd.prog E (xBin .eql 3 (.tmp 8) (.const (Value.int .i64 9)) x0 (Value.int .i64 9)) t7 fun a9a z2 =>
 xcond a9a
 (opK Tryd.prog E (xCall (Value.func (.func 108) #[] #[]) [x1, x2]) z2 fun a4p F1 =>
 opK Tryd.prog E (xV (Instr.extract a4p 0)) F1 fun g3m D3 =>
 opK Tryd.prog E (xV (Instr.extract a4p 1)) D3 fun g3n F5 =>
 R (Value.tuple #[g3m, g3n]) F5)
 (opK Tryd.prog E (xCall (Value.func (.func 109) #[] #[]) [x1, x2]) z2 fun c3w D4 =>
 opK Tryd.prog E (xV (Instr.extract c3w 0)) D4 fun d0w D9 =>
 opK Tryd.prog E (xV (Instr.extract c3w 1)) D9 fun g3o M5 =>
 R (Value.tuple #[d0w, g3o]) M5)))))
noncomputable def c71 : Code := Tryd.f71.body.getD .skip
def h71 : Hint := (.seq .none (.seq (.seq .none (.block (.seq .none (.cond (.seq .none .none) (.seq .none (.cond (.seq .none .none) (.seq .none (.cond (.seq .none .none) (.seq .none (.cond (.seq .none .none) (.seq .none (.cond (.seq .none .none) .none)))))))))))) (.seq .none .none)))
theorem g3p (x0 x1 x2 : Value) (w : World) (R : Value → World → Prop) (E : Pan) : F71 x0 x1 x2 w R E = callX Tryd.prog [.tmp 6, .tmp 7] c71 h71 [x0, x1, x2] w R E := by kernel_rfl
theorem g3q {x0 x1 x2 : Value} {w : World} {R : Value → World → Prop} {E : Pan} (h : F71 x0 x1 x2 w R E) : Cv Tryd.prog 71 #[x0, x1, x2] w R E := by
 refine g7 (args := [x0, x1, x2]) (c := c71) (h := h71) (rs := [.tmp 6, .tmp 7]) Tryd.func71 (by kernel_rfl) (by kernel_rfl) (Nat.le_of_ble_eq_true (by kernel_rfl)) (by kernel_rfl) (by kernel_rfl) (by kernel_rfl) ?_
 rw [← g3p]
 exact h
def F75 (x0 x1 x2 : Value) (w : World) (R : Value → World → Prop) (E : Pan) : Prop :=
 opK Tryd.prog E (xBin .lss 3 (.tmp 7) (.const (Value.int .i64 1)) x0 (Value.int .i64 1)) w fun b4G w_2 =>
 opK Tryd.prog E (gsem (asB b4G) false (xBin .gtr 3 (.tmp 10) (.const (Value.int .i64 6)) (gval (asB b4G) false x0) (Value.int .i64 6))) w_2 fun a1S w_4 =>
 opK Tryd.prog E (xPick b4G (Value.bool true) a1S) w_4 fun a7a w_6 =>
 xcond a7a
 (R (Value.bool false) w_6)
 (opK Tryd.prog E (xCall (Value.func (.func 110) #[] #[]) []) w_6 fun R7 w_8 =>
 opK Tryd.prog E (xV (Instr.index 171 R7 x0)) w_8 fun b6o l0 =>
 opK Tryd.prog E (xCall b6o [x1, x2]) l0 fun g3r m6 =>
 R g3r m6)
noncomputable def c75 : Code := Tryd.f75.body.getD .skip
def h75 : Hint := (.seq .none (.seq (.seq .none (.cond (.seq .none .none) .none)) (.seq .none .none)))
theorem g3s (x0 x1 x2 : Value) (w : World) (R : Value → World → Prop) (E : Pan) : F75 x0 x1 x2 w R E = callX Tryd.prog [.tmp 6] c75 h75 [x0, x1, x2] w R E := by kernel_rfl
theorem g3t {x0 x1 x2 : Value} {w : World} {R : Value → World → Prop} {E : Pan} (h : F75 x0 x1 x2 w R E) : Cv Tryd.prog 75 #[x0, x1, x2] w R E := by
 refine g7 (args := [x0, x1, x2]) (c := c75) (h := h75) (rs := [.tmp 6]) Tryd.func75 (by kernel_rfl) (by kernel_rfl) (Nat.le_of_ble_eq_true (by kernel_rfl)) (by kernel_rfl) (by kernel_rfl) (by kernel_rfl) ?_
 rw [← g3s]
 exact h
def F80 (x0 x1 x2 : Value) (w : World) (R : Value → World → Prop) (E : Pan) : Prop :=
 opK Tryd.prog E (xBin .eql 3 (.tmp 7) (.const (Value.int .i64 1)) x0 (Value.int .i64 1)) w fun a2Y w_2 =>
 xcond a2Y
 (opK Tryd.prog E (xBin .lss 2 (.tmp 10) (.tmp 11) x1 x2) w_2 fun c6Q w_4 =>
 R c6Q w_4)
 (opK Tryd.prog E (xBin .eql 3 (.tmp 7) (.const (Value.int .i64 2)) x0 (Value.int .i64 2)) w_2 fun b0u w_6 =>
 xcond b0u
 (opK Tryd.prog E (xBin .leq 2 (.tmp 15) (.tmp 16) x1 x2) w_6 fun g9G w_8 =>
 R g9G w_8)
 (opK Tryd.prog E (xBin .eql 3 (.tmp 7) (.const (Value.int .i64 3)) x0 (Value.int .i64 3)) w_6 fun d5B l0 =>
 xcond d5B
 (opK Tryd.prog E (xBin .eql 2 (.tmp 20) (.tmp 21) x1 x2) l0 fun d0Y m6 =>
 R d0Y m6)
 (opK Tryd.prog E (xBin .eql 3 (.tmp 7) (.const (Value.int .i64 4)) x0 (Value.int .i64 4)) l0 fun g3u l8 =>
 xcond g3u
 (opK Tryd.prog E (xBin .neq 2 (.tmp 25) (.tmp 26) x1 x2) l8 fun g3v o5 =>
 R g3v o5)
 (opK Tryd.prog E (xBin .eql 3 (.tmp 7) (.const (Value.int .i64 5)) x0 (Value.int .i64 5)) l8 fun g3w p5 =>
 xcond g3w
 (opK Tryd.prog E (xBin .gtr 2 (.tmp 30) (.tmp 31) x1 x2) p5 fun g3x o7 =>
 R g3x o7)
 (opK Tryd.prog E (xBin .eql 3 (.tmp 7) (.const (Value.int .i64 6)) x0 (Value.int .i64 6)) p5 fun g3y r9 =>
 xcond g3y
 (opK Tryd.prog E (xBin .geq 2 (.tmp 35) (.tmp 36) x1 x2) r9 fun c3D q8 =>
 R c3D q8)
 (R (Value.bool false) r9))))))
noncomputable def c80 : Code := Tryd.f80.body.getD .skip
def h80 : Hint := (.seq .none (.seq (.seq .none (.block (.seq .none (.cond (.seq .none .none) (.seq .none (.cond (.seq .none .none) (.seq .none (.cond (.seq .none .none) (.seq .none (.cond (.seq .none .none) (.seq .none (.cond (.seq .none .none) (.seq .none (.cond (.seq .none .none) .none)))))))))))))) (.seq .none .none)))
theorem g3z (x0 x1 x2 : Value) (w : World) (R : Value → World → Prop) (E : Pan) : F80 x0 x1 x2 w R E = callX Tryd.prog [.tmp 6] c80 h80 [x0, x1, x2] w R E := by kernel_rfl
theorem g3A {x0 x1 x2 : Value} {w : World} {R : Value → World → Prop} {E : Pan} (h : F80 x0 x1 x2 w R E) : Cv Tryd.prog 80 #[x0, x1, x2] w R E := by
 refine g7 (args := [x0, x1, x2]) (c := c80) (h := h80) (rs := [.tmp 6]) Tryd.func80 (by kernel_rfl) (by kernel_rfl) (Nat.le_of_ble_eq_true (by kernel_rfl)) (by kernel_rfl) (by kernel_rfl) (by kernel_rfl) ?_
 rw [← g3z]
 exact h
def d5C (x0 : Value) (w : World) (R : Value → World → Prop) (E : Pan) : Prop :=
 opK Tryd.prog E (xCall (Value.func (.func 27) #[] #[]) [(Value.int .i64 0), x0]) w fun c1j w_2 =>
 opK Tryd.prog E (xV (Instr.extract c1j 0)) w_2 fun b6p w_4 =>
 opK Tryd.prog E (xV (Instr.extract c1j 1)) w_4 fun b6j w_6 =>
 R (Value.tuple #[b6p, b6j]) w_6
noncomputable def g3B : Code := Tryd.f101.body.getD .skip
def g3C : Hint := (.seq .none (.seq .none .none))
theorem f0G (x0 : Value) (w : World) (R : Value → World → Prop) (E : Pan) : d5C x0 w R E = callX Tryd.prog [.tmp 2, .tmp 3] g3B g3C [x0] w R E := by kernel_rfl
theorem f0H {x0 : Value} {w : World} {R : Value → World → Prop} {E : Pan} (h : d5C x0 w R E) : Cv Tryd.prog 101 #[x0] w R E := by
 refine g7 (args := [x0]) (c := g3B) (h := g3C) (rs := [.tmp 2, .tmp 3]) Tryd.func101 (by kernel_rfl) (by kernel_rfl) (Nat.le_of_ble_eq_true (by kernel_rfl)) (by kernel_rfl) (by kernel_rfl) (by kernel_rfl) ?_
 rw [← f0G]
 exact h
def d5D (x0 : Value) (w : World) (R : Value → World → Prop) (E : Pan) : Prop :=
 opK Tryd.prog E (xBin .eql 2 (.tmp 4) (.const (Value.int .i64 (-9223372036854775808))) x0 (Value.int .i64 (-9223372036854775808))) w fun c1j w_2 =>
 xcond c1j
 (R (Value.tuple #[(Value.int .i64 0), (Value.int .i64 1)]) w_2)
 (opK Tryd.prog E (xV (Op.unary .neg x0)) w_2 fun a9L w_4 =>
 R (Value.tuple #[a9L, (Value.int .i64 0)]) w_4)
noncomputable def g3D : Code := Tryd.f104.body.getD .skip
def g3E : Hint := (.seq .none (.seq (.seq .none (.cond (.seq .none .none) .none)) (.seq .none .none)))
theorem f0I (x0 : Value) (w : World) (R : Value → World → Prop) (E : Pan) : d5D x0 w R E = callX Tryd.prog [.tmp 2, .tmp 3] g3D g3E [x0] w R E := by kernel_rfl
theorem f0J {x0 : Value} {w : World} {R : Value → World → Prop} {E : Pan} (h : d5D x0 w R E) : Cv Tryd.prog 104 #[x0] w R E := by
 refine g7 (args := [x0]) (c := g3D) (h := g3E) (rs := [.tmp 2, .tmp 3]) Tryd.func104 (by kernel_rfl) (by kernel_rfl) (Nat.le_of_ble_eq_true (by kernel_rfl)) (by kernel_rfl) (by kernel_rfl) (by kernel_rfl) ?_
 rw [← f0I]
 exact h
def d5E (x0 x1 : Value) (w : World) (R : Value → World → Prop) (E : Pan) : Prop :=
 opK Tryd.prog E (xBin .gtr 2 (.tmp 6) (.const (Value.int .i64 0)) x1 (Value.int .i64 0)) w fun Z5 w_2 =>
 opK Tryd.prog E (gsem (asB Z5) true (xBin .sub 2 (.const (Value.int .i64 9223372036854775807)) (.tmp 10) (Value.int .i64 9223372036854775807) (gval (asB Z5) true x1))) w_2 fun a1S w_4 =>
 opK Tryd.prog E (gsem (asB Z5) true (xBin .gtr 2 (.tmp 9) (.tmp 11) (gval (asB Z5) true x0) a1S)) w_4 fun a7a w_6 =>
 opK Tryd.prog E (xPick Z5 a7a (Value.bool false)) w_6 fun R7 w_8 =>
 opK Tryd.prog E (gsem (asB R7) false (xBin .lss 2 (.tmp 15) (.const (Value.int .i64 0)) (gval (asB R7) false x1) (Value.int .i64 0))) w_8 fun a1g l0 =>
 opK Tryd.prog E (gsem (asB (gval (asB R7) false a1g)) true (xBin .sub 2 (.const (Value.int .i64 (-9223372036854775808))) (.tmp 19) (Value.int .i64 (-9223372036854775808)) (gval (asB (gval (asB R7) false a1g)) true x1))) l0 fun d0Z m6 =>
 opK Tryd.prog E (gsem (asB (gval (asB R7) false a1g)) true (xBin .lss 2 (.tmp 18) (.tmp 20) (gval (asB (gval (asB R7) false a1g)) true x0) d0Z)) m6 fun d1a l8 =>
 opK Tryd.prog E (gsem (asB R7) false (xPick (gval (asB R7) false a1g) d1a (Value.bool false))) l8 fun d1b o5 =>
 opK Tryd.prog E (xPick R7 (Value.bool true) d1b) o5 fun b2V p5 =>
 xcond b2V
 (R (Value.tuple #[(Value.int .i64 0), (Value.int .i64 1)]) p5)
 (opK Tryd.prog E (xBin .add 2 (.tmp 24) (.tmp 25) x0 x1) p5 fun b5I o7 =>
 R (Value.tuple #[b5I, (Value.int .i64 0)]) o7)
noncomputable def g3F : Code := Tryd.f105.body.getD .skip
def g3G : Hint := (.seq .none (.seq (.seq .none (.cond (.seq .none .none) .none)) (.seq .none .none)))
theorem f0K (x0 x1 : Value) (w : World) (R : Value → World → Prop) (E : Pan) : d5E x0 x1 w R E = callX Tryd.prog [.tmp 4, .tmp 5] g3F g3G [x0, x1] w R E := by kernel_rfl
theorem f0L {x0 x1 : Value} {w : World} {R : Value → World → Prop} {E : Pan} (h : d5E x0 x1 w R E) : Cv Tryd.prog 105 #[x0, x1] w R E := by
 refine g7 (args := [x0, x1]) (c := g3F) (h := g3G) (rs := [.tmp 4, .tmp 5]) Tryd.func105 (by kernel_rfl) (by kernel_rfl) (Nat.le_of_ble_eq_true (by kernel_rfl)) (by kernel_rfl) (by kernel_rfl) (by kernel_rfl) ?_
 rw [← f0K]
 exact h
def d5F (x0 x1 : Value) (w : World) (R : Value → World → Prop) (E : Pan) : Prop :=
 opK Tryd.prog E (xBin .lss 2 (.tmp 6) (.const (Value.int .i64 0)) x1 (Value.int .i64 0)) w fun Z5 w_2 =>
 opK Tryd.prog E (gsem (asB Z5) true (xBin .add 2 (.const (Value.int .i64 9223372036854775807)) (.tmp 10) (Value.int .i64 9223372036854775807) (gval (asB Z5) true x1))) w_2 fun a1S w_4 =>
 opK Tryd.prog E (gsem (asB Z5) true (xBin .gtr 2 (.tmp 9) (.tmp 11) (gval (asB Z5) true x0) a1S)) w_4 fun a7a w_6 =>
 opK Tryd.prog E (xPick Z5 a7a (Value.bool false)) w_6 fun R7 w_8 =>
 opK Tryd.prog E (gsem (asB R7) false (xBin .gtr 2 (.tmp 15) (.const (Value.int .i64 0)) (gval (asB R7) false x1) (Value.int .i64 0))) w_8 fun a1g l0 =>
 opK Tryd.prog E (gsem (asB (gval (asB R7) false a1g)) true (xBin .add 2 (.const (Value.int .i64 (-9223372036854775808))) (.tmp 19) (Value.int .i64 (-9223372036854775808)) (gval (asB (gval (asB R7) false a1g)) true x1))) l0 fun d0Z m6 =>
 opK Tryd.prog E (gsem (asB (gval (asB R7) false a1g)) true (xBin .lss 2 (.tmp 18) (.tmp 20) (gval (asB (gval (asB R7) false a1g)) true x0) d0Z)) m6 fun d1a l8 =>
 opK Tryd.prog E (gsem (asB R7) false (xPick (gval (asB R7) false a1g) d1a (Value.bool false))) l8 fun d1b o5 =>
 opK Tryd.prog E (xPick R7 (Value.bool true) d1b) o5 fun b2V p5 =>
 xcond b2V
 (R (Value.tuple #[(Value.int .i64 0), (Value.int .i64 1)]) p5)
 (opK Tryd.prog E (xBin .sub 2 (.tmp 24) (.tmp 25) x0 x1) p5 fun b5I o7 =>
 R (Value.tuple #[b5I, (Value.int .i64 0)]) o7)
noncomputable def g3H : Code := Tryd.f106.body.getD .skip
def g3I : Hint := (.seq .none (.seq (.seq .none (.cond (.seq .none .none) .none)) (.seq .none .none)))
theorem f0M (x0 x1 : Value) (w : World) (R : Value → World → Prop) (E : Pan) : d5F x0 x1 w R E = callX Tryd.prog [.tmp 4, .tmp 5] g3H g3I [x0, x1] w R E := by kernel_rfl
theorem f0N {x0 x1 : Value} {w : World} {R : Value → World → Prop} {E : Pan} (h : d5F x0 x1 w R E) : Cv Tryd.prog 106 #[x0, x1] w R E := by
 refine g7 (args := [x0, x1]) (c := g3H) (h := g3I) (rs := [.tmp 4, .tmp 5]) Tryd.func106 (by kernel_rfl) (by kernel_rfl) (Nat.le_of_ble_eq_true (by kernel_rfl)) (by kernel_rfl) (by kernel_rfl) (by kernel_rfl) ?_
 rw [← f0M]
 exact h
def d5G (x0 x1 : Value) (w : World) (R : Value → World → Prop) (E : Pan) : Prop :=
 opK Tryd.prog E (xBin .eql 2 (.tmp 7) (.const (Value.int .i64 0)) x0 (Value.int .i64 0)) w fun b4G w_2 =>
 opK Tryd.prog E (gsem (asB b4G) false (xBin .eql 2 (.tmp 10) (.const (Value.int .i64 0)) (gval (asB b4G) false x1) (Value.int .i64 0))) w_2 fun a1S w_4 =>
 opK Tryd.prog E (xPick b4G (Value.bool true) a1S) w_4 fun a7a w_6 =>
 xcond a7a
 (R (Value.tuple #[(Value.int .i64 0), (Value.int .i64 0)]) w_6)
 (opK Tryd.prog E (xBin .eql 2 (.tmp 13) (.const (Value.int .i64 (-1))) x0 (Value.int .i64 (-1))) w_6 fun Y1 w_8 =>
 xcond Y1
 (opK Tryd.prog E (xCall (Value.func (.func 104) #[] #[]) [x1]) w_8 fun a1g l0 =>
 opK Tryd.prog E (xV (Instr.extract a1g 0)) l0 fun b5J m6 =>
 opK Tryd.prog E (xV (Instr.extract a1g 1)) m6 fun a4U l8 =>
 R (Value.tuple #[b5J, a4U]) l8)
 (opK Tryd.prog E (xBin .eql 2 (.tmp 19) (.const (Value.int .i64 (-1))) x1 (Value.int .i64 (-1))) w_8 fun b2d o5 =>
 xcond b2d
 (opK Tryd.prog E (xCall (Value.func (.func 104) #[] #[]) [x0]) o5 fun b5v p5 =>
 opK Tryd.prog E (xV (Instr.extract b5v 0)) p5 fun d0v o7 =>
 opK Tryd.prog E (xV (Instr.extract b5v 1)) o7 fun g3J r9 =>
 R (Value.tuple #[d0v, g3J]) r9)
 (opK Tryd.prog E (xBin .mul 2 (.tmp 25) (.tmp 26) x0 x1) o5 fun e0l q8 =>
 opK Tryd.prog E (xBin .quo 2 (.tmp 28) (.tmp 29) e0l x1) q8 fun d0X t7 =>
 opK Tryd.prog E (xBin .neq 2 (.tmp 30) (.tmp 31) d0X x0) t7 fun g3K w4 =>
 xcond g3K
 (R (Value.tuple #[(Value.int .i64 0), (Value.int .i64 1)]) w4)
 (R (Value.tuple #[e0l, (Value.int .i64 0)]) w4))))
noncomputable def g3L : Code := Tryd.f107.body.getD .skip
def g3M : Hint := (.seq .none (.seq (.seq .none (.cond (.seq .none .none) .none)) (.seq (.seq .none (.cond (.seq .none .none) .none)) (.seq (.seq .none (.cond (.seq .none .none) .none)) (.seq .none (.seq (.seq .none (.cond (.seq .none .none) .none)) (.seq .none .none)))))))
theorem f0O (x0 x1 : Value) (w : World) (R : Value → World → Prop) (E : Pan) : d5G x0 x1 w R E = callX Tryd.prog [.tmp 4, .tmp 5] g3L g3M [x0, x1] w R E := by kernel_rfl
theorem f0P {x0 x1 : Value} {w : World} {R : Value → World → Prop} {E : Pan} (h : d5G x0 x1 w R E) : Cv Tryd.prog 107 #[x0, x1] w R E := by
 refine g7 (args := [x0, x1]) (c := g3L) (h := g3M) (rs := [.tmp 4, .tmp 5]) Tryd.func107 (by kernel_rfl) (by kernel_rfl) (Nat.le_of_ble_eq_true (by kernel_rfl)) (by kernel_rfl) (by kernel_rfl) (by kernel_rfl) ?_
 rw [← f0O]
 exact h
def d5H (x0 x1 : Value) (w : World) (R : Value → World → Prop) (E : Pan) : Prop :=
 opK Tryd.prog E (xCall (Value.func (.func 122) #[] #[]) [x0, x1]) w fun a2Y w_2 =>
 opK Tryd.prog E (xBin .neq 3 (.tmp 10) (.const (Value.int .i64 0)) a2Y (Value.int .i64 0)) w_2 fun a1S w_4 =>
 xcond a1S
 (R (Value.tuple #[(Value.int .i64 0), a2Y]) w_4)
 (opK Tryd.prog E (xBin .quo 2 (.tmp 13) (.tmp 14) x0 x1) w_4 fun c3C w_6 =>
 R (Value.tuple #[c3C, (Value.int .i64 0)]) w_6)
noncomputable def g3N : Code := Tryd.f108.body.getD .skip
def g3O : Hint := (.seq .none (.seq .none (.seq (.seq .none (.cond (.seq .none .none) .none)) (.seq .none .none))))
theorem f0Q (x0 x1 : Value) (w : World) (R : Value → World → Prop) (E : Pan) : d5H x0 x1 w R E = callX Tryd.prog [.tmp 4, .tmp 5] g3N g3O [x0, x1] w R E := by kernel_rfl
theorem f0R {x0 x1 : Value} {w : World} {R : Value → World → Prop} {E : Pan} (h : d5H x0 x1 w R E) : Cv Tryd.prog 108 #[x0, x1] w R E := by
 refine g7 (args := [x0, x1]) (c := g3N) (h := g3O) (rs := [.tmp 4, .tmp 5]) Tryd.func108 (by kernel_rfl) (by kernel_rfl) (Nat.le_of_ble_eq_true (by kernel_rfl)) (by kernel_rfl) (by kernel_rfl) (by kernel_rfl) ?_
 rw [← f0Q]
 exact h
def d5I (x0 x1 : Value) (w : World) (R : Value → World → Prop) (E : Pan) : Prop :=
 opK Tryd.prog E (xCall (Value.func (.func 122) #[] #[]) [x0, x1]) w fun a2Y w_2 =>
 opK Tryd.prog E (xBin .neq 3 (.tmp 10) (.const (Value.int .i64 0)) a2Y (Value.int .i64 0)) w_2 fun a1S w_4 =>
 xcond a1S
 (R (Value.tuple #[(Value.int .i64 0), a2Y]) w_4)
 (opK Tryd.prog E (xBin .quo 2 (.tmp 14) (.tmp 15) x0 x1) w_4 fun g9H w_6 =>
 opK Tryd.prog E (xBin .mul 2 (.tmp 16) (.tmp 17) g9H x1) w_6 fun g9I w_8 =>
 opK Tryd.prog E (xBin .sub 2 (.tmp 13) (.tmp 18) x0 g9I) w_8 fun d5B l0 =>
 R (Value.tuple #[d5B, (Value.int .i64 0)]) l0)
noncomputable def g3P : Code := Tryd.f109.body.getD .skip
def g3Q : Hint := (.seq .none (.seq .none (.seq (.seq .none (.cond (.seq .none .none) .none)) (.seq .none .none))))
theorem f0S (x0 x1 : Value) (w : World) (R : Value → World → Prop) (E : Pan) : d5I x0 x1 w R E = callX Tryd.prog [.tmp 4, .tmp 5] g3P g3Q [x0, x1] w R E := by kernel_rfl
theorem f0T {x0 x1 : Value} {w : World} {R : Value → World → Prop} {E : Pan} (h : d5I x0 x1 w R E) : Cv Tryd.prog 109 #[x0, x1] w R E := by
 refine g7 (args := [x0, x1]) (c := g3P) (h := g3Q) (rs := [.tmp 4, .tmp 5]) Tryd.func109 (by kernel_rfl) (by kernel_rfl) (Nat.le_of_ble_eq_true (by kernel_rfl)) (by kernel_rfl) (by kernel_rfl) (by kernel_rfl) ?_
 rw [← f0S]
 exact h
def d5J (w : World) (R : Value → World → Prop) (E : Pan) : Prop :=
 opK Tryd.prog E (xV (Instr.alloc 171 true (.tuple #[]))) w fun g3R w_2 =>
 opK Tryd.prog E (xV (Instr.build 171 #[(0, (Value.func (.func 123) #[] #[])), (1, (Value.func (.func 124) #[] #[])), (2, (Value.func (.func 125) #[] #[])), (3, (Value.func (.func 126) #[] #[])), (4, (Value.func (.func 127) #[] #[])), (5, (Value.func (.func 128) #[] #[])), (6, (Value.func (.func 129) #[] #[]))])) w_2 fun h5n w_4 =>
 opK Tryd.prog E (xU (Instr.storeAt 171 g3R h5n)) w_4 fun _z_5 w_6 =>
 xcell Tryd.prog 171 g3R w_6 fun r_7 =>
 R r_7 w_6
noncomputable def g3S : Code := Tryd.f110.body.getD .skip
def g3T : Hint := (.seq .none (.seq .none .none))
theorem f0U (w : World) (R : Value → World → Prop) (E : Pan) : d5J  w R E = callX Tryd.prog [.cell 0 171] g3S g3T [] w R E := by kernel_rfl
theorem f0V {w : World} {R : Value → World → Prop} {E : Pan} (h : d5J  w R E) : Cv Tryd.prog 110 #[] w R E := by
 refine g7 (args := []) (c := g3S) (h := g3T) (rs := [.cell 0 171]) Tryd.func110 (by kernel_rfl) (by kernel_rfl) (Nat.zero_le _) (by kernel_rfl) (by kernel_rfl) (by kernel_rfl) ?_
 rw [← f0U]
 exact h
def d5K (x0 x1 : Value) (w : World) (R : Value → World → Prop) (E : Pan) : Prop :=
 opK Tryd.prog E (xBin .eql 2 (.tmp 5) (.const (Value.int .i64 0)) x1 (Value.int .i64 0)) w fun a7s w_2 =>
 xcond a7s
 (R (Value.int .i64 2) w_2)
 (opK Tryd.prog E (xBin .eql 2 (.tmp 7) (.const (Value.int .i64 (-9223372036854775808))) x0 (Value.int .i64 (-9223372036854775808))) w_2 fun a8N w_4 =>
 opK Tryd.prog E (gsem (asB a8N) true (xBin .eql 2 (.tmp 10) (.const (Value.int .i64 (-1))) (gval (asB a8N) true x1) (Value.int .i64 (-1)))) w_4 fun a5g w_6 =>
 opK Tryd.prog E (xPick a8N a5g (Value.bool false)) w_6 fun a2I w_8 =>
 xcond a2I
 (R (Value.int .i64 1) w_8)
 (R (Value.int .i64 0) w_8))
noncomputable def g3U : Code := Tryd.f122.body.getD .skip
def g3V : Hint := (.seq .none (.seq (.seq .none (.cond (.seq .none .none) .none)) (.seq (.seq .none (.cond (.seq .none .none) .none)) (.seq .none .none))))
theorem f0W (x0 x1 : Value) (w : World) (R : Value → World → Prop) (E : Pan) : d5K x0 x1 w R E = callX Tryd.prog [.tmp 4] g3U g3V [x0, x1] w R E := by kernel_rfl
theorem f0X {x0 x1 : Value} {w : World} {R : Value → World → Prop} {E : Pan} (h : d5K x0 x1 w R E) : Cv Tryd.prog 122 #[x0, x1] w R E := by
 refine g7 (args := [x0, x1]) (c := g3U) (h := g3V) (rs := [.tmp 4]) Tryd.func122 (by kernel_rfl) (by kernel_rfl) (Nat.le_of_ble_eq_true (by kernel_rfl)) (by kernel_rfl) (by kernel_rfl) (by kernel_rfl) ?_
 rw [← f0W]
 exact h
def d5L (x0 x1 : Value) (w : World) (R : Value → World → Prop) (E : Pan) : Prop :=
 opK Tryd.prog E (xBin .lss 2 (.tmp 5) (.tmp 6) x0 x1) w fun Z5 w_2 =>
 R Z5 w_2
noncomputable def g3W : Code := Tryd.f124.body.getD .skip
def g3X : Hint := (.seq .none (.seq .none .none))
theorem f0Y (x0 x1 : Value) (w : World) (R : Value → World → Prop) (E : Pan) : d5L x0 x1 w R E = callX Tryd.prog [.tmp 4] g3W g3X [x0, x1] w R E := by kernel_rfl
theorem f0Z {x0 x1 : Value} {w : World} {R : Value → World → Prop} {E : Pan} (h : d5L x0 x1 w R E) : Cv Tryd.prog 124 #[x0, x1] w R E := by
 refine g7 (args := [x0, x1]) (c := g3W) (h := g3X) (rs := [.tmp 4]) Tryd.func124 (by kernel_rfl) (by kernel_rfl) (Nat.le_of_ble_eq_true (by kernel_rfl)) (by kernel_rfl) (by kernel_rfl) (by kernel_rfl) ?_
 rw [← f0Y]
 exact h
def d5M (x0 x1 : Value) (w : World) (R : Value → World → Prop) (E : Pan) : Prop :=
 opK Tryd.prog E (xBin .leq 2 (.tmp 5) (.tmp 6) x0 x1) w fun Z5 w_2 =>
 R Z5 w_2
noncomputable def g3Y : Code := Tryd.f125.body.getD .skip
def g3Z : Hint := (.seq .none (.seq .none .none))
theorem f1a (x0 x1 : Value) (w : World) (R : Value → World → Prop) (E : Pan) : d5M x0 x1 w R E = callX Tryd.prog [.tmp 4] g3Y g3Z [x0, x1] w R E := by kernel_rfl
theorem f1b {x0 x1 : Value} {w : World} {R : Value → World → Prop} {E : Pan} (h : d5M x0 x1 w R E) : Cv Tryd.prog 125 #[x0, x1] w R E := by
 refine g7 (args := [x0, x1]) (c := g3Y) (h := g3Z) (rs := [.tmp 4]) Tryd.func125 (by kernel_rfl) (by kernel_rfl) (Nat.le_of_ble_eq_true (by kernel_rfl)) (by kernel_rfl) (by kernel_rfl) (by kernel_rfl) ?_
 rw [← f1a]
 exact h
def d5N (x0 x1 : Value) (w : World) (R : Value → World → Prop) (E : Pan) : Prop :=
 opK Tryd.prog E (xBin .eql 2 (.tmp 5) (.tmp 6) x0 x1) w fun Z5 w_2 =>
 R Z5 w_2
noncomputable def g4a : Code := Tryd.f126.body.getD .skip
def g4b : Hint := (.seq .none (.seq .none .none))
theorem f1c (x0 x1 : Value) (w : World) (R : Value → World → Prop) (E : Pan) : d5N x0 x1 w R E = callX Tryd.prog [.tmp 4] g4a g4b [x0, x1] w R E := by kernel_rfl
theorem f1d {x0 x1 : Value} {w : World} {R : Value → World → Prop} {E : Pan} (h : d5N x0 x1 w R E) : Cv Tryd.prog 126 #[x0, x1] w R E := by
 refine g7 (args := [x0, x1]) (c := g4a) (h := g4b) (rs := [.tmp 4]) Tryd.func126 (by kernel_rfl) (by kernel_rfl) (Nat.le_of_ble_eq_true (by kernel_rfl)) (by kernel_rfl) (by kernel_rfl) (by kernel_rfl) ?_
 rw [← f1c]
 exact h
def d5O (x0 x1 : Value) (w : World) (R : Value → World → Prop) (E : Pan) : Prop :=
 opK Tryd.prog E (xBin .neq 2 (.tmp 5) (.tmp 6) x0 x1) w fun Z5 w_2 =>
 R Z5 w_2
noncomputable def g4c : Code := Tryd.f127.body.getD .skip
def g4d : Hint := (.seq .none (.seq .none .none))
theorem f1e (x0 x1 : Value) (w : World) (R : Value → World → Prop) (E : Pan) : d5O x0 x1 w R E = callX Tryd.prog [.tmp 4] g4c g4d [x0, x1] w R E := by kernel_rfl
theorem f1f {x0 x1 : Value} {w : World} {R : Value → World → Prop} {E : Pan} (h : d5O x0 x1 w R E) : Cv Tryd.prog 127 #[x0, x1] w R E := by
 refine g7 (args := [x0, x1]) (c := g4c) (h := g4d) (rs := [.tmp 4]) Tryd.func127 (by kernel_rfl) (by kernel_rfl) (Nat.le_of_ble_eq_true (by kernel_rfl)) (by kernel_rfl) (by kernel_rfl) (by kernel_rfl) ?_
 rw [← f1e]
 exact h
def d5P (x0 x1 : Value) (w : World) (R : Value → World → Prop) (E : Pan) : Prop :=
 opK Tryd.prog E (xBin .gtr 2 (.tmp 5) (.tmp 6) x0 x1) w fun Z5 w_2 =>
 R Z5 w_2
noncomputable def g4e : Code := Tryd.f128.body.getD .skip
def g4f : Hint := (.seq .none (.seq .none .none))
theorem f1g (x0 x1 : Value) (w : World) (R : Value → World → Prop) (E : Pan) : d5P x0 x1 w R E = callX Tryd.prog [.tmp 4] g4e g4f [x0, x1] w R E := by kernel_rfl
theorem f1h {x0 x1 : Value} {w : World} {R : Value → World → Prop} {E : Pan} (h : d5P x0 x1 w R E) : Cv Tryd.prog 128 #[x0, x1] w R E := by
 refine g7 (args := [x0, x1]) (c := g4e) (h := g4f) (rs := [.tmp 4]) Tryd.func128 (by kernel_rfl) (by kernel_rfl) (Nat.le_of_ble_eq_true (by kernel_rfl)) (by kernel_rfl) (by kernel_rfl) (by kernel_rfl) ?_
 rw [← f1g]
 exact h
def d5Q (x0 x1 : Value) (w : World) (R : Value → World → Prop) (E : Pan) : Prop :=
 opK Tryd.prog E (xBin .geq 2 (.tmp 5) (.tmp 6) x0 x1) w fun Z5 w_2 =>
 R Z5 w_2
noncomputable def g4g : Code := Tryd.f129.body.getD .skip
def g4h : Hint := (.seq .none (.seq .none .none))
theorem f1i (x0 x1 : Value) (w : World) (R : Value → World → Prop) (E : Pan) : d5Q x0 x1 w R E = callX Tryd.prog [.tmp 4] g4g g4h [x0, x1] w R E := by kernel_rfl
theorem f1j {x0 x1 : Value} {w : World} {R : Value → World → Prop} {E : Pan} (h : d5Q x0 x1 w R E) : Cv Tryd.prog 129 #[x0, x1] w R E := by
 refine g7 (args := [x0, x1]) (c := g4g) (h := g4h) (rs := [.tmp 4]) Tryd.func129 (by kernel_rfl) (by kernel_rfl) (Nat.le_of_ble_eq_true (by kernel_rfl)) (by kernel_rfl) (by kernel_rfl) (by kernel_rfl) ?_
 rw [← f1i]
 exact h
end Go.Proofs.YtnhkdkcgdcgmdaaDoor
