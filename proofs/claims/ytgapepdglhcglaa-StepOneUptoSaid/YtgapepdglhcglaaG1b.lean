/-
  The second reading of some of the program's functions, printed by gen2.py off the code; each is held against the code by the kernel.
-/
import Derived.Test.YtgapepdglhcglaaGO
namespace Go.Proofs.Ytgapepdglhcglaa
open Go.RowKit
set_option maxRecDepth 100000

/- function 53: (gnomon/cfg.graph).variable -/
def F53 (x0 x1 : Value) (w : World) (R : Value → World → Prop) (E : Pan) : Prop :=
 opK Try.prog E (xV (Instr.box 81 x0)) w fun t2_1 w_2 =>
 opK Try.prog E (xBin .geq 3 (.tmp 5) (.const (Value.int .i64 0)) x1 (Value.int .i64 0)) w_2 fun t6_3 w_4 =>
 opK Try.prog E (gsem (asB t6_3) true (xV (Instr.fieldAt 81 t2_1 0))) w_4 fun t9_5 w_6 =>
 opK Try.prog E (gsem (asB t6_3) true (xV (Instr.fieldAt 26 t9_5 0))) w_6 fun t10_7 w_8 =>
 opK Try.prog E (gsem (asB t6_3) true (xV (Instr.loadAt 22 t10_7))) w_8 fun t11_9 w_10 =>
 opK Try.prog E (gsem (asB t6_3) true (xBuiltin .len #[22] 3 [false] [t11_9])) w_10 fun t12_11 w_12 =>
 opK Try.prog E (gsem (asB t6_3) true (xV (Instr.fieldAt 81 t2_1 0))) w_12 fun t13_13 w_14 =>
 opK Try.prog E (gsem (asB t6_3) true (xV (Instr.fieldAt 26 t13_13 1))) w_14 fun t14_15 w_16 =>
 opK Try.prog E (gsem (asB t6_3) true (xV (Instr.loadAt 3 t14_15))) w_16 fun t15_17 w_18 =>
 opK Try.prog E (gsem (asB t6_3) true (xBin .add 3 (.tmp 12) (.tmp 15) t12_11 t15_17)) w_18 fun t16_19 w_20 =>
 opK Try.prog E (gsem (asB t6_3) true (xBin .lss 3 (.tmp 8) (.tmp 16) (gval (asB t6_3) true x1) t16_19)) w_20 fun t17_21 w_22 =>
 opK Try.prog E (xPick t6_3 t17_21 (Value.bool false)) w_22 fun t18_23 w_24 =>
 R t18_23 w_24
noncomputable def c53 : Code := Try.f53.body.getD .skip
def h53 : Hint := (.seq .none (.seq .none .none))
theorem F53_eq (x0 x1 : Value) (w : World) (R : Value → World → Prop) (E : Pan) : F53 x0 x1 w R E = callX Try.prog [.tmp 4] c53 h53 [x0, x1] w R E := by kernel_rfl
theorem F53_ok {x0 x1 : Value} {w : World} {R : Value → World → Prop} {E : Pan} (h : F53 x0 x1 w R E) : Cv Try.prog 53 #[x0, x1] w R E := by
 refine callX_sound (args := [x0, x1]) (c := c53) (h := h53) (rs := [.tmp 4]) Try.func53 (by kernel_rfl) (by kernel_rfl) (Nat.le_of_ble_eq_true (by kernel_rfl)) (by kernel_rfl) (by kernel_rfl) (by kernel_rfl) ?_
 rw [← F53_eq]
 exact h

/- function 54: (gnomon/cfg.graph).array -/
def F54 (x0 x1 : Value) (w : World) (R : Value → World → Prop) (E : Pan) : Prop :=
 opK Try.prog E (xV (Instr.box 81 x0)) w fun t2_1 w_2 =>
 opK Try.prog E (xBin .geq 3 (.tmp 5) (.const (Value.int .i64 0)) x1 (Value.int .i64 0)) w_2 fun t6_3 w_4 =>
 opK Try.prog E (gsem (asB t6_3) true (xV (Instr.fieldAt 81 t2_1 0))) w_4 fun t9_5 w_6 =>
 opK Try.prog E (gsem (asB t6_3) true (xV (Instr.fieldAt 26 t9_5 2))) w_6 fun t10_7 w_8 =>
 opK Try.prog E (gsem (asB t6_3) true (xV (Instr.loadAt 23 t10_7))) w_8 fun t11_9 w_10 =>
 opK Try.prog E (gsem (asB t6_3) true (xBuiltin .len #[23] 3 [false] [t11_9])) w_10 fun t12_11 w_12 =>
 opK Try.prog E (gsem (asB t6_3) true (xBin .lss 3 (.tmp 8) (.tmp 12) (gval (asB t6_3) true x1) t12_11)) w_12 fun t13_13 w_14 =>
 opK Try.prog E (xPick t6_3 t13_13 (Value.bool false)) w_14 fun t14_15 w_16 =>
 R t14_15 w_16
noncomputable def c54 : Code := Try.f54.body.getD .skip
def h54 : Hint := (.seq .none (.seq .none .none))
theorem F54_eq (x0 x1 : Value) (w : World) (R : Value → World → Prop) (E : Pan) : F54 x0 x1 w R E = callX Try.prog [.tmp 4] c54 h54 [x0, x1] w R E := by kernel_rfl
theorem F54_ok {x0 x1 : Value} {w : World} {R : Value → World → Prop} {E : Pan} (h : F54 x0 x1 w R E) : Cv Try.prog 54 #[x0, x1] w R E := by
 refine callX_sound (args := [x0, x1]) (c := c54) (h := h54) (rs := [.tmp 4]) Try.func54 (by kernel_rfl) (by kernel_rfl) (Nat.le_of_ble_eq_true (by kernel_rfl)) (by kernel_rfl) (by kernel_rfl) (by kernel_rfl) ?_
 rw [← F54_eq]
 exact h

/- function 55: (gnomon/cfg.graph).operand -/
def F55 (x0 x1 : Value) (w : World) (R : Value → World → Prop) (E : Pan) : Prop :=
 opK Try.prog E (xV (Instr.box 81 x0)) w fun t2_1 w_2 =>
 opK Try.prog E (xV (Instr.box 50 x1)) w_2 fun t3_3 w_4 =>
 opK Try.prog E (xV (Instr.fieldAt 50 t3_3 0)) w_4 fun t5_5 w_6 =>
 opK Try.prog E (xV (Instr.loadAt 3 t5_5)) w_6 fun t6_7 w_8 =>
 opK Try.prog E (xBin .eql 3 (.tmp 6) (.const (Value.int .i64 (-1))) t6_7 (Value.int .i64 (-1))) w_8 fun t7_9 w_10 =>
 opK Try.prog E (gsem (asB t7_9) false (xV (Instr.loadAt 81 t2_1))) w_10 fun t9_11 w_12 =>
 opK Try.prog E (gsem (asB t7_9) false (xV (Instr.fieldAt 50 t3_3 0))) w_12 fun t10_13 w_14 =>
 opK Try.prog E (gsem (asB t7_9) false (xV (Instr.loadAt 3 t10_13))) w_14 fun t11_15 w_16 =>
 opK Try.prog E (gsem (asB t7_9) false (xCall (Value.func (.func 53) #[] #[]) [t9_11, t11_15])) w_16 fun t12_17 w_18 =>
 opK Try.prog E (gsem (asB (gval (asB t7_9) false t12_17)) true (xV (Instr.fieldAt 50 t3_3 1))) w_18 fun t14_19 w_20 =>
 opK Try.prog E (gsem (asB (gval (asB t7_9) false t12_17)) true (xV (Instr.loadAt 2 t14_19))) w_20 fun t15_21 w_22 =>
 opK Try.prog E (gsem (asB (gval (asB t7_9) false t12_17)) true (xBin .eql 2 (.tmp 15) (.const (Value.int .i64 0)) t15_21 (Value.int .i64 0))) w_22 fun t16_23 w_24 =>
 opK Try.prog E (gsem (asB t7_9) false (xPick (gval (asB t7_9) false t12_17) t16_23 (Value.bool false))) w_24 fun t17_25 w_26 =>
 opK Try.prog E (xPick t7_9 (Value.bool true) t17_25) w_26 fun t18_27 w_28 =>
 R t18_27 w_28
noncomputable def c55 : Code := Try.f55.body.getD .skip
def h55 : Hint := (.seq .none (.seq .none .none))
theorem F55_eq (x0 x1 : Value) (w : World) (R : Value → World → Prop) (E : Pan) : F55 x0 x1 w R E = callX Try.prog [.tmp 4] c55 h55 [x0, x1] w R E := by kernel_rfl
theorem F55_ok {x0 x1 : Value} {w : World} {R : Value → World → Prop} {E : Pan} (h : F55 x0 x1 w R E) : Cv Try.prog 55 #[x0, x1] w R E := by
 refine callX_sound (args := [x0, x1]) (c := c55) (h := h55) (rs := [.tmp 4]) Try.func55 (by kernel_rfl) (by kernel_rfl) (Nat.le_of_ble_eq_true (by kernel_rfl)) (by kernel_rfl) (by kernel_rfl) (by kernel_rfl) ?_
 rw [← F55_eq]
 exact h

/- function 56: gnomon/cfg.nothing -/
def F56 (w : World) (R : Value → World → Prop) (E : Pan) : Prop :=
 opK Try.prog E (xV (Instr.alloc 50 true (.tuple #[]))) w fun t0_1 w_2 =>
 opK Try.prog E (xV (Instr.build 50 #[(0, (Value.int .i64 (-1)))])) w_2 fun t1_3 w_4 =>
 opK Try.prog E (xU (Instr.storeAt 50 t0_1 t1_3)) w_4 fun _z_5 w_6 =>
 xcell Try.prog 50 t0_1 w_6 fun r_7 =>
 R r_7 w_6
noncomputable def c56 : Code := Try.f56.body.getD .skip
def h56 : Hint := (.seq .none (.seq .none .none))
theorem F56_eq (w : World) (R : Value → World → Prop) (E : Pan) : F56  w R E = callX Try.prog [.cell 0 50] c56 h56 [] w R E := by kernel_rfl
theorem F56_ok {w : World} {R : Value → World → Prop} {E : Pan} (h : F56  w R E) : Cv Try.prog 56 #[] w R E := by
 refine callX_sound (args := []) (c := c56) (h := h56) (rs := [.cell 0 50]) Try.func56 (by kernel_rfl) (by kernel_rfl) (Nat.zero_le _) (by kernel_rfl) (by kernel_rfl) (by kernel_rfl) ?_
 rw [← F56_eq]
 exact h

/- function 57: gnomon/num.Not -/
def F57 (x0 : Value) (w : World) (R : Value → World → Prop) (E : Pan) : Prop :=
 opK Try.prog E (xBin .lss 3 (.tmp 3) (.const (Value.int .i64 1)) x0 (Value.int .i64 1)) w fun t4_1 w_2 =>
 opK Try.prog E (gsem (asB t4_1) false (xBin .gtr 3 (.tmp 6) (.const (Value.int .i64 6)) (gval (asB t4_1) false x0) (Value.int .i64 6))) w_2 fun t7_3 w_4 =>
 opK Try.prog E (xPick t4_1 (Value.bool true) t7_3) w_4 fun t8_5 w_6 =>
 xcond t8_5
 (R (Value.int .i64 0) w_6)
 (opK Try.prog E (xV (Instr.build 110 #[(0, (Value.int .i64 0)), (1, (Value.int .i64 6)), (2, (Value.int .i64 5)), (3, (Value.int .i64 4)), (4, (Value.int .i64 3)), (5, (Value.int .i64 2)), (6, (Value.int .i64 1))])) w_6 fun t9_7 w_8 =>
 opK Try.prog E (xV (Instr.index 110 t9_7 x0)) w_8 fun t11_9 w_10 =>
 R t11_9 w_10)
noncomputable def c57 : Code := Try.f57.body.getD .skip
def h57 : Hint := (.seq .none (.seq (.seq .none (.cond (.seq .none .none) .none)) (.seq .none .none)))
theorem F57_eq (x0 : Value) (w : World) (R : Value → World → Prop) (E : Pan) : F57 x0 w R E = callX Try.prog [.tmp 2] c57 h57 [x0] w R E := by kernel_rfl
theorem F57_ok {x0 : Value} {w : World} {R : Value → World → Prop} {E : Pan} (h : F57 x0 w R E) : Cv Try.prog 57 #[x0] w R E := by
 refine callX_sound (args := [x0]) (c := c57) (h := h57) (rs := [.tmp 2]) Try.func57 (by kernel_rfl) (by kernel_rfl) (Nat.le_of_ble_eq_true (by kernel_rfl)) (by kernel_rfl) (by kernel_rfl) (by kernel_rfl) ?_
 rw [← F57_eq]
 exact h

/- function 58: (*gnomon/step.state).gives -/
def F58_j1 (x8 : Value) (w : World) (R : Value → World → Prop) (_E : Pan) : Prop :=
 ∀ _τ : Fr, (R x8 w)
def F58 (x0 x1 x2 : Value) (w : World) (R : Value → World → Prop) (E : Pan) : Prop :=
 opK Try.prog E (xV (Instr.box 52 x1)) w fun t4_1 w_2 =>
 dX w_2 fun w_3 =>
 qP Try.prog (xV (Instr.fieldAt 52 t4_1 6)) fun t12_4 =>
 qP Try.prog (xV (Instr.fieldAt 52 t4_1 7)) fun t16_5 =>
 qL Try.prog w_3 (blk t12_4) (xV (Instr.loadAt 50 t12_4)) fun t13_6 =>
 qL Try.prog w_3 (blk t16_5) (xV (Instr.loadAt 50 t16_5)) fun t17_7 =>
 opK Try.prog E (xCall (Value.func (.func 44) #[] #[]) [x0, t13_6]) w_3 fun t14_8 w_9 =>
 keepX [(blk t16_5)] w_3 w_9 (opK Try.prog E (xCall (Value.func (.func 44) #[] #[]) [x0, t17_7]) w_9 fun t18_10 w_11 =>
 keepX [] w_9 w_11 (opK Try.prog E (xCall x2 [t14_8, t18_10]) w_11 fun t19_12 w_13 =>
 keepX [] w_11 w_13 (qP Try.prog (xV (Instr.extract t19_12 0)) fun t20_14 =>
 qP Try.prog (xV (Instr.extract t19_12 1)) fun t21_15 =>
 xcut (fun _ w_17 => F58_j1 t21_15 w_17 R E) fun j1 =>
 opK Try.prog E (xBin .eql 3 (.tmp 22) (.const (Value.int .i64 0)) t21_15 (Value.int .i64 0)) w_13 fun t23_18 w_19 =>
 xcond t23_18
 (dX w_19 fun w_20 =>
 qP Try.prog (xNil x0) fun t25_21 =>
 qP Try.prog (xV (Instr.fieldAt 58 t25_21 3)) fun t26_22 =>
 qP Try.prog (xV (Instr.fieldAt 52 t4_1 3)) fun t28_23 =>
 qL Try.prog w_20 (blk t26_22) (xV (Instr.loadAt 27 t26_22)) fun t27_24 =>
 qL Try.prog w_20 (blk t28_23) (xV (Instr.loadAt 3 t28_23)) fun t29_25 =>
 qP Try.prog (xV (Instr.indexAt 27 t27_24 t29_25)) fun t31_26 =>
 opK Try.prog E (xU (Instr.storeAt 2 t31_26 t20_14)) w_20 fun _z_27 w_28 =>
 keepX [] w_20 w_28 (j1 [] w_28))
 (j1 [] w_19))))
noncomputable def c58 : Code := Try.f58.body.getD .skip
def h58 : Hint := (.seq .none (.seq (.reg [(0, 1024, 4), (0, 2048, 1), (0, 4096, 16), (4, 8192, 4096), (10, 16384, 10240), (0, 32768, 1), (0, 65536, 16), (64, 131072, 65536), (176, 262144, 163840), (273, 524288, 279552), (512, 512, 524288), (1024, 1048576, 512), (1024, 2097152, 512), (4095, 128, 1048576), (16383, 256, 2097152)] [136, 136, 136, 128, 128, 136, 136, 8, 0, 0, 136, 136, 136, 136, 136] (.early 0 (.early 1 (.early 2 (.early 5 (.early 6 (.load 3 (.load 7 (.step 4 (.step 8 (.step 9 (.early 10 (.early 11 (.early 12 (.early 13 (.early 14 .done)))))))))))))))) (.cut [] (.seq .none (.cond (.reg [(0, 16777216, 1), (1, 33554432, 16777216), (2, 67108864, 33554432), (4, 134217728, 67108864), (0, 268435456, 16), (16, 536870912, 268435456), (0, 1073741824, 128), (127, 2147483648, 671088640), (255, 0, 3221225472)] [40, 40, 40, 32, 40, 8, 40, 40, 0] (.early 0 (.early 1 (.early 2 (.early 4 (.early 6 (.load 3 (.load 5 (.early 7 (.step 8 .done)))))))))) .none)) (.seq .none .none))))
theorem F58_eq (x0 x1 x2 : Value) (w : World) (R : Value → World → Prop) (E : Pan) : F58 x0 x1 x2 w R E = callX Try.prog [.tmp 6] c58 h58 [x0, x1, x2] w R E := by kernel_rfl
theorem F58_ok {x0 x1 x2 : Value} {w : World} {R : Value → World → Prop} {E : Pan} (h : F58 x0 x1 x2 w R E) : Cv Try.prog 58 #[x0, x1, x2] w R E := by
 refine callX_sound (args := [x0, x1, x2]) (c := c58) (h := h58) (rs := [.tmp 6]) Try.func58 (by kernel_rfl) (by kernel_rfl) (Nat.le_of_ble_eq_true (by kernel_rfl)) (by kernel_rfl) (by kernel_rfl) (by kernel_rfl) ?_
 rw [← F58_eq]
 exact h

/- function 59: (*gnomon/step.state).negates$1 -/
def F59 (x0 _x1 : Value) (w : World) (R : Value → World → Prop) (E : Pan) : Prop :=
 opK Try.prog E (xCall (Value.func (.func 60) #[] #[]) [x0]) w fun t7_1 w_2 =>
 opK Try.prog E (xV (Instr.extract t7_1 0)) w_2 fun t8_3 w_4 =>
 opK Try.prog E (xV (Instr.extract t7_1 1)) w_4 fun t9_5 w_6 =>
 R (Value.tuple #[t8_3, t9_5]) w_6
noncomputable def c59 : Code := Try.f59.body.getD .skip
def h59 : Hint := (.seq .none (.seq .none .none))
theorem F59_eq (x0 x1 : Value) (w : World) (R : Value → World → Prop) (E : Pan) : F59 x0 x1 w R E = callX Try.prog [.tmp 4, .tmp 5] c59 h59 [x0, x1] w R E := by kernel_rfl
theorem F59_ok {x0 x1 : Value} {w : World} {R : Value → World → Prop} {E : Pan} (h : F59 x0 x1 w R E) : Cv Try.prog 59 #[x0, x1] w R E := by
 refine callX_sound (args := [x0, x1]) (c := c59) (h := h59) (rs := [.tmp 4, .tmp 5]) Try.func59 (by kernel_rfl) (by kernel_rfl) (Nat.le_of_ble_eq_true (by kernel_rfl)) (by kernel_rfl) (by kernel_rfl) (by kernel_rfl) ?_
 rw [← F59_eq]
 exact h

/- function 60: gnomon/num.Neg -/
def F60 (x0 : Value) (w : World) (R : Value → World → Prop) (E : Pan) : Prop :=
 opK Try.prog E (xCall (Value.func (.func 62) #[] #[]) [(Value.int .i64 0), x0]) w fun t5_1 w_2 =>
 opK Try.prog E (xV (Instr.extract t5_1 0)) w_2 fun t6_3 w_4 =>
 opK Try.prog E (xV (Instr.extract t5_1 1)) w_4 fun t7_5 w_6 =>
 R (Value.tuple #[t6_3, t7_5]) w_6
noncomputable def c60 : Code := Try.f60.body.getD .skip
def h60 : Hint := (.seq .none (.seq .none .none))
theorem F60_eq (x0 : Value) (w : World) (R : Value → World → Prop) (E : Pan) : F60 x0 w R E = callX Try.prog [.tmp 2, .tmp 3] c60 h60 [x0] w R E := by kernel_rfl
theorem F60_ok {x0 : Value} {w : World} {R : Value → World → Prop} {E : Pan} (h : F60 x0 w R E) : Cv Try.prog 60 #[x0] w R E := by
 refine callX_sound (args := [x0]) (c := c60) (h := h60) (rs := [.tmp 2, .tmp 3]) Try.func60 (by kernel_rfl) (by kernel_rfl) (Nat.le_of_ble_eq_true (by kernel_rfl)) (by kernel_rfl) (by kernel_rfl) (by kernel_rfl) ?_
 rw [← F60_eq]
 exact h

/- function 61: gnomon/num.Add -/
def F61 (x0 x1 : Value) (w : World) (R : Value → World → Prop) (E : Pan) : Prop :=
 opK Try.prog E (xBin .add 2 (.tmp 7) (.tmp 8) x0 x1) w fun t9_1 w_2 =>
 opK Try.prog E (xBin .lss 2 (.tmp 10) (.const (Value.int .i64 0)) x0 (Value.int .i64 0)) w_2 fun t11_3 w_4 =>
 opK Try.prog E (xBin .lss 2 (.tmp 12) (.const (Value.int .i64 0)) x1 (Value.int .i64 0)) w_4 fun t13_5 w_6 =>
 opK Try.prog E (xBin .eql 4 (.tmp 11) (.tmp 13) t11_3 t13_5) w_6 fun t14_7 w_8 =>
 opK Try.prog E (gsem (asB t14_7) true (xBin .lss 2 (.tmp 16) (.const (Value.int .i64 0)) (gval (asB t14_7) true t9_1) (Value.int .i64 0))) w_8 fun t17_9 w_10 =>
 opK Try.prog E (gsem (asB t14_7) true (xBin .lss 2 (.tmp 18) (.const (Value.int .i64 0)) (gval (asB t14_7) true x0) (Value.int .i64 0))) w_10 fun t19_11 w_12 =>
 opK Try.prog E (gsem (asB t14_7) true (xBin .neq 4 (.tmp 17) (.tmp 19) t17_9 t19_11)) w_12 fun t20_13 w_14 =>
 opK Try.prog E (xPick t14_7 t20_13 (Value.bool false)) w_14 fun t21_15 w_16 =>
 xcond t21_15
 (R (Value.tuple #[(Value.int .i64 0), (Value.int .i64 1)]) w_16)
 (R (Value.tuple #[t9_1, (Value.int .i64 0)]) w_16)
noncomputable def c61 : Code := Try.f61.body.getD .skip
def h61 : Hint := (.seq .none (.seq .none (.seq (.seq .none (.cond (.seq .none .none) .none)) (.seq .none .none))))
theorem F61_eq (x0 x1 : Value) (w : World) (R : Value → World → Prop) (E : Pan) : F61 x0 x1 w R E = callX Try.prog [.tmp 4, .tmp 5] c61 h61 [x0, x1] w R E := by kernel_rfl
theorem F61_ok {x0 x1 : Value} {w : World} {R : Value → World → Prop} {E : Pan} (h : F61 x0 x1 w R E) : Cv Try.prog 61 #[x0, x1] w R E := by
 refine callX_sound (args := [x0, x1]) (c := c61) (h := h61) (rs := [.tmp 4, .tmp 5]) Try.func61 (by kernel_rfl) (by kernel_rfl) (Nat.le_of_ble_eq_true (by kernel_rfl)) (by kernel_rfl) (by kernel_rfl) (by kernel_rfl) ?_
 rw [← F61_eq]
 exact h

/- function 62: gnomon/num.Sub -/
def F62 (x0 x1 : Value) (w : World) (R : Value → World → Prop) (E : Pan) : Prop :=
 opK Try.prog E (xBin .sub 2 (.tmp 7) (.tmp 8) x0 x1) w fun t9_1 w_2 =>
 opK Try.prog E (xBin .lss 2 (.tmp 10) (.const (Value.int .i64 0)) x0 (Value.int .i64 0)) w_2 fun t11_3 w_4 =>
 opK Try.prog E (xBin .lss 2 (.tmp 12) (.const (Value.int .i64 0)) x1 (Value.int .i64 0)) w_4 fun t13_5 w_6 =>
 opK Try.prog E (xBin .neq 4 (.tmp 11) (.tmp 13) t11_3 t13_5) w_6 fun t14_7 w_8 =>
 opK Try.prog E (gsem (asB t14_7) true (xBin .lss 2 (.tmp 16) (.const (Value.int .i64 0)) (gval (asB t14_7) true t9_1) (Value.int .i64 0))) w_8 fun t17_9 w_10 =>
 opK Try.prog E (gsem (asB t14_7) true (xBin .lss 2 (.tmp 18) (.const (Value.int .i64 0)) (gval (asB t14_7) true x0) (Value.int .i64 0))) w_10 fun t19_11 w_12 =>
 opK Try.prog E (gsem (asB t14_7) true (xBin .neq 4 (.tmp 17) (.tmp 19) t17_9 t19_11)) w_12 fun t20_13 w_14 =>
 opK Try.prog E (xPick t14_7 t20_13 (Value.bool false)) w_14 fun t21_15 w_16 =>
 xcond t21_15
 (R (Value.tuple #[(Value.int .i64 0), (Value.int .i64 1)]) w_16)
 (R (Value.tuple #[t9_1, (Value.int .i64 0)]) w_16)
noncomputable def c62 : Code := Try.f62.body.getD .skip
def h62 : Hint := (.seq .none (.seq .none (.seq (.seq .none (.cond (.seq .none .none) .none)) (.seq .none .none))))
theorem F62_eq (x0 x1 : Value) (w : World) (R : Value → World → Prop) (E : Pan) : F62 x0 x1 w R E = callX Try.prog [.tmp 4, .tmp 5] c62 h62 [x0, x1] w R E := by kernel_rfl
theorem F62_ok {x0 x1 : Value} {w : World} {R : Value → World → Prop} {E : Pan} (h : F62 x0 x1 w R E) : Cv Try.prog 62 #[x0, x1] w R E := by
 refine callX_sound (args := [x0, x1]) (c := c62) (h := h62) (rs := [.tmp 4, .tmp 5]) Try.func62 (by kernel_rfl) (by kernel_rfl) (Nat.le_of_ble_eq_true (by kernel_rfl)) (by kernel_rfl) (by kernel_rfl) (by kernel_rfl) ?_
 rw [← F62_eq]
 exact h

/- function 63: gnomon/num.Mul -/
def F63_j1 (x0 x1 x6 x7 x8 : Value) (w : World) (R : Value → World → Prop) (E : Pan) : Prop :=
 ∀ _τ : Fr, (opK Try.prog E (xBin .neq 111 (.tmp 24) (.const (Value.int .u64 0)) x6 (Value.int .u64 0)) w fun t25_11 w_12 =>
 opK Try.prog E (gsem (asB t25_11) false (xBin .gtr 111 (.tmp 27) (.tmp 28) (gval (asB t25_11) false x7) (gval (asB t25_11) false x8))) w_12 fun t29_13 w_14 =>
 opK Try.prog E (xPick t25_11 (Value.bool true) t29_13) w_14 fun t30_15 w_16 =>
 xcond t30_15
 (R (Value.tuple #[(Value.int .i64 0), (Value.int .i64 1)]) w_16)
 (opK Try.prog E (xBin .mul 2 (.tmp 31) (.tmp 32) x0 x1) w_16 fun t33_17 w_18 =>
 R (Value.tuple #[t33_17, (Value.int .i64 0)]) w_18))
def F63 (x0 x1 : Value) (w : World) (R : Value → World → Prop) (E : Pan) : Prop :=
 opK Try.prog E (xCall (Value.func (.func 77) #[] #[]) [x0]) w fun t11_1 w_2 =>
 opK Try.prog E (xCall (Value.func (.func 77) #[] #[]) [x1]) w_2 fun t13_3 w_4 =>
 opK Try.prog E (xCall (Value.func (.func 76) #[] #[]) [t11_1, t13_3]) w_4 fun t14_5 w_6 =>
 opK Try.prog E (xV (Instr.extract t14_5 0)) w_6 fun t15_7 w_8 =>
 opK Try.prog E (xV (Instr.extract t14_5 1)) w_8 fun t16_9 w_10 =>
 xcut (fun l_19 w_20 => F63_j1 x0 x1 t15_7 t16_9 (nth l_19 0) w_20 R E) fun j1 =>
 opK Try.prog E (xBin .lss 2 (.tmp 17) (.const (Value.int .i64 0)) x0 (Value.int .i64 0)) w_10 fun t18_21 w_22 =>
 opK Try.prog E (xBin .lss 2 (.tmp 19) (.const (Value.int .i64 0)) x1 (Value.int .i64 0)) w_22 fun t20_23 w_24 =>
 opK Try.prog E (xBin .neq 4 (.tmp 18) (.tmp 20) t18_21 t20_23) w_24 fun t21_25 w_26 =>
 xcond t21_25
 (opK Try.prog E (xBin .add 111 (.tmp 22) (.const (Value.int .u64 1)) (Value.int .u64 9223372036854775807) (Value.int .u64 1)) w_26 fun t23_27 w_28 =>
 j1 [t23_27] w_28)
 (j1 [(Value.int .u64 9223372036854775807)] w_26)
noncomputable def c63 : Code := Try.f63.body.getD .skip
def h63 : Hint := (.seq .none (.seq .none (.seq .none (.cut [8] (.seq .none (.cond .none .none)) (.seq (.seq .none (.cond (.seq .none .none) .none)) (.seq .none .none))))))
theorem F63_eq (x0 x1 : Value) (w : World) (R : Value → World → Prop) (E : Pan) : F63 x0 x1 w R E = callX Try.prog [.tmp 4, .tmp 5] c63 h63 [x0, x1] w R E := by kernel_rfl
theorem F63_ok {x0 x1 : Value} {w : World} {R : Value → World → Prop} {E : Pan} (h : F63 x0 x1 w R E) : Cv Try.prog 63 #[x0, x1] w R E := by
 refine callX_sound (args := [x0, x1]) (c := c63) (h := h63) (rs := [.tmp 4, .tmp 5]) Try.func63 (by kernel_rfl) (by kernel_rfl) (Nat.le_of_ble_eq_true (by kernel_rfl)) (by kernel_rfl) (by kernel_rfl) (by kernel_rfl) ?_
 rw [← F63_eq]
 exact h

/- function 64: gnomon/num.Div -/
def F64 (x0 x1 : Value) (w : World) (R : Value → World → Prop) (E : Pan) : Prop :=
 opK Try.prog E (xCall (Value.func (.func 78) #[] #[]) [x0, x1]) w fun t9_1 w_2 =>
 opK Try.prog E (xBin .neq 3 (.tmp 10) (.const (Value.int .i64 0)) t9_1 (Value.int .i64 0)) w_2 fun t11_3 w_4 =>
 xcond t11_3
 (R (Value.tuple #[(Value.int .i64 0), t9_1]) w_4)
 (opK Try.prog E (xBin .quo 2 (.tmp 13) (.tmp 14) x0 x1) w_4 fun t15_5 w_6 =>
 R (Value.tuple #[t15_5, (Value.int .i64 0)]) w_6)
noncomputable def c64 : Code := Try.f64.body.getD .skip
def h64 : Hint := (.seq .none (.seq (.seq .none (.seq .none (.cond (.seq .none .none) .none))) (.seq .none .none)))
theorem F64_eq (x0 x1 : Value) (w : World) (R : Value → World → Prop) (E : Pan) : F64 x0 x1 w R E = callX Try.prog [.tmp 4, .tmp 5] c64 h64 [x0, x1] w R E := by kernel_rfl
theorem F64_ok {x0 x1 : Value} {w : World} {R : Value → World → Prop} {E : Pan} (h : F64 x0 x1 w R E) : Cv Try.prog 64 #[x0, x1] w R E := by
 refine callX_sound (args := [x0, x1]) (c := c64) (h := h64) (rs := [.tmp 4, .tmp 5]) Try.func64 (by kernel_rfl) (by kernel_rfl) (Nat.le_of_ble_eq_true (by kernel_rfl)) (by kernel_rfl) (by kernel_rfl) (by kernel_rfl) ?_
 rw [← F64_eq]
 exact h

/- function 65: gnomon/num.Rem -/
def F65 (x0 x1 : Value) (w : World) (R : Value → World → Prop) (E : Pan) : Prop :=
 opK Try.prog E (xCall (Value.func (.func 78) #[] #[]) [x0, x1]) w fun t9_1 w_2 =>
 opK Try.prog E (xBin .neq 3 (.tmp 10) (.const (Value.int .i64 0)) t9_1 (Value.int .i64 0)) w_2 fun t11_3 w_4 =>
 xcond t11_3
 (R (Value.tuple #[(Value.int .i64 0), t9_1]) w_4)
 (opK Try.prog E (xBin .rem 2 (.tmp 13) (.tmp 14) x0 x1) w_4 fun t15_5 w_6 =>
 R (Value.tuple #[t15_5, (Value.int .i64 0)]) w_6)
noncomputable def c65 : Code := Try.f65.body.getD .skip
def h65 : Hint := (.seq .none (.seq (.seq .none (.seq .none (.cond (.seq .none .none) .none))) (.seq .none .none)))
theorem F65_eq (x0 x1 : Value) (w : World) (R : Value → World → Prop) (E : Pan) : F65 x0 x1 w R E = callX Try.prog [.tmp 4, .tmp 5] c65 h65 [x0, x1] w R E := by kernel_rfl
theorem F65_ok {x0 x1 : Value} {w : World} {R : Value → World → Prop} {E : Pan} (h : F65 x0 x1 w R E) : Cv Try.prog 65 #[x0, x1] w R E := by
 refine callX_sound (args := [x0, x1]) (c := c65) (h := h65) (rs := [.tmp 4, .tmp 5]) Try.func65 (by kernel_rfl) (by kernel_rfl) (Nat.le_of_ble_eq_true (by kernel_rfl)) (by kernel_rfl) (by kernel_rfl) (by kernel_rfl) ?_
 rw [← F65_eq]
 exact h

/- function 66: (*gnomon/step.state).place -/
def F66 (x0 x1 : Value) (w : World) (R : Value → World → Prop) (E : Pan) : Prop :=
 opK Try.prog E (xV (Instr.box 52 x1)) w fun t3_1 w_2 =>
 dX w_2 fun w_3 =>
 qP Try.prog (xV (Instr.fieldAt 52 t3_1 6)) fun t8_4 =>
 qP Try.prog (xNil x0) fun t12_5 =>
 qP Try.prog (xV (Instr.fieldAt 58 t12_5 4)) fun t13_6 =>
 qP Try.prog (xV (Instr.fieldAt 52 t3_1 4)) fun t15_7 =>
 qL Try.prog w_3 (blk t8_4) (xV (Instr.loadAt 50 t8_4)) fun t9_8 =>
 qL Try.prog w_3 (blk t13_6) (xV (Instr.loadAt 32 t13_6)) fun t14_9 =>
 qL Try.prog w_3 (blk t15_7) (xV (Instr.loadAt 3 t15_7)) fun t16_10 =>
 qP Try.prog (xV (Instr.indexAt 32 t14_9 t16_10)) fun t17_11 =>
 qL Try.prog w_3 (blk t17_11) (xV (Instr.loadAt 27 t17_11)) fun t18_12 =>
 opK Try.prog E (xCall (Value.func (.func 44) #[] #[]) [x0, t9_8]) w_3 fun t10_13 w_14 =>
 keepX [(blk t17_11), (blk t15_7), (blk t13_6)] w_3 w_14 (opK Try.prog E (xBin .lss 2 (.tmp 19) (.const (Value.int .i64 0)) t10_13 (Value.int .i64 0)) w_14 fun t20_15 w_16 =>
 opK Try.prog E (gsem (asB t20_15) false (xBuiltin .len #[27] 3 [false] [(gval (asB t20_15) false t18_12)])) w_16 fun t24_17 w_18 =>
 opK Try.prog E (gsem (asB t20_15) false (xBin .geq 2 (.tmp 22) (.tmp 24) (gval (asB t20_15) false t10_13) t24_17)) w_18 fun t25_19 w_20 =>
 opK Try.prog E (xPick t20_15 (Value.bool true) t25_19) w_20 fun t26_21 w_22 =>
 xcond t26_21
 (R (Value.pointer none) w_22)
 (opK Try.prog E (xV (Instr.indexAt 27 t18_12 t10_13)) w_22 fun t29_23 w_24 =>
 R t29_23 w_24))
noncomputable def c66 : Code := Try.f66.body.getD .skip
def h66 : Hint := (.seq .none (.seq (.reg [(0, 128, 1), (0, 256, 8), (2, 512, 256), (5, 1024, 640), (0, 2048, 1), (16, 4096, 2048), (32, 8192, 4096), (64, 16384, 8192), (0, 32768, 8), (256, 65536, 32768), (640, 131072, 81920), (1024, 262144, 131072), (15, 32, 1024), (8191, 64, 262144)] [2692, 2692, 2688, 2688, 2692, 2692, 2692, 2564, 2692, 2180, 2692, 644, 2692, 2692] (.early 0 (.early 1 (.early 4 (.early 5 (.early 6 (.early 8 (.load 2 (.load 7 (.load 9 (.early 10 (.load 11 (.step 3 (.early 12 (.early 13 .done))))))))))))))) (.seq (.seq .none (.cond (.seq .none .none) .none)) (.seq .none .none))))
theorem F66_eq (x0 x1 : Value) (w : World) (R : Value → World → Prop) (E : Pan) : F66 x0 x1 w R E = callX Try.prog [.tmp 4] c66 h66 [x0, x1] w R E := by kernel_rfl
theorem F66_ok {x0 x1 : Value} {w : World} {R : Value → World → Prop} {E : Pan} (h : F66 x0 x1 w R E) : Cv Try.prog 66 #[x0, x1] w R E := by
 refine callX_sound (args := [x0, x1]) (c := c66) (h := h66) (rs := [.tmp 4]) Try.func66 (by kernel_rfl) (by kernel_rfl) (Nat.le_of_ble_eq_true (by kernel_rfl)) (by kernel_rfl) (by kernel_rfl) (by kernel_rfl) ?_
 rw [← F66_eq]
 exact h

/- function 67: gnomon/num.compares -/
def F67 (w : World) (R : Value → World → Prop) (E : Pan) : Prop :=
 opK Try.prog E (xV (Instr.alloc 107 true (.tuple #[]))) w fun t0_1 w_2 =>
 opK Try.prog E (xV (Instr.build 107 #[(0, (Value.func (.func 79) #[] #[])), (1, (Value.func (.func 80) #[] #[])), (2, (Value.func (.func 81) #[] #[])), (3, (Value.func (.func 82) #[] #[])), (4, (Value.func (.func 83) #[] #[])), (5, (Value.func (.func 84) #[] #[])), (6, (Value.func (.func 85) #[] #[]))])) w_2 fun t1_3 w_4 =>
 opK Try.prog E (xU (Instr.storeAt 107 t0_1 t1_3)) w_4 fun _z_5 w_6 =>
 xcell Try.prog 107 t0_1 w_6 fun r_7 =>
 R r_7 w_6
noncomputable def c67 : Code := Try.f67.body.getD .skip
def h67 : Hint := (.seq .none (.seq .none .none))
theorem F67_eq (w : World) (R : Value → World → Prop) (E : Pan) : F67  w R E = callX Try.prog [.cell 0 107] c67 h67 [] w R E := by kernel_rfl
theorem F67_ok {w : World} {R : Value → World → Prop} {E : Pan} (h : F67  w R E) : Cv Try.prog 67 #[] w R E := by
 refine callX_sound (args := []) (c := c67) (h := h67) (rs := [.cell 0 107]) Try.func67 (by kernel_rfl) (by kernel_rfl) (Nat.zero_le _) (by kernel_rfl) (by kernel_rfl) (by kernel_rfl) ?_
 rw [← F67_eq]
 exact h

/- function 68: gnomon/gnomonref9.operand -/
def F68 (x0 x1 x2 : Value) (w : World) (R : Value → World → Prop) (E : Pan) : Prop :=
 opK Try.prog E (xV (Instr.box 50 x0)) w fun t3_1 w_2 =>
 opK Try.prog E (xV (Op.unary .not x1)) w_2 fun t8_3 w_4 =>
 xcond t8_3
 (dX w_4 fun w_5 =>
 qL Try.prog w_5 (blk t3_1) (xV (Instr.loadAt 50 t3_1)) fun t9_6 =>
 opK Try.prog E (xCall (Value.func (.func 86) #[] #[]) []) w_5 fun t10_7 w_8 =>
 keepX [(blk t3_1)] w_5 w_8 (qP Try.prog (xBin .eql 50 (.tmp 9) (.tmp 10) t9_6 t10_7) fun t11_9 =>
 R t11_9 w_8))
 (opK Try.prog E (xV (Instr.fieldAt 50 t3_1 0)) w_4 fun t12_10 w_11 =>
 opK Try.prog E (xV (Instr.loadAt 3 t12_10)) w_11 fun t13_12 w_13 =>
 opK Try.prog E (xBin .eql 3 (.tmp 13) (.const (Value.int .i64 (-1))) t13_12 (Value.int .i64 (-1))) w_13 fun t14_14 w_15 =>
 opK Try.prog E (gsem (asB t14_14) false (xV (Instr.fieldAt 50 t3_1 0))) w_15 fun t16_16 w_17 =>
 opK Try.prog E (gsem (asB t14_14) false (xV (Instr.loadAt 3 t16_16))) w_17 fun t17_18 w_19 =>
 opK Try.prog E (gsem (asB t14_14) false (xBin .geq 3 (.tmp 17) (.const (Value.int .i64 0)) t17_18 (Value.int .i64 0))) w_19 fun t18_20 w_21 =>
 opK Try.prog E (gsem (asB (gval (asB t14_14) false t18_20)) true (xV (Instr.fieldAt 50 t3_1 0))) w_21 fun t20_22 w_23 =>
 opK Try.prog E (gsem (asB (gval (asB t14_14) false t18_20)) true (xV (Instr.loadAt 3 t20_22))) w_23 fun t21_24 w_25 =>
 opK Try.prog E (gsem (asB (gval (asB t14_14) false t18_20)) true (xBin .lss 3 (.tmp 21) (.tmp 22) t21_24 (gval (asB (gval (asB t14_14) false t18_20)) true x2))) w_25 fun t23_26 w_27 =>
 opK Try.prog E (gsem (asB t14_14) false (xPick (gval (asB t14_14) false t18_20) t23_26 (Value.bool false))) w_27 fun t24_28 w_29 =>
 opK Try.prog E (gsem (asB (gval (asB t14_14) false t24_28)) true (xV (Instr.fieldAt 50 t3_1 1))) w_29 fun t26_30 w_31 =>
 opK Try.prog E (gsem (asB (gval (asB t14_14) false t24_28)) true (xV (Instr.loadAt 2 t26_30))) w_31 fun t27_32 w_33 =>
 opK Try.prog E (gsem (asB (gval (asB t14_14) false t24_28)) true (xBin .eql 2 (.tmp 27) (.const (Value.int .i64 0)) t27_32 (Value.int .i64 0))) w_33 fun t28_34 w_35 =>
 opK Try.prog E (gsem (asB t14_14) false (xPick (gval (asB t14_14) false t24_28) t28_34 (Value.bool false))) w_35 fun t29_36 w_37 =>
 opK Try.prog E (xPick t14_14 (Value.bool true) t29_36) w_37 fun t30_38 w_39 =>
 R t30_38 w_39)
noncomputable def c68 : Code := Try.f68.body.getD .skip
def h68 : Hint := (.seq .none (.seq (.seq .none (.cond (.seq (.reg [(0, 512, 8), (0, 1024, 0), (3, 2048, 1536), (7, 64, 2048)] [0, 1, 1, 1] (.load 0 (.step 1 (.early 2 (.early 3 .done))))) .none) .none)) (.seq .none .none)))
theorem F68_eq (x0 x1 x2 : Value) (w : World) (R : Value → World → Prop) (E : Pan) : F68 x0 x1 x2 w R E = callX Try.prog [.tmp 6] c68 h68 [x0, x1, x2] w R E := by kernel_rfl
theorem F68_ok {x0 x1 x2 : Value} {w : World} {R : Value → World → Prop} {E : Pan} (h : F68 x0 x1 x2 w R E) : Cv Try.prog 68 #[x0, x1, x2] w R E := by
 refine callX_sound (args := [x0, x1, x2]) (c := c68) (h := h68) (rs := [.tmp 6]) Try.func68 (by kernel_rfl) (by kernel_rfl) (Nat.le_of_ble_eq_true (by kernel_rfl)) (by kernel_rfl) (by kernel_rfl) (by kernel_rfl) ?_
 rw [← F68_eq]
 exact h

/- function 69: gnomon/gnomonref7.Not -/
def F69 (x0 : Value) (w : World) (R : Value → World → Prop) (E : Pan) : Prop :=
 opK Try.prog E (xBin .eql 3 (.tmp 3) (.const (Value.int .i64 1)) x0 (Value.int .i64 1)) w fun t5_1 w_2 =>
 xcond t5_1
 (R (Value.int .i64 6) w_2)
 (opK Try.prog E (xBin .eql 3 (.tmp 3) (.const (Value.int .i64 2)) x0 (Value.int .i64 2)) w_2 fun t7_3 w_4 =>
 xcond t7_3
 (R (Value.int .i64 5) w_4)
 (opK Try.prog E (xBin .eql 3 (.tmp 3) (.const (Value.int .i64 3)) x0 (Value.int .i64 3)) w_4 fun t9_5 w_6 =>
 xcond t9_5
 (R (Value.int .i64 4) w_6)
 (opK Try.prog E (xBin .eql 3 (.tmp 3) (.const (Value.int .i64 4)) x0 (Value.int .i64 4)) w_6 fun t11_7 w_8 =>
 xcond t11_7
 (R (Value.int .i64 3) w_8)
 (opK Try.prog E (xBin .eql 3 (.tmp 3) (.const (Value.int .i64 5)) x0 (Value.int .i64 5)) w_8 fun t13_9 w_10 =>
 xcond t13_9
 (R (Value.int .i64 2) w_10)
 (opK Try.prog E (xBin .eql 3 (.tmp 3) (.const (Value.int .i64 6)) x0 (Value.int .i64 6)) w_10 fun t15_11 w_12 =>
 xcond t15_11
 (R (Value.int .i64 1) w_12)
 (R (Value.int .i64 0) w_12))))))
noncomputable def c69 : Code := Try.f69.body.getD .skip
def h69 : Hint := (.seq .none (.seq (.seq .none (.block (.seq .none (.cond (.seq .none .none) (.seq .none (.cond (.seq .none .none) (.seq .none (.cond (.seq .none .none) (.seq .none (.cond (.seq .none .none) (.seq .none (.cond (.seq .none .none) (.seq .none (.cond (.seq .none .none) .none)))))))))))))) (.seq .none .none)))
theorem F69_eq (x0 : Value) (w : World) (R : Value → World → Prop) (E : Pan) : F69 x0 w R E = callX Try.prog [.tmp 2] c69 h69 [x0] w R E := by kernel_rfl
theorem F69_ok {x0 : Value} {w : World} {R : Value → World → Prop} {E : Pan} (h : F69 x0 w R E) : Cv Try.prog 69 #[x0] w R E := by
 refine callX_sound (args := [x0]) (c := c69) (h := h69) (rs := [.tmp 2]) Try.func69 (by kernel_rfl) (by kernel_rfl) (Nat.le_of_ble_eq_true (by kernel_rfl)) (by kernel_rfl) (by kernel_rfl) (by kernel_rfl) ?_
 rw [← F69_eq]
 exact h

/- function 70: gnomon/gnomonref7.Neg -/
def F70 (x0 : Value) (w : World) (R : Value → World → Prop) (E : Pan) : Prop :=
 opK Try.prog E (xBin .eql 2 (.tmp 4) (.const (Value.int .i64 (-9223372036854775808))) x0 (Value.int .i64 (-9223372036854775808))) w fun t5_1 w_2 =>
 xcond t5_1
 (R (Value.tuple #[(Value.int .i64 0), (Value.int .i64 1)]) w_2)
 (opK Try.prog E (xV (Op.unary .neg x0)) w_2 fun t7_3 w_4 =>
 R (Value.tuple #[t7_3, (Value.int .i64 0)]) w_4)
noncomputable def c70 : Code := Try.f70.body.getD .skip
def h70 : Hint := (.seq .none (.seq (.seq .none (.cond (.seq .none .none) .none)) (.seq .none .none)))
theorem F70_eq (x0 : Value) (w : World) (R : Value → World → Prop) (E : Pan) : F70 x0 w R E = callX Try.prog [.tmp 2, .tmp 3] c70 h70 [x0] w R E := by kernel_rfl
theorem F70_ok {x0 : Value} {w : World} {R : Value → World → Prop} {E : Pan} (h : F70 x0 w R E) : Cv Try.prog 70 #[x0] w R E := by
 refine callX_sound (args := [x0]) (c := c70) (h := h70) (rs := [.tmp 2, .tmp 3]) Try.func70 (by kernel_rfl) (by kernel_rfl) (Nat.le_of_ble_eq_true (by kernel_rfl)) (by kernel_rfl) (by kernel_rfl) (by kernel_rfl) ?_
 rw [← F70_eq]
 exact h

/- function 71: gnomon/gnomonref7.Add -/
def F71 (x0 x1 : Value) (w : World) (R : Value → World → Prop) (E : Pan) : Prop :=
 opK Try.prog E (xBin .gtr 2 (.tmp 6) (.const (Value.int .i64 0)) x1 (Value.int .i64 0)) w fun t7_1 w_2 =>
 opK Try.prog E (gsem (asB t7_1) true (xBin .sub 2 (.const (Value.int .i64 9223372036854775807)) (.tmp 10) (Value.int .i64 9223372036854775807) (gval (asB t7_1) true x1))) w_2 fun t11_3 w_4 =>
 opK Try.prog E (gsem (asB t7_1) true (xBin .gtr 2 (.tmp 9) (.tmp 11) (gval (asB t7_1) true x0) t11_3)) w_4 fun t12_5 w_6 =>
 opK Try.prog E (xPick t7_1 t12_5 (Value.bool false)) w_6 fun t13_7 w_8 =>
 opK Try.prog E (gsem (asB t13_7) false (xBin .lss 2 (.tmp 15) (.const (Value.int .i64 0)) (gval (asB t13_7) false x1) (Value.int .i64 0))) w_8 fun t16_9 w_10 =>
 opK Try.prog E (gsem (asB (gval (asB t13_7) false t16_9)) true (xBin .sub 2 (.const (Value.int .i64 (-9223372036854775808))) (.tmp 19) (Value.int .i64 (-9223372036854775808)) (gval (asB (gval (asB t13_7) false t16_9)) true x1))) w_10 fun t20_11 w_12 =>
 opK Try.prog E (gsem (asB (gval (asB t13_7) false t16_9)) true (xBin .lss 2 (.tmp 18) (.tmp 20) (gval (asB (gval (asB t13_7) false t16_9)) true x0) t20_11)) w_12 fun t21_13 w_14 =>
 opK Try.prog E (gsem (asB t13_7) false (xPick (gval (asB t13_7) false t16_9) t21_13 (Value.bool false))) w_14 fun t22_15 w_16 =>
 opK Try.prog E (xPick t13_7 (Value.bool true) t22_15) w_16 fun t23_17 w_18 =>
 xcond t23_17
 (R (Value.tuple #[(Value.int .i64 0), (Value.int .i64 1)]) w_18)
 (opK Try.prog E (xBin .add 2 (.tmp 24) (.tmp 25) x0 x1) w_18 fun t26_19 w_20 =>
 R (Value.tuple #[t26_19, (Value.int .i64 0)]) w_20)
noncomputable def c71 : Code := Try.f71.body.getD .skip
def h71 : Hint := (.seq .none (.seq (.seq .none (.cond (.seq .none .none) .none)) (.seq .none .none)))
theorem F71_eq (x0 x1 : Value) (w : World) (R : Value → World → Prop) (E : Pan) : F71 x0 x1 w R E = callX Try.prog [.tmp 4, .tmp 5] c71 h71 [x0, x1] w R E := by kernel_rfl
theorem F71_ok {x0 x1 : Value} {w : World} {R : Value → World → Prop} {E : Pan} (h : F71 x0 x1 w R E) : Cv Try.prog 71 #[x0, x1] w R E := by
 refine callX_sound (args := [x0, x1]) (c := c71) (h := h71) (rs := [.tmp 4, .tmp 5]) Try.func71 (by kernel_rfl) (by kernel_rfl) (Nat.le_of_ble_eq_true (by kernel_rfl)) (by kernel_rfl) (by kernel_rfl) (by kernel_rfl) ?_
 rw [← F71_eq]
 exact h

/- function 72: gnomon/gnomonref7.Sub -/
def F72 (x0 x1 : Value) (w : World) (R : Value → World → Prop) (E : Pan) : Prop :=
 opK Try.prog E (xBin .lss 2 (.tmp 6) (.const (Value.int .i64 0)) x1 (Value.int .i64 0)) w fun t7_1 w_2 =>
 opK Try.prog E (gsem (asB t7_1) true (xBin .add 2 (.const (Value.int .i64 9223372036854775807)) (.tmp 10) (Value.int .i64 9223372036854775807) (gval (asB t7_1) true x1))) w_2 fun t11_3 w_4 =>
 opK Try.prog E (gsem (asB t7_1) true (xBin .gtr 2 (.tmp 9) (.tmp 11) (gval (asB t7_1) true x0) t11_3)) w_4 fun t12_5 w_6 =>
 opK Try.prog E (xPick t7_1 t12_5 (Value.bool false)) w_6 fun t13_7 w_8 =>
 opK Try.prog E (gsem (asB t13_7) false (xBin .gtr 2 (.tmp 15) (.const (Value.int .i64 0)) (gval (asB t13_7) false x1) (Value.int .i64 0))) w_8 fun t16_9 w_10 =>
 opK Try.prog E (gsem (asB (gval (asB t13_7) false t16_9)) true (xBin .add 2 (.const (Value.int .i64 (-9223372036854775808))) (.tmp 19) (Value.int .i64 (-9223372036854775808)) (gval (asB (gval (asB t13_7) false t16_9)) true x1))) w_10 fun t20_11 w_12 =>
 opK Try.prog E (gsem (asB (gval (asB t13_7) false t16_9)) true (xBin .lss 2 (.tmp 18) (.tmp 20) (gval (asB (gval (asB t13_7) false t16_9)) true x0) t20_11)) w_12 fun t21_13 w_14 =>
 opK Try.prog E (gsem (asB t13_7) false (xPick (gval (asB t13_7) false t16_9) t21_13 (Value.bool false))) w_14 fun t22_15 w_16 =>
 opK Try.prog E (xPick t13_7 (Value.bool true) t22_15) w_16 fun t23_17 w_18 =>
 xcond t23_17
 (R (Value.tuple #[(Value.int .i64 0), (Value.int .i64 1)]) w_18)
 (opK Try.prog E (xBin .sub 2 (.tmp 24) (.tmp 25) x0 x1) w_18 fun t26_19 w_20 =>
 R (Value.tuple #[t26_19, (Value.int .i64 0)]) w_20)
noncomputable def c72 : Code := Try.f72.body.getD .skip
def h72 : Hint := (.seq .none (.seq (.seq .none (.cond (.seq .none .none) .none)) (.seq .none .none)))
theorem F72_eq (x0 x1 : Value) (w : World) (R : Value → World → Prop) (E : Pan) : F72 x0 x1 w R E = callX Try.prog [.tmp 4, .tmp 5] c72 h72 [x0, x1] w R E := by kernel_rfl
theorem F72_ok {x0 x1 : Value} {w : World} {R : Value → World → Prop} {E : Pan} (h : F72 x0 x1 w R E) : Cv Try.prog 72 #[x0, x1] w R E := by
 refine callX_sound (args := [x0, x1]) (c := c72) (h := h72) (rs := [.tmp 4, .tmp 5]) Try.func72 (by kernel_rfl) (by kernel_rfl) (Nat.le_of_ble_eq_true (by kernel_rfl)) (by kernel_rfl) (by kernel_rfl) (by kernel_rfl) ?_
 rw [← F72_eq]
 exact h

/- function 73: gnomon/gnomonref7.Mul -/
def F73 (x0 x1 : Value) (w : World) (R : Value → World → Prop) (E : Pan) : Prop :=
 opK Try.prog E (xBin .eql 2 (.tmp 7) (.const (Value.int .i64 0)) x0 (Value.int .i64 0)) w fun t8_1 w_2 =>
 opK Try.prog E (gsem (asB t8_1) false (xBin .eql 2 (.tmp 10) (.const (Value.int .i64 0)) (gval (asB t8_1) false x1) (Value.int .i64 0))) w_2 fun t11_3 w_4 =>
 opK Try.prog E (xPick t8_1 (Value.bool true) t11_3) w_4 fun t12_5 w_6 =>
 xcond t12_5
 (R (Value.tuple #[(Value.int .i64 0), (Value.int .i64 0)]) w_6)
 (opK Try.prog E (xBin .eql 2 (.tmp 13) (.const (Value.int .i64 (-1))) x0 (Value.int .i64 (-1))) w_6 fun t14_7 w_8 =>
 xcond t14_7
 (opK Try.prog E (xCall (Value.func (.func 70) #[] #[]) [x1]) w_8 fun t16_9 w_10 =>
 opK Try.prog E (xV (Instr.extract t16_9 0)) w_10 fun t17_11 w_12 =>
 opK Try.prog E (xV (Instr.extract t16_9 1)) w_12 fun t18_13 w_14 =>
 R (Value.tuple #[t17_11, t18_13]) w_14)
 (opK Try.prog E (xBin .eql 2 (.tmp 19) (.const (Value.int .i64 (-1))) x1 (Value.int .i64 (-1))) w_8 fun t20_15 w_16 =>
 xcond t20_15
 (opK Try.prog E (xCall (Value.func (.func 70) #[] #[]) [x0]) w_16 fun t22_17 w_18 =>
 opK Try.prog E (xV (Instr.extract t22_17 0)) w_18 fun t23_19 w_20 =>
 opK Try.prog E (xV (Instr.extract t22_17 1)) w_20 fun t24_21 w_22 =>
 R (Value.tuple #[t23_19, t24_21]) w_22)
 (opK Try.prog E (xBin .mul 2 (.tmp 25) (.tmp 26) x0 x1) w_16 fun t27_23 w_24 =>
 opK Try.prog E (xBin .quo 2 (.tmp 28) (.tmp 29) t27_23 x1) w_24 fun t30_25 w_26 =>
 opK Try.prog E (xBin .neq 2 (.tmp 30) (.tmp 31) t30_25 x0) w_26 fun t32_27 w_28 =>
 xcond t32_27
 (R (Value.tuple #[(Value.int .i64 0), (Value.int .i64 1)]) w_28)
 (R (Value.tuple #[t27_23, (Value.int .i64 0)]) w_28))))
noncomputable def c73 : Code := Try.f73.body.getD .skip
def h73 : Hint := (.seq .none (.seq (.seq .none (.cond (.seq .none .none) .none)) (.seq (.seq .none (.cond (.seq .none .none) .none)) (.seq (.seq .none (.cond (.seq .none .none) .none)) (.seq .none (.seq (.seq .none (.cond (.seq .none .none) .none)) (.seq .none .none)))))))
theorem F73_eq (x0 x1 : Value) (w : World) (R : Value → World → Prop) (E : Pan) : F73 x0 x1 w R E = callX Try.prog [.tmp 4, .tmp 5] c73 h73 [x0, x1] w R E := by kernel_rfl
theorem F73_ok {x0 x1 : Value} {w : World} {R : Value → World → Prop} {E : Pan} (h : F73 x0 x1 w R E) : Cv Try.prog 73 #[x0, x1] w R E := by
 refine callX_sound (args := [x0, x1]) (c := c73) (h := h73) (rs := [.tmp 4, .tmp 5]) Try.func73 (by kernel_rfl) (by kernel_rfl) (Nat.le_of_ble_eq_true (by kernel_rfl)) (by kernel_rfl) (by kernel_rfl) (by kernel_rfl) ?_
 rw [← F73_eq]
 exact h

/- function 74: gnomon/gnomonref7.Div -/
def F74 (x0 x1 : Value) (w : World) (R : Value → World → Prop) (E : Pan) : Prop :=
 opK Try.prog E (xCall (Value.func (.func 87) #[] #[]) [x0, x1]) w fun t9_1 w_2 =>
 opK Try.prog E (xBin .neq 3 (.tmp 10) (.const (Value.int .i64 0)) t9_1 (Value.int .i64 0)) w_2 fun t11_3 w_4 =>
 xcond t11_3
 (R (Value.tuple #[(Value.int .i64 0), t9_1]) w_4)
 (opK Try.prog E (xBin .quo 2 (.tmp 13) (.tmp 14) x0 x1) w_4 fun t15_5 w_6 =>
 R (Value.tuple #[t15_5, (Value.int .i64 0)]) w_6)
noncomputable def c74 : Code := Try.f74.body.getD .skip
def h74 : Hint := (.seq .none (.seq .none (.seq (.seq .none (.cond (.seq .none .none) .none)) (.seq .none .none))))
theorem F74_eq (x0 x1 : Value) (w : World) (R : Value → World → Prop) (E : Pan) : F74 x0 x1 w R E = callX Try.prog [.tmp 4, .tmp 5] c74 h74 [x0, x1] w R E := by kernel_rfl
theorem F74_ok {x0 x1 : Value} {w : World} {R : Value → World → Prop} {E : Pan} (h : F74 x0 x1 w R E) : Cv Try.prog 74 #[x0, x1] w R E := by
 refine callX_sound (args := [x0, x1]) (c := c74) (h := h74) (rs := [.tmp 4, .tmp 5]) Try.func74 (by kernel_rfl) (by kernel_rfl) (Nat.le_of_ble_eq_true (by kernel_rfl)) (by kernel_rfl) (by kernel_rfl) (by kernel_rfl) ?_
 rw [← F74_eq]
 exact h

/- function 75: gnomon/gnomonref7.Rem -/
def F75 (x0 x1 : Value) (w : World) (R : Value → World → Prop) (E : Pan) : Prop :=
 opK Try.prog E (xCall (Value.func (.func 87) #[] #[]) [x0, x1]) w fun t9_1 w_2 =>
 opK Try.prog E (xBin .neq 3 (.tmp 10) (.const (Value.int .i64 0)) t9_1 (Value.int .i64 0)) w_2 fun t11_3 w_4 =>
 xcond t11_3
 (R (Value.tuple #[(Value.int .i64 0), t9_1]) w_4)
 (opK Try.prog E (xBin .quo 2 (.tmp 14) (.tmp 15) x0 x1) w_4 fun t16_5 w_6 =>
 opK Try.prog E (xBin .mul 2 (.tmp 16) (.tmp 17) t16_5 x1) w_6 fun t18_7 w_8 =>
 opK Try.prog E (xBin .sub 2 (.tmp 13) (.tmp 18) x0 t18_7) w_8 fun t19_9 w_10 =>
 R (Value.tuple #[t19_9, (Value.int .i64 0)]) w_10)
noncomputable def c75 : Code := Try.f75.body.getD .skip
def h75 : Hint := (.seq .none (.seq .none (.seq (.seq .none (.cond (.seq .none .none) .none)) (.seq .none .none))))
theorem F75_eq (x0 x1 : Value) (w : World) (R : Value → World → Prop) (E : Pan) : F75 x0 x1 w R E = callX Try.prog [.tmp 4, .tmp 5] c75 h75 [x0, x1] w R E := by kernel_rfl
theorem F75_ok {x0 x1 : Value} {w : World} {R : Value → World → Prop} {E : Pan} (h : F75 x0 x1 w R E) : Cv Try.prog 75 #[x0, x1] w R E := by
 refine callX_sound (args := [x0, x1]) (c := c75) (h := h75) (rs := [.tmp 4, .tmp 5]) Try.func75 (by kernel_rfl) (by kernel_rfl) (Nat.le_of_ble_eq_true (by kernel_rfl)) (by kernel_rfl) (by kernel_rfl) (by kernel_rfl) ?_
 rw [← F75_eq]
 exact h

/- function 76: math/bits.Mul64 -/
def F76 (x0 x1 : Value) (w : World) (R : Value → World → Prop) (E : Pan) : Prop :=
 opK Try.prog E (xBin .and 111 (.tmp 14) (.const (Value.int .u64 4294967295)) x0 (Value.int .u64 4294967295)) w fun t15_1 w_2 =>
 opK Try.prog E (xBin .shr 111 (.tmp 16) (.const (Value.int .u64 32)) x0 (Value.int .u64 32)) w_2 fun t17_3 w_4 =>
 opK Try.prog E (xBin .and 111 (.tmp 18) (.const (Value.int .u64 4294967295)) x1 (Value.int .u64 4294967295)) w_4 fun t19_5 w_6 =>
 opK Try.prog E (xBin .shr 111 (.tmp 20) (.const (Value.int .u64 32)) x1 (Value.int .u64 32)) w_6 fun t21_7 w_8 =>
 opK Try.prog E (xBin .mul 111 (.tmp 22) (.tmp 23) t15_1 t19_5) w_8 fun t24_9 w_10 =>
 opK Try.prog E (xBin .mul 111 (.tmp 25) (.tmp 26) t17_3 t19_5) w_10 fun t27_11 w_12 =>
 opK Try.prog E (xBin .shr 111 (.tmp 28) (.const (Value.int .u64 32)) t24_9 (Value.int .u64 32)) w_12 fun t29_13 w_14 =>
 opK Try.prog E (xBin .add 111 (.tmp 27) (.tmp 29) t27_11 t29_13) w_14 fun t30_15 w_16 =>
 opK Try.prog E (xBin .and 111 (.tmp 31) (.const (Value.int .u64 4294967295)) t30_15 (Value.int .u64 4294967295)) w_16 fun t32_17 w_18 =>
 opK Try.prog E (xBin .shr 111 (.tmp 33) (.const (Value.int .u64 32)) t30_15 (Value.int .u64 32)) w_18 fun t34_19 w_20 =>
 opK Try.prog E (xBin .mul 111 (.tmp 36) (.tmp 37) t15_1 t21_7) w_20 fun t38_21 w_22 =>
 opK Try.prog E (xBin .add 111 (.tmp 35) (.tmp 38) t32_17 t38_21) w_22 fun t39_23 w_24 =>
 opK Try.prog E (xBin .mul 111 (.tmp 40) (.tmp 41) t17_3 t21_7) w_24 fun t42_25 w_26 =>
 opK Try.prog E (xBin .add 111 (.tmp 42) (.tmp 43) t42_25 t34_19) w_26 fun t44_27 w_28 =>
 opK Try.prog E (xBin .shr 111 (.tmp 45) (.const (Value.int .u64 32)) t39_23 (Value.int .u64 32)) w_28 fun t46_29 w_30 =>
 opK Try.prog E (xBin .add 111 (.tmp 44) (.tmp 46) t44_27 t46_29) w_30 fun t47_31 w_32 =>
 opK Try.prog E (xBin .mul 111 (.tmp 48) (.tmp 49) x0 x1) w_32 fun t50_33 w_34 =>
 R (Value.tuple #[t47_31, t50_33]) w_34
noncomputable def c76 : Code := Try.f76.body.getD .skip
def h76 : Hint := (.seq .none (.seq .none (.seq .none (.seq .none (.seq .none (.seq .none (.seq .none (.seq .none (.seq .none (.seq .none (.seq .none (.seq .none .none))))))))))))
theorem F76_eq (x0 x1 : Value) (w : World) (R : Value → World → Prop) (E : Pan) : F76 x0 x1 w R E = callX Try.prog [.tmp 4, .tmp 5] c76 h76 [x0, x1] w R E := by kernel_rfl
theorem F76_ok {x0 x1 : Value} {w : World} {R : Value → World → Prop} {E : Pan} (h : F76 x0 x1 w R E) : Cv Try.prog 76 #[x0, x1] w R E := by
 refine callX_sound (args := [x0, x1]) (c := c76) (h := h76) (rs := [.tmp 4, .tmp 5]) Try.func76 (by kernel_rfl) (by kernel_rfl) (Nat.le_of_ble_eq_true (by kernel_rfl)) (by kernel_rfl) (by kernel_rfl) (by kernel_rfl) ?_
 rw [← F76_eq]
 exact h

/- function 77: gnomon/num.size -/
def F77 (x0 : Value) (w : World) (R : Value → World → Prop) (E : Pan) : Prop :=
 opK Try.prog E (xBin .lss 2 (.tmp 3) (.const (Value.int .i64 0)) x0 (Value.int .i64 0)) w fun t4_1 w_2 =>
 xcond t4_1
 (opK Try.prog E (xV (convert 2 111 x0)) w_2 fun t6_3 w_4 =>
 opK Try.prog E (xV (Op.unary .neg t6_3)) w_4 fun t7_5 w_6 =>
 R t7_5 w_6)
 (opK Try.prog E (xV (convert 2 111 x0)) w_2 fun t9_7 w_8 =>
 R t9_7 w_8)
noncomputable def c77 : Code := Try.f77.body.getD .skip
def h77 : Hint := (.seq .none (.seq (.seq .none (.cond (.seq .none .none) .none)) (.seq .none .none)))
theorem F77_eq (x0 : Value) (w : World) (R : Value → World → Prop) (E : Pan) : F77 x0 w R E = callX Try.prog [.tmp 2] c77 h77 [x0] w R E := by kernel_rfl
theorem F77_ok {x0 : Value} {w : World} {R : Value → World → Prop} {E : Pan} (h : F77 x0 w R E) : Cv Try.prog 77 #[x0] w R E := by
 refine callX_sound (args := [x0]) (c := c77) (h := h77) (rs := [.tmp 2]) Try.func77 (by kernel_rfl) (by kernel_rfl) (Nat.le_of_ble_eq_true (by kernel_rfl)) (by kernel_rfl) (by kernel_rfl) (by kernel_rfl) ?_
 rw [← F77_eq]
 exact h

/- function 78: gnomon/num.divides -/
def F78 (x0 x1 : Value) (w : World) (R : Value → World → Prop) (E : Pan) : Prop :=
 opK Try.prog E (xBin .eql 2 (.tmp 6) (.const (Value.int .i64 0)) x1 (Value.int .i64 0)) w fun t7_1 w_2 =>
 xcond t7_1
 (R (Value.int .i64 2) w_2)
 (opK Try.prog E (xBin .eql 2 (.tmp 9) (.const (Value.int .i64 (-9223372036854775808))) x0 (Value.int .i64 (-9223372036854775808))) w_2 fun t10_3 w_4 =>
 opK Try.prog E (gsem (asB t10_3) true (xBin .eql 2 (.tmp 12) (.const (Value.int .i64 (-1))) (gval (asB t10_3) true x1) (Value.int .i64 (-1)))) w_4 fun t13_5 w_6 =>
 opK Try.prog E (xPick t10_3 t13_5 (Value.bool false)) w_6 fun t14_7 w_8 =>
 xcond t14_7
 (R (Value.int .i64 1) w_8)
 (R (Value.int .i64 0) w_8))
noncomputable def c78 : Code := Try.f78.body.getD .skip
def h78 : Hint := (.seq .none (.seq (.block (.seq .none (.cond (.seq .none .none) (.seq .none (.cond (.seq .none .none) .none))))) (.seq .none .none)))
theorem F78_eq (x0 x1 : Value) (w : World) (R : Value → World → Prop) (E : Pan) : F78 x0 x1 w R E = callX Try.prog [.tmp 4] c78 h78 [x0, x1] w R E := by kernel_rfl
theorem F78_ok {x0 x1 : Value} {w : World} {R : Value → World → Prop} {E : Pan} (h : F78 x0 x1 w R E) : Cv Try.prog 78 #[x0, x1] w R E := by
 refine callX_sound (args := [x0, x1]) (c := c78) (h := h78) (rs := [.tmp 4]) Try.func78 (by kernel_rfl) (by kernel_rfl) (Nat.le_of_ble_eq_true (by kernel_rfl)) (by kernel_rfl) (by kernel_rfl) (by kernel_rfl) ?_
 rw [← F78_eq]
 exact h

/- function 79: gnomon/num.never -/
def F79 (_x0 _x1 : Value) (w : World) (R : Value → World → Prop) (_E : Pan) : Prop :=
 R (Value.bool false) w
noncomputable def c79 : Code := Try.f79.body.getD .skip
def h79 : Hint := (.seq .none (.seq .none .none))
theorem F79_eq (x0 x1 : Value) (w : World) (R : Value → World → Prop) (E : Pan) : F79 x0 x1 w R E = callX Try.prog [.tmp 4] c79 h79 [x0, x1] w R E := by kernel_rfl
theorem F79_ok {x0 x1 : Value} {w : World} {R : Value → World → Prop} {E : Pan} (h : F79 x0 x1 w R E) : Cv Try.prog 79 #[x0, x1] w R E := by
 refine callX_sound (args := [x0, x1]) (c := c79) (h := h79) (rs := [.tmp 4]) Try.func79 (by kernel_rfl) (by kernel_rfl) (Nat.le_of_ble_eq_true (by kernel_rfl)) (by kernel_rfl) (by kernel_rfl) (by kernel_rfl) ?_
 rw [← F79_eq]
 exact h

/- function 80: gnomon/num.compares$1 -/
def F80 (x0 x1 : Value) (w : World) (R : Value → World → Prop) (E : Pan) : Prop :=
 opK Try.prog E (xBin .lss 2 (.tmp 5) (.tmp 6) x0 x1) w fun t7_1 w_2 =>
 R t7_1 w_2
noncomputable def c80 : Code := Try.f80.body.getD .skip
def h80 : Hint := (.seq .none (.seq .none .none))
theorem F80_eq (x0 x1 : Value) (w : World) (R : Value → World → Prop) (E : Pan) : F80 x0 x1 w R E = callX Try.prog [.tmp 4] c80 h80 [x0, x1] w R E := by kernel_rfl
theorem F80_ok {x0 x1 : Value} {w : World} {R : Value → World → Prop} {E : Pan} (h : F80 x0 x1 w R E) : Cv Try.prog 80 #[x0, x1] w R E := by
 refine callX_sound (args := [x0, x1]) (c := c80) (h := h80) (rs := [.tmp 4]) Try.func80 (by kernel_rfl) (by kernel_rfl) (Nat.le_of_ble_eq_true (by kernel_rfl)) (by kernel_rfl) (by kernel_rfl) (by kernel_rfl) ?_
 rw [← F80_eq]
 exact h

/- function 81: gnomon/num.compares$2 -/
def F81 (x0 x1 : Value) (w : World) (R : Value → World → Prop) (E : Pan) : Prop :=
 opK Try.prog E (xBin .leq 2 (.tmp 5) (.tmp 6) x0 x1) w fun t7_1 w_2 =>
 R t7_1 w_2
noncomputable def c81 : Code := Try.f81.body.getD .skip
def h81 : Hint := (.seq .none (.seq .none .none))
theorem F81_eq (x0 x1 : Value) (w : World) (R : Value → World → Prop) (E : Pan) : F81 x0 x1 w R E = callX Try.prog [.tmp 4] c81 h81 [x0, x1] w R E := by kernel_rfl
theorem F81_ok {x0 x1 : Value} {w : World} {R : Value → World → Prop} {E : Pan} (h : F81 x0 x1 w R E) : Cv Try.prog 81 #[x0, x1] w R E := by
 refine callX_sound (args := [x0, x1]) (c := c81) (h := h81) (rs := [.tmp 4]) Try.func81 (by kernel_rfl) (by kernel_rfl) (Nat.le_of_ble_eq_true (by kernel_rfl)) (by kernel_rfl) (by kernel_rfl) (by kernel_rfl) ?_
 rw [← F81_eq]
 exact h

/- function 82: gnomon/num.compares$3 -/
def F82 (x0 x1 : Value) (w : World) (R : Value → World → Prop) (E : Pan) : Prop :=
 opK Try.prog E (xBin .eql 2 (.tmp 5) (.tmp 6) x0 x1) w fun t7_1 w_2 =>
 R t7_1 w_2
noncomputable def c82 : Code := Try.f82.body.getD .skip
def h82 : Hint := (.seq .none (.seq .none .none))
theorem F82_eq (x0 x1 : Value) (w : World) (R : Value → World → Prop) (E : Pan) : F82 x0 x1 w R E = callX Try.prog [.tmp 4] c82 h82 [x0, x1] w R E := by kernel_rfl
theorem F82_ok {x0 x1 : Value} {w : World} {R : Value → World → Prop} {E : Pan} (h : F82 x0 x1 w R E) : Cv Try.prog 82 #[x0, x1] w R E := by
 refine callX_sound (args := [x0, x1]) (c := c82) (h := h82) (rs := [.tmp 4]) Try.func82 (by kernel_rfl) (by kernel_rfl) (Nat.le_of_ble_eq_true (by kernel_rfl)) (by kernel_rfl) (by kernel_rfl) (by kernel_rfl) ?_
 rw [← F82_eq]
 exact h

/- function 83: gnomon/num.compares$4 -/
def F83 (x0 x1 : Value) (w : World) (R : Value → World → Prop) (E : Pan) : Prop :=
 opK Try.prog E (xBin .neq 2 (.tmp 5) (.tmp 6) x0 x1) w fun t7_1 w_2 =>
 R t7_1 w_2
noncomputable def c83 : Code := Try.f83.body.getD .skip
def h83 : Hint := (.seq .none (.seq .none .none))
theorem F83_eq (x0 x1 : Value) (w : World) (R : Value → World → Prop) (E : Pan) : F83 x0 x1 w R E = callX Try.prog [.tmp 4] c83 h83 [x0, x1] w R E := by kernel_rfl
theorem F83_ok {x0 x1 : Value} {w : World} {R : Value → World → Prop} {E : Pan} (h : F83 x0 x1 w R E) : Cv Try.prog 83 #[x0, x1] w R E := by
 refine callX_sound (args := [x0, x1]) (c := c83) (h := h83) (rs := [.tmp 4]) Try.func83 (by kernel_rfl) (by kernel_rfl) (Nat.le_of_ble_eq_true (by kernel_rfl)) (by kernel_rfl) (by kernel_rfl) (by kernel_rfl) ?_
 rw [← F83_eq]
 exact h

/- function 84: gnomon/num.compares$5 -/
def F84 (x0 x1 : Value) (w : World) (R : Value → World → Prop) (E : Pan) : Prop :=
 opK Try.prog E (xBin .gtr 2 (.tmp 5) (.tmp 6) x0 x1) w fun t7_1 w_2 =>
 R t7_1 w_2
noncomputable def c84 : Code := Try.f84.body.getD .skip
def h84 : Hint := (.seq .none (.seq .none .none))
theorem F84_eq (x0 x1 : Value) (w : World) (R : Value → World → Prop) (E : Pan) : F84 x0 x1 w R E = callX Try.prog [.tmp 4] c84 h84 [x0, x1] w R E := by kernel_rfl
theorem F84_ok {x0 x1 : Value} {w : World} {R : Value → World → Prop} {E : Pan} (h : F84 x0 x1 w R E) : Cv Try.prog 84 #[x0, x1] w R E := by
 refine callX_sound (args := [x0, x1]) (c := c84) (h := h84) (rs := [.tmp 4]) Try.func84 (by kernel_rfl) (by kernel_rfl) (Nat.le_of_ble_eq_true (by kernel_rfl)) (by kernel_rfl) (by kernel_rfl) (by kernel_rfl) ?_
 rw [← F84_eq]
 exact h

/- function 85: gnomon/num.compares$6 -/
def F85 (x0 x1 : Value) (w : World) (R : Value → World → Prop) (E : Pan) : Prop :=
 opK Try.prog E (xBin .geq 2 (.tmp 5) (.tmp 6) x0 x1) w fun t7_1 w_2 =>
 R t7_1 w_2
noncomputable def c85 : Code := Try.f85.body.getD .skip
def h85 : Hint := (.seq .none (.seq .none .none))
theorem F85_eq (x0 x1 : Value) (w : World) (R : Value → World → Prop) (E : Pan) : F85 x0 x1 w R E = callX Try.prog [.tmp 4] c85 h85 [x0, x1] w R E := by kernel_rfl
theorem F85_ok {x0 x1 : Value} {w : World} {R : Value → World → Prop} {E : Pan} (h : F85 x0 x1 w R E) : Cv Try.prog 85 #[x0, x1] w R E := by
 refine callX_sound (args := [x0, x1]) (c := c85) (h := h85) (rs := [.tmp 4]) Try.func85 (by kernel_rfl) (by kernel_rfl) (Nat.le_of_ble_eq_true (by kernel_rfl)) (by kernel_rfl) (by kernel_rfl) (by kernel_rfl) ?_
 rw [← F85_eq]
 exact h

/- function 86: gnomon/gnomonref9.None -/
def F86 (w : World) (R : Value → World → Prop) (E : Pan) : Prop :=
 opK Try.prog E (xV (Instr.alloc 50 true (.tuple #[]))) w fun t0_1 w_2 =>
 opK Try.prog E (xV (Instr.build 50 #[(0, (Value.int .i64 (-1)))])) w_2 fun t1_3 w_4 =>
 opK Try.prog E (xU (Instr.storeAt 50 t0_1 t1_3)) w_4 fun _z_5 w_6 =>
 xcell Try.prog 50 t0_1 w_6 fun r_7 =>
 R r_7 w_6
noncomputable def c86 : Code := Try.f86.body.getD .skip
def h86 : Hint := (.seq .none (.seq .none .none))
theorem F86_eq (w : World) (R : Value → World → Prop) (E : Pan) : F86  w R E = callX Try.prog [.cell 0 50] c86 h86 [] w R E := by kernel_rfl
theorem F86_ok {w : World} {R : Value → World → Prop} {E : Pan} (h : F86  w R E) : Cv Try.prog 86 #[] w R E := by
 refine callX_sound (args := []) (c := c86) (h := h86) (rs := [.cell 0 50]) Try.func86 (by kernel_rfl) (by kernel_rfl) (Nat.zero_le _) (by kernel_rfl) (by kernel_rfl) (by kernel_rfl) ?_
 rw [← F86_eq]
 exact h

/- function 87: gnomon/gnomonref7.divides -/
def F87 (x0 x1 : Value) (w : World) (R : Value → World → Prop) (E : Pan) : Prop :=
 opK Try.prog E (xBin .eql 2 (.tmp 5) (.const (Value.int .i64 0)) x1 (Value.int .i64 0)) w fun t6_1 w_2 =>
 xcond t6_1
 (R (Value.int .i64 2) w_2)
 (opK Try.prog E (xBin .eql 2 (.tmp 7) (.const (Value.int .i64 (-9223372036854775808))) x0 (Value.int .i64 (-9223372036854775808))) w_2 fun t8_3 w_4 =>
 opK Try.prog E (gsem (asB t8_3) true (xBin .eql 2 (.tmp 10) (.const (Value.int .i64 (-1))) (gval (asB t8_3) true x1) (Value.int .i64 (-1)))) w_4 fun t11_5 w_6 =>
 opK Try.prog E (xPick t8_3 t11_5 (Value.bool false)) w_6 fun t12_7 w_8 =>
 xcond t12_7
 (R (Value.int .i64 1) w_8)
 (R (Value.int .i64 0) w_8))
noncomputable def c87 : Code := Try.f87.body.getD .skip
def h87 : Hint := (.seq .none (.seq (.seq .none (.cond (.seq .none .none) .none)) (.seq (.seq .none (.cond (.seq .none .none) .none)) (.seq .none .none))))
theorem F87_eq (x0 x1 : Value) (w : World) (R : Value → World → Prop) (E : Pan) : F87 x0 x1 w R E = callX Try.prog [.tmp 4] c87 h87 [x0, x1] w R E := by kernel_rfl
theorem F87_ok {x0 x1 : Value} {w : World} {R : Value → World → Prop} {E : Pan} (h : F87 x0 x1 w R E) : Cv Try.prog 87 #[x0, x1] w R E := by
 refine callX_sound (args := [x0, x1]) (c := c87) (h := h87) (rs := [.tmp 4]) Try.func87 (by kernel_rfl) (by kernel_rfl) (Nat.le_of_ble_eq_true (by kernel_rfl)) (by kernel_rfl) (by kernel_rfl) (by kernel_rfl) ?_
 rw [← F87_eq]
 exact h

end Go.Proofs.Ytgapepdglhcglaa
