/-
  The second reading of some of the program's functions, printed by gen2.py off the code; each is held against the code by the kernel.
-/
import Derived.Test.YthldnpmfelniiaaDoorGO
namespace Go.Proofs.YthldnpmfelniiaaDoor
open Go.RowKit
set_option maxRecDepth 100000

/- function 3: gnomon/gnomonlaw3.TreeEquals -/
def F3 (x0 x1 : Value) (w : World) (R : Value → World → Prop) (E : Pan) : Prop :=
 opK Tryd.prog E (xV (Instr.box 25 x0)) w fun t2_1 w_2 =>
 opK Tryd.prog E (xV (Instr.box 25 x1)) w_2 fun t3_3 w_4 =>
 dX w_4 fun w_5 =>
 opK Tryd.prog E (xCall (Value.func (.func 14) #[] #[]) []) w_5 fun t5_6 w_7 =>
 keepX [] w_5 w_7 (qL Tryd.prog w_7 (blk t2_1) (gsem (asB t5_6) true (xV (Instr.loadAt 25 t2_1))) fun t7_8 =>
 qL Tryd.prog w_7 (blk t3_3) (gsem (asB t5_6) true (xV (Instr.loadAt 25 t3_3))) fun t8_9 =>
 qL Tryd.prog w_7 (blk t2_1) (gsem (asB t5_6) true (xV (Instr.loadAt 25 t2_1))) fun t10_10 =>
 qL Tryd.prog w_7 (blk t3_3) (gsem (asB t5_6) true (xV (Instr.loadAt 25 t3_3))) fun t11_11 =>
 opK Tryd.prog E (gsem (asB t5_6) true (xCall (Value.func (.func 15) #[] #[]) [t7_8, t8_9])) w_7 fun t9_12 w_13 =>
 keepX [(blk t3_3), (blk t2_1)] w_7 w_13 (opK Tryd.prog E (gsem (asB t5_6) true (xCall (Value.func (.func 16) #[] #[]) [t10_10, t11_11])) w_13 fun t12_14 w_15 =>
 keepX [] w_13 w_15 (qP Tryd.prog (gsem (asB t5_6) true (xBin .eql 4 (.tmp 9) (.tmp 12) t9_12 t12_14)) fun t13_16 =>
 qP Tryd.prog (xPick t5_6 t13_16 (Value.bool false)) fun t14_17 =>
 qL Tryd.prog w_15 (blk t3_3) (gsem (asB t14_17) true (xV (Instr.loadAt 25 t3_3))) fun t16_18 =>
 qL Tryd.prog w_15 (blk t2_1) (gsem (asB t14_17) true (xV (Instr.loadAt 25 t2_1))) fun t17_19 =>
 qL Tryd.prog w_15 (blk t2_1) (gsem (asB t14_17) true (xV (Instr.loadAt 25 t2_1))) fun t19_20 =>
 qL Tryd.prog w_15 (blk t3_3) (gsem (asB t14_17) true (xV (Instr.loadAt 25 t3_3))) fun t20_21 =>
 opK Tryd.prog E (gsem (asB t14_17) true (xCall (Value.func (.func 15) #[] #[]) [t16_18, t17_19])) w_15 fun t18_22 w_23 =>
 keepX [(blk t3_3), (blk t2_1)] w_15 w_23 (opK Tryd.prog E (gsem (asB t14_17) true (xCall (Value.func (.func 15) #[] #[]) [t19_20, t20_21])) w_23 fun t21_24 w_25 =>
 keepX [] w_23 w_25 (qP Tryd.prog (gsem (asB t14_17) true (xBin .eql 4 (.tmp 18) (.tmp 21) t18_22 t21_24)) fun t22_26 =>
 qP Tryd.prog (xPick t14_17 t22_26 (Value.bool false)) fun t23_27 =>
 R t23_27 w_25)))))
noncomputable def c3 : Code := Tryd.f3.body.getD .skip
def h3 : Hint := (.seq .none (.seq (.reg [(0, 32, 0), (1, 64, 32), (2, 128, 68), (2, 256, 72), (14, 512, 448), (2, 1024, 68), (2, 2048, 72), (114, 4096, 3136), (146, 8192, 4672), (258, 16384, 8256), (640, 32768, 16384), (1024, 65536, 32776), (1024, 131072, 32772), (7168, 262144, 229376), (1024, 524288, 32772), (1024, 1048576, 32776), (58368, 2097152, 1605632), (74752, 4194304, 2392064), (132096, 8388608, 4227072), (524287, 16, 8388608)] [0, 55404, 55400, 55396, 96, 55372, 55340, 0, 55404, 55404, 55404, 53356, 51308, 49152, 39020, 22636, 0, 55404, 55404, 55404] (.step 0 (.early 1 (.load 2 (.load 3 (.load 5 (.load 6 (.step 4 (.step 7 (.early 8 (.early 9 (.early 10 (.load 11 (.load 12 (.load 14 (.load 15 (.step 13 (.step 16 (.early 17 (.early 18 (.early 19 .done))))))))))))))))))))) .none))
theorem F3_eq (x0 x1 : Value) (w : World) (R : Value → World → Prop) (E : Pan) : F3 x0 x1 w R E = callX Tryd.prog [.tmp 4] c3 h3 [x0, x1] w R E := by kernel_rfl
theorem F3_ok {x0 x1 : Value} {w : World} {R : Value → World → Prop} {E : Pan} (h : F3 x0 x1 w R E) : Cv Tryd.prog 3 #[x0, x1] w R E := by
 refine callX_sound (args := [x0, x1]) (c := c3) (h := h3) (rs := [.tmp 4]) Tryd.func3 (by kernel_rfl) (by kernel_rfl) (Nat.le_of_ble_eq_true (by kernel_rfl)) (by kernel_rfl) (by kernel_rfl) (by kernel_rfl) ?_
 rw [← F3_eq]
 exact h

/- function 14: gnomon/gnomonlaw3.known -/
def F14 (w : World) (R : Value → World → Prop) (E : Pan) : Prop :=
 opK Tryd.prog E (xCall (Value.func (.func 50) #[] #[]) []) w fun t6_1 w_2 =>
 opK Tryd.prog E (xCall (Value.func (.func 24) #[] #[]) [t6_1]) w_2 fun t7_3 w_4 =>
 opK Tryd.prog E (xV (Instr.extract t7_3 0)) w_4 fun t8_5 w_6 =>
 opK Tryd.prog E (xV (Instr.extract t7_3 1)) w_6 fun t9_7 w_8 =>
 opK Tryd.prog E (xCall (Value.func (.func 50) #[] #[]) []) w_8 fun t11_9 w_10 =>
 opK Tryd.prog E (xCall (Value.func (.func 25) #[] #[]) [t11_9]) w_10 fun t12_11 w_12 =>
 opK Tryd.prog E (xV (Instr.extract t12_11 0)) w_12 fun t13_13 w_14 =>
 opK Tryd.prog E (xV (Instr.extract t12_11 1)) w_14 fun t14_15 w_16 =>
 opK Tryd.prog E (xBin .eql 34 (.tmp 15) (.const (Value.int .i64 0)) t9_7 (Value.int .i64 0)) w_16 fun t16_17 w_18 =>
 opK Tryd.prog E (gsem (asB t16_17) true (xBin .eql 34 (.tmp 18) (.const (Value.int .i64 0)) (gval (asB t16_17) true t14_15) (Value.int .i64 0))) w_18 fun t19_19 w_20 =>
 opK Tryd.prog E (xPick t16_17 t19_19 (Value.bool false)) w_20 fun t20_21 w_22 =>
 opK Tryd.prog E (gsem (asB t20_21) true (xBin .eql 3 (.tmp 22) (.const (Value.int .i64 3)) (gval (asB t20_21) true t8_5) (Value.int .i64 3))) w_22 fun t23_23 w_24 =>
 opK Tryd.prog E (xPick t20_21 t23_23 (Value.bool false)) w_24 fun t24_25 w_26 =>
 opK Tryd.prog E (gsem (asB t24_25) true (xBin .eql 3 (.tmp 26) (.const (Value.int .i64 5)) (gval (asB t24_25) true t13_13) (Value.int .i64 5))) w_26 fun t27_27 w_28 =>
 opK Tryd.prog E (xPick t24_25 t27_27 (Value.bool false)) w_28 fun t28_29 w_30 =>
 opK Tryd.prog E (gsem (asB t28_29) true (xV (Instr.build 30 #[(1, (Value.int .i64 (-1))), (0, (Value.int .i64 1))]))) w_30 fun t30_31 w_32 =>
 opK Tryd.prog E (gsem (asB t28_29) true (xCall (Value.func (.func 17) #[] #[]) [t30_31])) w_32 fun t31_33 w_34 =>
 opK Tryd.prog E (gsem (asB t28_29) true (xBin .eql 34 (.tmp 31) (.const (Value.int .i64 30)) t31_33 (Value.int .i64 30))) w_34 fun t32_35 w_36 =>
 opK Tryd.prog E (xPick t28_29 t32_35 (Value.bool false)) w_36 fun t33_37 w_38 =>
 opK Tryd.prog E (gsem (asB t33_37) true (xCall (Value.func (.func 50) #[] #[]) [])) w_38 fun t35_39 w_40 =>
 opK Tryd.prog E (gsem (asB t33_37) true (xCall (Value.func (.func 50) #[] #[]) [])) w_40 fun t36_41 w_42 =>
 opK Tryd.prog E (gsem (asB t33_37) true (xCall (Value.func (.func 15) #[] #[]) [t35_39, t36_41])) w_42 fun t37_43 w_44 =>
 opK Tryd.prog E (xPick t33_37 t37_43 (Value.bool false)) w_44 fun t38_45 w_46 =>
 R t38_45 w_46
noncomputable def c14 : Code := Tryd.f14.body.getD .skip
def h14 : Hint := (.seq .none (.seq .none (.seq .none (.seq .none .none))))
theorem F14_eq (w : World) (R : Value → World → Prop) (E : Pan) : F14  w R E = callX Tryd.prog [.tmp 0] c14 h14 [] w R E := by kernel_rfl
theorem F14_ok {w : World} {R : Value → World → Prop} {E : Pan} (h : F14  w R E) : Cv Tryd.prog 14 #[] w R E := by
 refine callX_sound (args := []) (c := c14) (h := h14) (rs := [.tmp 0]) Tryd.func14 (by kernel_rfl) (by kernel_rfl) (Nat.zero_le _) (by kernel_rfl) (by kernel_rfl) (by kernel_rfl) ?_
 rw [← F14_eq]
 exact h

/- function 15: gnomon/tree.Equal -/
def F15 (x0 x1 : Value) (w : World) (R : Value → World → Prop) (E : Pan) : Prop :=
 opK Tryd.prog E (xV (Instr.box 25 x0)) w fun t2_1 w_2 =>
 opK Tryd.prog E (xV (Instr.box 25 x1)) w_2 fun t3_3 w_4 =>
 opK Tryd.prog E (xV (Instr.loadAt 25 t2_1)) w_4 fun t5_5 w_6 =>
 opK Tryd.prog E (xCall (Value.func (.func 51) #[] #[]) [t5_5]) w_6 fun t6_7 w_8 =>
 opK Tryd.prog E (gsem (asB t6_7) true (xV (Instr.loadAt 25 t3_3))) w_8 fun t8_9 w_10 =>
 opK Tryd.prog E (gsem (asB t6_7) true (xCall (Value.func (.func 51) #[] #[]) [t8_9])) w_10 fun t9_11 w_12 =>
 opK Tryd.prog E (xPick t6_7 t9_11 (Value.bool false)) w_12 fun t10_13 w_14 =>
 opK Tryd.prog E (gsem (asB t10_13) true (xV (Instr.fieldAt 25 t2_1 0))) w_14 fun t12_15 w_16 =>
 opK Tryd.prog E (gsem (asB t10_13) true (xV (Instr.loadAt 22 t12_15))) w_16 fun t13_17 w_18 =>
 opK Tryd.prog E (gsem (asB t10_13) true (xV (Instr.fieldAt 25 t3_3 0))) w_18 fun t14_19 w_20 =>
 opK Tryd.prog E (gsem (asB t10_13) true (xV (Instr.loadAt 22 t14_19))) w_20 fun t15_21 w_22 =>
 opK Tryd.prog E (gsem (asB t10_13) true (xCall (Value.func (.func 52) #[] #[]) [t13_17, t15_21])) w_22 fun t16_23 w_24 =>
 opK Tryd.prog E (xPick t10_13 t16_23 (Value.bool false)) w_24 fun t17_25 w_26 =>
 opK Tryd.prog E (gsem (asB t17_25) true (xV (Instr.fieldAt 25 t2_1 1))) w_26 fun t19_27 w_28 =>
 opK Tryd.prog E (gsem (asB t17_25) true (xV (Instr.loadAt 23 t19_27))) w_28 fun t20_29 w_30 =>
 opK Tryd.prog E (gsem (asB t17_25) true (xV (Instr.fieldAt 25 t3_3 1))) w_30 fun t21_31 w_32 =>
 opK Tryd.prog E (gsem (asB t17_25) true (xV (Instr.loadAt 23 t21_31))) w_32 fun t22_33 w_34 =>
 opK Tryd.prog E (gsem (asB t17_25) true (xCall (Value.func (.func 53) #[] #[]) [t20_29, t22_33, (Value.func (.func 54) #[] #[])])) w_34 fun t23_35 w_36 =>
 opK Tryd.prog E (xPick t17_25 t23_35 (Value.bool false)) w_36 fun t24_37 w_38 =>
 R t24_37 w_38
noncomputable def c15 : Code := Tryd.f15.body.getD .skip
def h15 : Hint := (.seq .none (.seq .none .none))
theorem F15_eq (x0 x1 : Value) (w : World) (R : Value → World → Prop) (E : Pan) : F15 x0 x1 w R E = callX Tryd.prog [.tmp 4] c15 h15 [x0, x1] w R E := by kernel_rfl
theorem F15_ok {x0 x1 : Value} {w : World} {R : Value → World → Prop} {E : Pan} (h : F15 x0 x1 w R E) : Cv Tryd.prog 15 #[x0, x1] w R E := by
 refine callX_sound (args := [x0, x1]) (c := c15) (h := h15) (rs := [.tmp 4]) Tryd.func15 (by kernel_rfl) (by kernel_rfl) (Nat.le_of_ble_eq_true (by kernel_rfl)) (by kernel_rfl) (by kernel_rfl) (by kernel_rfl) ?_
 rw [← F15_eq]
 exact h

/- function 16: gnomon/gnomonref3.Equal -/
def F16_j1 (w : World) (R : Value → World → Prop) (_E : Pan) : Prop :=
 ∀ _τ : Fr, (R (Value.bool true) w)
def F16_l2 (x2 x3 x5 : Value) (w : World) (next2 : List Value → World → Prop) (j1 : List Value → World → Prop) (R : Value → World → Prop) (E : Pan) : Prop :=
 opK Tryd.prog E (xV (Instr.fieldAt 25 x2 0)) w fun t32_51 w_52 =>
 opK Tryd.prog E (xV (Instr.loadAt 22 t32_51)) w_52 fun t33_53 w_54 =>
 opK Tryd.prog E (xBuiltin .len #[22] 3 [false] [t33_53]) w_54 fun t34_55 w_56 =>
 opK Tryd.prog E (xBin .lss 3 (.tmp 31) (.tmp 34) x5 t34_55) w_56 fun t35_57 w_58 =>
 xcond t35_57
 (dX w_58 fun w_59 =>
 qP Tryd.prog (xV (Instr.fieldAt 25 x2 0)) fun t38_60 =>
 qP Tryd.prog (xV (Instr.fieldAt 25 x3 0)) fun t43_61 =>
 qL Tryd.prog w_59 (blk t38_60) (xV (Instr.loadAt 22 t38_60)) fun t39_62 =>
 qP Tryd.prog (xV (Instr.indexAt 22 t39_62 x5)) fun t41_63 =>
 qL Tryd.prog w_59 (blk t41_63) (xV (Instr.loadAt 67 t41_63)) fun t42_64 =>
 qL Tryd.prog w_59 (blk t43_61) (xV (Instr.loadAt 22 t43_61)) fun t44_65 =>
 qP Tryd.prog (xV (Instr.indexAt 22 t44_65 x5)) fun t46_66 =>
 qL Tryd.prog w_59 (blk t46_66) (xV (Instr.loadAt 67 t46_66)) fun t47_67 =>
 qP Tryd.prog (xBin .neq 67 (.tmp 42) (.tmp 47) t42_64 t47_67) fun t48_68 =>
 xcond t48_68
 (R (Value.bool false) w_59)
 (opK Tryd.prog E (xBin .add 3 (.tmp 36) (.const (Value.int .i64 1)) x5 (Value.int .i64 1)) w_59 fun t37_69 w_70 =>
 next2 [t37_69] w_70))
 (j1 [] w_58)
def F16 (x0 x1 : Value) (w : World) (R : Value → World → Prop) (E : Pan) : Prop :=
 opK Tryd.prog E (xV (Instr.box 25 x0)) w fun t2_1 w_2 =>
 opK Tryd.prog E (xV (Instr.box 25 x1)) w_2 fun t3_3 w_4 =>
 opK Tryd.prog E (xV (Instr.loadAt 25 t2_1)) w_4 fun t6_5 w_6 =>
 opK Tryd.prog E (xCall (Value.func (.func 55) #[] #[]) [t6_5]) w_6 fun t7_7 w_8 =>
 opK Tryd.prog E (xV (Op.unary .not t7_7)) w_8 fun t8_9 w_10 =>
 opK Tryd.prog E (gsem (asB t8_9) false (xV (Instr.loadAt 25 t3_3))) w_10 fun t10_11 w_12 =>
 opK Tryd.prog E (gsem (asB t8_9) false (xCall (Value.func (.func 55) #[] #[]) [t10_11])) w_12 fun t11_13 w_14 =>
 opK Tryd.prog E (gsem (asB t8_9) false (xV (Op.unary .not t11_13))) w_14 fun t12_15 w_16 =>
 opK Tryd.prog E (xPick t8_9 (Value.bool true) t12_15) w_16 fun t13_17 w_18 =>
 opK Tryd.prog E (gsem (asB t13_17) false (xV (Instr.fieldAt 25 t2_1 0))) w_18 fun t15_19 w_20 =>
 opK Tryd.prog E (gsem (asB t13_17) false (xV (Instr.loadAt 22 t15_19))) w_20 fun t16_21 w_22 =>
 opK Tryd.prog E (gsem (asB t13_17) false (xBuiltin .len #[22] 3 [false] [t16_21])) w_22 fun t17_23 w_24 =>
 opK Tryd.prog E (gsem (asB t13_17) false (xV (Instr.fieldAt 25 t3_3 0))) w_24 fun t18_25 w_26 =>
 opK Tryd.prog E (gsem (asB t13_17) false (xV (Instr.loadAt 22 t18_25))) w_26 fun t19_27 w_28 =>
 opK Tryd.prog E (gsem (asB t13_17) false (xBuiltin .len #[22] 3 [false] [t19_27])) w_28 fun t20_29 w_30 =>
 opK Tryd.prog E (gsem (asB t13_17) false (xBin .neq 3 (.tmp 17) (.tmp 20) t17_23 t20_29)) w_30 fun t21_31 w_32 =>
 opK Tryd.prog E (xPick t13_17 (Value.bool true) t21_31) w_32 fun t22_33 w_34 =>
 opK Tryd.prog E (gsem (asB t22_33) false (xV (Instr.fieldAt 25 t2_1 1))) w_34 fun t24_35 w_36 =>
 opK Tryd.prog E (gsem (asB t22_33) false (xV (Instr.loadAt 23 t24_35))) w_36 fun t25_37 w_38 =>
 opK Tryd.prog E (gsem (asB t22_33) false (xV (Instr.fieldAt 25 t3_3 1))) w_38 fun t26_39 w_40 =>
 opK Tryd.prog E (gsem (asB t22_33) false (xV (Instr.loadAt 23 t26_39))) w_40 fun t27_41 w_42 =>
 opK Tryd.prog E (gsem (asB t22_33) false (xCall (Value.func (.func 56) #[] #[]) [t25_37, t27_41])) w_42 fun t28_43 w_44 =>
 opK Tryd.prog E (gsem (asB t22_33) false (xV (Op.unary .not t28_43))) w_44 fun t29_45 w_46 =>
 opK Tryd.prog E (xPick t22_33 (Value.bool true) t29_45) w_46 fun t30_47 w_48 =>
 xcond t30_47
 (R (Value.bool false) w_48)
 (xcut (fun _ w_50 => F16_j1 w_50 R E) fun j1 =>
 xloop [5] [(Value.int .i64 0)] w_48 fun τ_71 w_72 next2 =>
 F16_l2 t2_1 t3_3 (τ_71 5) w_72 next2 j1 R E)
noncomputable def c16 : Code := Tryd.f16.body.getD .skip
def h16 : Hint := (.seq .none (.seq (.seq .none (.cond (.seq .none .none) .none)) (.cut [] (.seq .none (.block (.loop [5] (.seq (.seq .none (.cond .none .none)) (.seq (.block (.seq (.reg [(0, 274877906944, 4), (1, 549755813888, 274877906944), (0, 1099511627776, 32), (6, 2199023255552, 1649267441664), (8, 4398046511104, 2199023255552), (0, 8796093022208, 8), (32, 17592186044416, 8796093022208), (0, 35184372088832, 32), (192, 70368744177664, 52776558133248), (256, 140737488355328, 70368744177664), (528, 281474976710656, 145135534866432)] [594, 592, 594, 594, 578, 594, 530, 594, 594, 82, 594] (.early 0 (.early 2 (.early 5 (.early 7 (.load 1 (.early 3 (.load 4 (.load 6 (.early 8 (.load 9 (.early 10 .done)))))))))))) (.cond (.seq .none .none) .none))) .none))))) (.seq .none .none))))
theorem F16_eq (x0 x1 : Value) (w : World) (R : Value → World → Prop) (E : Pan) : F16 x0 x1 w R E = callX Tryd.prog [.tmp 4] c16 h16 [x0, x1] w R E := by kernel_rfl
theorem F16_ok {x0 x1 : Value} {w : World} {R : Value → World → Prop} {E : Pan} (h : F16 x0 x1 w R E) : Cv Tryd.prog 16 #[x0, x1] w R E := by
 refine callX_sound (args := [x0, x1]) (c := c16) (h := h16) (rs := [.tmp 4]) Tryd.func16 (by kernel_rfl) (by kernel_rfl) (Nat.le_of_ble_eq_true (by kernel_rfl)) (by kernel_rfl) (by kernel_rfl) (by kernel_rfl) ?_
 rw [← F16_eq]
 exact h

/- function 17: gnomon/tree.Expr -/
def F17 (x0 : Value) (w : World) (R : Value → World → Prop) (E : Pan) : Prop :=
 opK Tryd.prog E (xV (Instr.box 30 x0)) w fun t1_1 w_2 =>
 opK Tryd.prog E (xV (Instr.loadAt 30 t1_1)) w_2 fun t3_3 w_4 =>
 opK Tryd.prog E (xV (Instr.build 96 #[(0, t3_3)])) w_4 fun t4_5 w_6 =>
 opK Tryd.prog E (xV (Instr.makeInterface 96 t4_5)) w_6 fun t5_7 w_8 =>
 opK Tryd.prog E (xV (Instr.buildSlice 97 1 #[(0, t5_7)])) w_8 fun t6_9 w_10 =>
 opK Tryd.prog E (xCall (Value.func (.func 57) #[] #[]) [t6_9]) w_10 fun t7_11 w_12 =>
 opK Tryd.prog E (xNil t7_11) w_12 fun t8_13 w_14 =>
 opK Tryd.prog E (xV (Instr.fieldAt 92 t8_13 2)) w_14 fun t9_15 w_16 =>
 opK Tryd.prog E (xV (Instr.loadAt 34 t9_15)) w_16 fun t10_17 w_18 =>
 R t10_17 w_18
noncomputable def c17 : Code := Tryd.f17.body.getD .skip
def h17 : Hint := (.seq .none (.seq .none .none))
theorem F17_eq (x0 : Value) (w : World) (R : Value → World → Prop) (E : Pan) : F17 x0 w R E = callX Tryd.prog [.tmp 2] c17 h17 [x0] w R E := by kernel_rfl
theorem F17_ok {x0 : Value} {w : World} {R : Value → World → Prop} {E : Pan} (h : F17 x0 w R E) : Cv Tryd.prog 17 #[x0] w R E := by
 refine callX_sound (args := [x0]) (c := c17) (h := h17) (rs := [.tmp 2]) Tryd.func17 (by kernel_rfl) (by kernel_rfl) (Nat.le_of_ble_eq_true (by kernel_rfl)) (by kernel_rfl) (by kernel_rfl) (by kernel_rfl) ?_
 rw [← F17_eq]
 exact h

/- function 24: gnomon/tree.Depth -/
def F24 (x0 : Value) (w : World) (R : Value → World → Prop) (E : Pan) : Prop :=
 opK Tryd.prog E (xV (Instr.box 25 x0)) w fun t1_1 w_2 =>
 opK Tryd.prog E (xV (Instr.loadAt 25 t1_1)) w_2 fun t5_3 w_4 =>
 opK Tryd.prog E (xCall (Value.func (.func 66) #[] #[]) [t5_3]) w_4 fun t6_5 w_6 =>
 opK Tryd.prog E (xNil t6_5) w_6 fun t8_7 w_8 =>
 opK Tryd.prog E (xV (Instr.fieldAt 92 t8_7 2)) w_8 fun t9_9 w_10 =>
 opK Tryd.prog E (xV (Instr.loadAt 34 t9_9)) w_10 fun t10_11 w_12 =>
 opK Tryd.prog E (xBin .neq 34 (.tmp 10) (.const (Value.int .i64 0)) t10_11 (Value.int .i64 0)) w_12 fun t11_13 w_14 =>
 xcond t11_13
 (dX w_14 fun w_15 =>
 qP Tryd.prog (xNil t6_5) fun t13_16 =>
 qP Tryd.prog (xV (Instr.fieldAt 92 t13_16 2)) fun t14_17 =>
 qL Tryd.prog w_15 (blk t14_17) (xV (Instr.loadAt 34 t14_17)) fun t15_18 =>
 R (Value.tuple #[(Value.int .i64 0), t15_18]) w_15)
 (opK Tryd.prog E (xNil t6_5) w_14 fun t17_19 w_20 =>
 opK Tryd.prog E (xV (Instr.fieldAt 92 t17_19 1)) w_20 fun t18_21 w_22 =>
 opK Tryd.prog E (xV (Instr.loadAt 3 t18_21)) w_22 fun t19_23 w_24 =>
 R (Value.tuple #[t19_23, (Value.int .i64 0)]) w_24)
noncomputable def c24 : Code := Tryd.f24.body.getD .skip
def h24 : Hint := (.seq .none (.seq .none (.seq (.seq .none (.cond (.seq (.reg [(0, 4096, 16), (1, 8192, 4096), (2, 16384, 8192), (4, 32768, 16384), (0, 4, 0), (31, 8, 32768)] [8, 8, 8, 0, 8, 8] (.early 0 (.early 1 (.early 2 (.early 4 (.load 3 (.early 5 .done))))))) .none) .none)) (.seq .none .none))))
theorem F24_eq (x0 : Value) (w : World) (R : Value → World → Prop) (E : Pan) : F24 x0 w R E = callX Tryd.prog [.tmp 2, .tmp 3] c24 h24 [x0] w R E := by kernel_rfl
theorem F24_ok {x0 : Value} {w : World} {R : Value → World → Prop} {E : Pan} (h : F24 x0 w R E) : Cv Tryd.prog 24 #[x0] w R E := by
 refine callX_sound (args := [x0]) (c := c24) (h := h24) (rs := [.tmp 2, .tmp 3]) Tryd.func24 (by kernel_rfl) (by kernel_rfl) (Nat.le_of_ble_eq_true (by kernel_rfl)) (by kernel_rfl) (by kernel_rfl) (by kernel_rfl) ?_
 rw [← F24_eq]
 exact h

/- function 25: gnomon/tree.Nodes -/
def F25 (x0 : Value) (w : World) (R : Value → World → Prop) (E : Pan) : Prop :=
 opK Tryd.prog E (xV (Instr.box 25 x0)) w fun t1_1 w_2 =>
 opK Tryd.prog E (xV (Instr.loadAt 25 t1_1)) w_2 fun t5_3 w_4 =>
 opK Tryd.prog E (xCall (Value.func (.func 66) #[] #[]) [t5_3]) w_4 fun t6_5 w_6 =>
 opK Tryd.prog E (xNil t6_5) w_6 fun t8_7 w_8 =>
 opK Tryd.prog E (xV (Instr.fieldAt 92 t8_7 2)) w_8 fun t9_9 w_10 =>
 opK Tryd.prog E (xV (Instr.loadAt 34 t9_9)) w_10 fun t10_11 w_12 =>
 opK Tryd.prog E (xBin .neq 34 (.tmp 10) (.const (Value.int .i64 0)) t10_11 (Value.int .i64 0)) w_12 fun t11_13 w_14 =>
 xcond t11_13
 (dX w_14 fun w_15 =>
 qP Tryd.prog (xNil t6_5) fun t13_16 =>
 qP Tryd.prog (xV (Instr.fieldAt 92 t13_16 2)) fun t14_17 =>
 qL Tryd.prog w_15 (blk t14_17) (xV (Instr.loadAt 34 t14_17)) fun t15_18 =>
 R (Value.tuple #[(Value.int .i64 0), t15_18]) w_15)
 (opK Tryd.prog E (xNil t6_5) w_14 fun t17_19 w_20 =>
 opK Tryd.prog E (xV (Instr.fieldAt 92 t17_19 0)) w_20 fun t18_21 w_22 =>
 opK Tryd.prog E (xV (Instr.loadAt 3 t18_21)) w_22 fun t19_23 w_24 =>
 R (Value.tuple #[t19_23, (Value.int .i64 0)]) w_24)
noncomputable def c25 : Code := Tryd.f25.body.getD .skip
def h25 : Hint := (.seq .none (.seq .none (.seq (.seq .none (.cond (.seq (.reg [(0, 4096, 16), (1, 8192, 4096), (2, 16384, 8192), (4, 32768, 16384), (0, 4, 0), (31, 8, 32768)] [8, 8, 8, 0, 8, 8] (.early 0 (.early 1 (.early 2 (.early 4 (.load 3 (.early 5 .done))))))) .none) .none)) (.seq .none .none))))
theorem F25_eq (x0 : Value) (w : World) (R : Value → World → Prop) (E : Pan) : F25 x0 w R E = callX Tryd.prog [.tmp 2, .tmp 3] c25 h25 [x0] w R E := by kernel_rfl
theorem F25_ok {x0 : Value} {w : World} {R : Value → World → Prop} {E : Pan} (h : F25 x0 w R E) : Cv Tryd.prog 25 #[x0] w R E := by
 refine callX_sound (args := [x0]) (c := c25) (h := h25) (rs := [.tmp 2, .tmp 3]) Tryd.func25 (by kernel_rfl) (by kernel_rfl) (Nat.le_of_ble_eq_true (by kernel_rfl)) (by kernel_rfl) (by kernel_rfl) (by kernel_rfl) ?_
 rw [← F25_eq]
 exact h

/- function 27: gnomon/tree.Check -/
def F27 (x0 : Value) (w : World) (R : Value → World → Prop) (E : Pan) : Prop :=
 opK Tryd.prog E (xV (Instr.box 25 x0)) w fun t1_1 w_2 =>
 opK Tryd.prog E (xV (Instr.loadAt 25 t1_1)) w_2 fun t3_3 w_4 =>
 opK Tryd.prog E (xCall (Value.func (.func 66) #[] #[]) [t3_3]) w_4 fun t4_5 w_6 =>
 opK Tryd.prog E (xNil t4_5) w_6 fun t5_7 w_8 =>
 opK Tryd.prog E (xV (Instr.fieldAt 92 t5_7 2)) w_8 fun t6_9 w_10 =>
 opK Tryd.prog E (xV (Instr.loadAt 34 t6_9)) w_10 fun t7_11 w_12 =>
 R t7_11 w_12
noncomputable def c27 : Code := Tryd.f27.body.getD .skip
def h27 : Hint := (.seq .none (.seq .none .none))
theorem F27_eq (x0 : Value) (w : World) (R : Value → World → Prop) (E : Pan) : F27 x0 w R E = callX Tryd.prog [.tmp 2] c27 h27 [x0] w R E := by kernel_rfl
theorem F27_ok {x0 : Value} {w : World} {R : Value → World → Prop} {E : Pan} (h : F27 x0 w R E) : Cv Tryd.prog 27 #[x0] w R E := by
 refine callX_sound (args := [x0]) (c := c27) (h := h27) (rs := [.tmp 2]) Tryd.func27 (by kernel_rfl) (by kernel_rfl) (Nat.le_of_ble_eq_true (by kernel_rfl)) (by kernel_rfl) (by kernel_rfl) (by kernel_rfl) ?_
 rw [← F27_eq]
 exact h

/- function 50: gnomon/gnomonlaw3.one -/
def F50 (w : World) (R : Value → World → Prop) (E : Pan) : Prop :=
 opK Tryd.prog E (xV (Instr.alloc 25 true (.tuple #[]))) w fun t0_1 w_2 =>
 opK Tryd.prog E (xV (Instr.build 30 #[(0, (Value.int .i64 2)), (2, (Value.string ⟨#[120]⟩))])) w_2 fun t2_3 w_4 =>
 opK Tryd.prog E (xV (Instr.build 30 #[(0, (Value.int .i64 1)), (1, (Value.int .i64 1))])) w_4 fun t3_5 w_6 =>
 opK Tryd.prog E (xV (Instr.buildSlice 28 2 #[(0, t2_3), (1, t3_5)])) w_6 fun t4_7 w_8 =>
 opK Tryd.prog E (xV (Instr.build 30 #[(0, (Value.int .i64 6)), (3, t4_7)])) w_8 fun t5_9 w_10 =>
 opK Tryd.prog E (xV (Instr.alloc 30 true (.tuple #[]))) w_10 fun t1_11 w_12 =>
 opK Tryd.prog E (xU (Instr.storeAt 30 t1_11 t5_9)) w_12 fun _z_13 w_14 =>
 opK Tryd.prog E (xV (Instr.build 67 #[(0, (Value.string ⟨#[120]⟩))])) w_14 fun t6_15 w_16 =>
 opK Tryd.prog E (xV (Instr.buildSlice 22 1 #[(0, t6_15)])) w_16 fun t7_17 w_18 =>
 opK Tryd.prog E (xV (Instr.loadAt 30 t1_11)) w_18 fun t8_19 w_20 =>
 opK Tryd.prog E (xV (Instr.buildSlice 28 1 #[(0, t8_19)])) w_20 fun t9_21 w_22 =>
 opK Tryd.prog E (xV (Instr.build 88 #[(0, (Value.int .i64 1)), (1, (Value.string ⟨#[120]⟩)), (2, t9_21)])) w_22 fun t10_23 w_24 =>
 opK Tryd.prog E (xV (Instr.buildSlice 23 1 #[(0, t10_23)])) w_24 fun t11_25 w_26 =>
 opK Tryd.prog E (xV (Instr.build 25 #[(0, t7_17), (1, t11_25)])) w_26 fun t12_27 w_28 =>
 opK Tryd.prog E (xU (Instr.storeAt 25 t0_1 t12_27)) w_28 fun _z_29 w_30 =>
 xcell Tryd.prog 25 t0_1 w_30 fun r_31 =>
 R r_31 w_30
noncomputable def c50 : Code := Tryd.f50.body.getD .skip
def h50 : Hint := (.seq .none (.seq .none (.seq .none .none)))
theorem F50_eq (w : World) (R : Value → World → Prop) (E : Pan) : F50  w R E = callX Tryd.prog [.cell 0 25] c50 h50 [] w R E := by kernel_rfl
theorem F50_ok {w : World} {R : Value → World → Prop} {E : Pan} (h : F50  w R E) : Cv Tryd.prog 50 #[] w R E := by
 refine callX_sound (args := []) (c := c50) (h := h50) (rs := [.cell 0 25]) Tryd.func50 (by kernel_rfl) (by kernel_rfl) (Nat.zero_le _) (by kernel_rfl) (by kernel_rfl) (by kernel_rfl) ?_
 rw [← F50_eq]
 exact h

/- function 51: gnomon/tree.bounded -/
def F51 (x0 : Value) (w : World) (R : Value → World → Prop) (E : Pan) : Prop :=
 opK Tryd.prog E (xV (Instr.box 25 x0)) w fun t1_1 w_2 =>
 opK Tryd.prog E (xV (Instr.loadAt 25 t1_1)) w_2 fun t4_3 w_4 =>
 opK Tryd.prog E (xCall (Value.func (.func 27) #[] #[]) [t4_3]) w_4 fun t5_5 w_6 =>
 opK Tryd.prog E (xBin .neq 34 (.tmp 6) (.const (Value.int .i64 32)) t5_5 (Value.int .i64 32)) w_6 fun t7_7 w_8 =>
 opK Tryd.prog E (gsem (asB t7_7) true (xBin .neq 34 (.tmp 9) (.const (Value.int .i64 33)) (gval (asB t7_7) true t5_5) (Value.int .i64 33))) w_8 fun t10_9 w_10 =>
 opK Tryd.prog E (xPick t7_7 t10_9 (Value.bool false)) w_10 fun t11_11 w_12 =>
 R t11_11 w_12
noncomputable def c51 : Code := Tryd.f51.body.getD .skip
def h51 : Hint := (.seq .none (.seq .none (.seq .none .none)))
theorem F51_eq (x0 : Value) (w : World) (R : Value → World → Prop) (E : Pan) : F51 x0 w R E = callX Tryd.prog [.tmp 2] c51 h51 [x0] w R E := by kernel_rfl
theorem F51_ok {x0 : Value} {w : World} {R : Value → World → Prop} {E : Pan} (h : F51 x0 w R E) : Cv Tryd.prog 51 #[x0] w R E := by
 refine callX_sound (args := [x0]) (c := c51) (h := h51) (rs := [.tmp 2]) Tryd.func51 (by kernel_rfl) (by kernel_rfl) (Nat.le_of_ble_eq_true (by kernel_rfl)) (by kernel_rfl) (by kernel_rfl) (by kernel_rfl) ?_
 rw [← F51_eq]
 exact h

/- function 52: slices.Equal[[]gnomon/api.Decl,gnomon/api.Decl] -/
def F52_j1 (w : World) (R : Value → World → Prop) (_E : Pan) : Prop :=
 ∀ _τ : Fr, (R (Value.bool true) w)
def F52_l2 (x0 x1 x12 x13 : Value) (w : World) (next2 : List Value → World → Prop) (j1 : List Value → World → Prop) (R : Value → World → Prop) (E : Pan) : Prop :=
 opK Tryd.prog E (xBin .lss 3 (.tmp 13) (.tmp 12) x13 x12) w fun t14_11 w_12 =>
 xcond t14_11
 (dX w_12 fun w_13 =>
 qP Tryd.prog (xV (Instr.indexAt 22 x0 x13)) fun t18_14 =>
 qP Tryd.prog (xV (Instr.indexAt 22 x1 x13)) fun t22_15 =>
 qL Tryd.prog w_13 (blk t18_14) (xV (Instr.loadAt 67 t18_14)) fun t19_16 =>
 qL Tryd.prog w_13 (blk t22_15) (xV (Instr.loadAt 67 t22_15)) fun t23_17 =>
 qP Tryd.prog (xBin .neq 67 (.tmp 19) (.tmp 23) t19_16 t23_17) fun t24_18 =>
 xcond t24_18
 (R (Value.bool false) w_13)
 (opK Tryd.prog E (xBin .add 3 (.tmp 13) (.const (Value.int .i64 1)) x13 (Value.int .i64 1)) w_13 fun t25_19 w_20 =>
 next2 [t25_19] w_20))
 (j1 [] w_12)
def F52 (x0 x1 : Value) (w : World) (R : Value → World → Prop) (E : Pan) : Prop :=
 opK Tryd.prog E (xBuiltin .len #[22] 3 [false] [x0]) w fun t7_1 w_2 =>
 opK Tryd.prog E (xBuiltin .len #[22] 3 [false] [x1]) w_2 fun t9_3 w_4 =>
 opK Tryd.prog E (xBin .neq 3 (.tmp 7) (.tmp 9) t7_1 t9_3) w_4 fun t10_5 w_6 =>
 xcond t10_5
 (R (Value.bool false) w_6)
 (xcut (fun _ w_8 => F52_j1 w_8 R E) fun j1 =>
 opK Tryd.prog E (xBuiltin .len #[22] 3 [false] [x0]) w_6 fun t12_9 w_10 =>
 xloop [13] [(Value.int .i64 0)] w_10 fun τ_21 w_22 next2 =>
 F52_l2 x0 x1 t12_9 (τ_21 13) w_22 next2 j1 R E)
noncomputable def c52 : Code := Tryd.f52.body.getD .skip
def h52 : Hint := (.seq .none (.seq (.seq .none (.cond (.seq .none .none) .none)) (.cut [] (.seq .none (.block (.loop [13] (.seq .none (.seq (.cond .none .none) (.seq (.block (.seq .none (.seq (.reg [(0, 65536, 1), (0, 131072, 32), (3, 262144, 196608), (4, 524288, 262144), (0, 1048576, 2), (0, 2097152, 32), (48, 4194304, 3145728), (64, 8388608, 4194304), (136, 16777216, 8912896)] [136, 136, 136, 128, 136, 136, 136, 8, 136] (.early 0 (.early 1 (.early 2 (.early 4 (.early 5 (.early 6 (.load 3 (.load 7 (.early 8 .done)))))))))) (.cond (.seq .none .none) .none)))) .none)))))) (.seq .none .none))))
theorem F52_eq (x0 x1 : Value) (w : World) (R : Value → World → Prop) (E : Pan) : F52 x0 x1 w R E = callX Tryd.prog [.tmp 4] c52 h52 [x0, x1] w R E := by kernel_rfl
theorem F52_ok {x0 x1 : Value} {w : World} {R : Value → World → Prop} {E : Pan} (h : F52 x0 x1 w R E) : Cv Tryd.prog 52 #[x0, x1] w R E := by
 refine callX_sound (args := [x0, x1]) (c := c52) (h := h52) (rs := [.tmp 4]) Tryd.func52 (by kernel_rfl) (by kernel_rfl) (Nat.le_of_ble_eq_true (by kernel_rfl)) (by kernel_rfl) (by kernel_rfl) (by kernel_rfl) ?_
 rw [← F52_eq]
 exact h

/- function 53: slices.EqualFunc[[]gnomon/api.Stmt,[]gnomon/api.Stmt,gnomon/api.Stmt,gnomon/api.Stmt] -/
def F53_j1 (w : World) (R : Value → World → Prop) (_E : Pan) : Prop :=
 ∀ _τ : Fr, (R (Value.bool true) w)
def F53_l2 (x1 x2 x15 x16 x17 : Value) (w : World) (next2 : List Value → World → Prop) (j1 : List Value → World → Prop) (R : Value → World → Prop) (E : Pan) : Prop :=
 opK Tryd.prog E (xBin .lss 3 (.tmp 17) (.tmp 16) x17 x16) w fun t18_11 w_12 =>
 xcond t18_11
 (opK Tryd.prog E (xV (Instr.indexAt 23 x15 x17)) w_12 fun t20_13 w_14 =>
 opK Tryd.prog E (xV (Instr.loadAt 88 t20_13)) w_14 fun t21_15 w_16 =>
 opK Tryd.prog E (xV (Instr.alloc 88 true (.tuple #[]))) w_16 fun t8_17 w_18 =>
 opK Tryd.prog E (xU (Instr.storeAt 88 t8_17 t21_15)) w_18 fun _z_19 w_20 =>
 opK Tryd.prog E (xV (Instr.indexAt 23 x1 x17)) w_20 fun t24_21 w_22 =>
 opK Tryd.prog E (xV (Instr.loadAt 88 t24_21)) w_22 fun t25_23 w_24 =>
 opK Tryd.prog E (xV (Instr.alloc 88 true (.tuple #[]))) w_24 fun t9_25 w_26 =>
 opK Tryd.prog E (xU (Instr.storeAt 88 t9_25 t25_23)) w_26 fun _z_27 w_28 =>
 opK Tryd.prog E (xV (Instr.loadAt 88 t8_17)) w_28 fun t27_29 w_30 =>
 opK Tryd.prog E (xV (Instr.loadAt 88 t9_25)) w_30 fun t28_31 w_32 =>
 opK Tryd.prog E (xCall x2 [t27_29, t28_31]) w_32 fun t29_33 w_34 =>
 opK Tryd.prog E (xV (Op.unary .not t29_33)) w_34 fun t30_35 w_36 =>
 xcond t30_35
 (R (Value.bool false) w_36)
 (opK Tryd.prog E (xBin .add 3 (.tmp 17) (.const (Value.int .i64 1)) x17 (Value.int .i64 1)) w_36 fun t31_37 w_38 =>
 next2 [t31_37] w_38))
 (j1 [] w_12)
def F53 (x0 x1 x2 : Value) (w : World) (R : Value → World → Prop) (E : Pan) : Prop :=
 opK Tryd.prog E (xBuiltin .len #[23] 3 [false] [x0]) w fun t11_1 w_2 =>
 opK Tryd.prog E (xBuiltin .len #[23] 3 [false] [x1]) w_2 fun t13_3 w_4 =>
 opK Tryd.prog E (xBin .neq 3 (.tmp 11) (.tmp 13) t11_1 t13_3) w_4 fun t14_5 w_6 =>
 xcond t14_5
 (R (Value.bool false) w_6)
 (xcut (fun _ w_8 => F53_j1 w_8 R E) fun j1 =>
 opK Tryd.prog E (xBuiltin .len #[23] 3 [false] [x0]) w_6 fun t16_9 w_10 =>
 xloop [17] [(Value.int .i64 0)] w_10 fun τ_39 w_40 next2 =>
 F53_l2 x1 x2 x0 t16_9 (τ_39 17) w_40 next2 j1 R E)
noncomputable def c53 : Code := Tryd.f53.body.getD .skip
def h53 : Hint := (.seq .none (.seq (.seq .none (.cond (.seq .none .none) .none)) (.cut [] (.seq .none (.block (.loop [17] (.seq .none (.seq (.cond .none .none) (.seq (.block (.seq .none (.seq .none (.seq .none (.cond (.seq .none .none) .none))))) .none)))))) (.seq .none .none))))
theorem F53_eq (x0 x1 x2 : Value) (w : World) (R : Value → World → Prop) (E : Pan) : F53 x0 x1 x2 w R E = callX Tryd.prog [.tmp 6] c53 h53 [x0, x1, x2] w R E := by kernel_rfl
theorem F53_ok {x0 x1 x2 : Value} {w : World} {R : Value → World → Prop} {E : Pan} (h : F53 x0 x1 x2 w R E) : Cv Tryd.prog 53 #[x0, x1, x2] w R E := by
 refine callX_sound (args := [x0, x1, x2]) (c := c53) (h := h53) (rs := [.tmp 6]) Tryd.func53 (by kernel_rfl) (by kernel_rfl) (Nat.le_of_ble_eq_true (by kernel_rfl)) (by kernel_rfl) (by kernel_rfl) (by kernel_rfl) ?_
 rw [← F53_eq]
 exact h

/- function 54: gnomon/tree.sameStmt -/
def F54 (x0 x1 : Value) (w : World) (R : Value → World → Prop) (E : Pan) : Prop :=
 opK Tryd.prog E (xV (Instr.box 88 x0)) w fun t2_1 w_2 =>
 opK Tryd.prog E (xV (Instr.box 88 x1)) w_2 fun t3_3 w_4 =>
 opK Tryd.prog E (xV (Instr.fieldAt 88 t2_1 0)) w_4 fun t5_5 w_6 =>
 opK Tryd.prog E (xV (Instr.loadAt 3 t5_5)) w_6 fun t6_7 w_8 =>
 opK Tryd.prog E (xV (Instr.fieldAt 88 t3_3 0)) w_8 fun t7_9 w_10 =>
 opK Tryd.prog E (xV (Instr.loadAt 3 t7_9)) w_10 fun t8_11 w_12 =>
 opK Tryd.prog E (xBin .eql 3 (.tmp 6) (.tmp 8) t6_7 t8_11) w_12 fun t9_13 w_14 =>
 opK Tryd.prog E (gsem (asB t9_13) true (xV (Instr.fieldAt 88 t2_1 1))) w_14 fun t11_15 w_16 =>
 opK Tryd.prog E (gsem (asB t9_13) true (xV (Instr.loadAt 9 t11_15))) w_16 fun t12_17 w_18 =>
 opK Tryd.prog E (gsem (asB t9_13) true (xV (Instr.fieldAt 88 t3_3 1))) w_18 fun t13_19 w_20 =>
 opK Tryd.prog E (gsem (asB t9_13) true (xV (Instr.loadAt 9 t13_19))) w_20 fun t14_21 w_22 =>
 opK Tryd.prog E (gsem (asB t9_13) true (xBin .eql 9 (.tmp 12) (.tmp 14) t12_17 t14_21)) w_22 fun t15_23 w_24 =>
 opK Tryd.prog E (xPick t9_13 t15_23 (Value.bool false)) w_24 fun t16_25 w_26 =>
 opK Tryd.prog E (gsem (asB t16_25) true (xV (Instr.fieldAt 88 t2_1 2))) w_26 fun t18_27 w_28 =>
 opK Tryd.prog E (gsem (asB t16_25) true (xV (Instr.loadAt 28 t18_27))) w_28 fun t19_29 w_30 =>
 opK Tryd.prog E (gsem (asB t16_25) true (xV (Instr.fieldAt 88 t3_3 2))) w_30 fun t20_31 w_32 =>
 opK Tryd.prog E (gsem (asB t16_25) true (xV (Instr.loadAt 28 t20_31))) w_32 fun t21_33 w_34 =>
 opK Tryd.prog E (gsem (asB t16_25) true (xCall (Value.func (.func 83) #[] #[]) [t19_29, t21_33, (Value.func (.func 84) #[] #[])])) w_34 fun t22_35 w_36 =>
 opK Tryd.prog E (xPick t16_25 t22_35 (Value.bool false)) w_36 fun t23_37 w_38 =>
 opK Tryd.prog E (gsem (asB t23_37) true (xV (Instr.fieldAt 88 t2_1 3))) w_38 fun t25_39 w_40 =>
 opK Tryd.prog E (gsem (asB t23_37) true (xV (Instr.loadAt 31 t25_39))) w_40 fun t26_41 w_42 =>
 opK Tryd.prog E (gsem (asB t23_37) true (xV (Instr.fieldAt 88 t3_3 3))) w_42 fun t27_43 w_44 =>
 opK Tryd.prog E (gsem (asB t23_37) true (xV (Instr.loadAt 31 t27_43))) w_44 fun t28_45 w_46 =>
 opK Tryd.prog E (gsem (asB t23_37) true (xCall (Value.func (.func 85) #[] #[]) [t26_41, t28_45, (Value.func (.func 86) #[] #[])])) w_46 fun t29_47 w_48 =>
 opK Tryd.prog E (xPick t23_37 t29_47 (Value.bool false)) w_48 fun t30_49 w_50 =>
 opK Tryd.prog E (gsem (asB t30_49) true (xV (Instr.fieldAt 88 t2_1 4))) w_50 fun t32_51 w_52 =>
 opK Tryd.prog E (gsem (asB t30_49) true (xV (Instr.loadAt 23 t32_51))) w_52 fun t33_53 w_54 =>
 opK Tryd.prog E (gsem (asB t30_49) true (xV (Instr.fieldAt 88 t3_3 4))) w_54 fun t34_55 w_56 =>
 opK Tryd.prog E (gsem (asB t30_49) true (xV (Instr.loadAt 23 t34_55))) w_56 fun t35_57 w_58 =>
 opK Tryd.prog E (gsem (asB t30_49) true (xCall (Value.func (.func 53) #[] #[]) [t33_53, t35_57, (Value.func (.func 54) #[] #[])])) w_58 fun t36_59 w_60 =>
 opK Tryd.prog E (xPick t30_49 t36_59 (Value.bool false)) w_60 fun t37_61 w_62 =>
 opK Tryd.prog E (gsem (asB t37_61) true (xV (Instr.fieldAt 88 t2_1 5))) w_62 fun t39_63 w_64 =>
 opK Tryd.prog E (gsem (asB t37_61) true (xV (Instr.loadAt 23 t39_63))) w_64 fun t40_65 w_66 =>
 opK Tryd.prog E (gsem (asB t37_61) true (xV (Instr.fieldAt 88 t3_3 5))) w_66 fun t41_67 w_68 =>
 opK Tryd.prog E (gsem (asB t37_61) true (xV (Instr.loadAt 23 t41_67))) w_68 fun t42_69 w_70 =>
 opK Tryd.prog E (gsem (asB t37_61) true (xCall (Value.func (.func 53) #[] #[]) [t40_65, t42_69, (Value.func (.func 54) #[] #[])])) w_70 fun t43_71 w_72 =>
 opK Tryd.prog E (xPick t37_61 t43_71 (Value.bool false)) w_72 fun t44_73 w_74 =>
 R t44_73 w_74
noncomputable def c54 : Code := Tryd.f54.body.getD .skip
def h54 : Hint := (.seq .none (.seq .none .none))
theorem F54_eq (x0 x1 : Value) (w : World) (R : Value → World → Prop) (E : Pan) : F54 x0 x1 w R E = callX Tryd.prog [.tmp 4] c54 h54 [x0, x1] w R E := by kernel_rfl
theorem F54_ok {x0 x1 : Value} {w : World} {R : Value → World → Prop} {E : Pan} (h : F54 x0 x1 w R E) : Cv Tryd.prog 54 #[x0, x1] w R E := by
 refine callX_sound (args := [x0, x1]) (c := c54) (h := h54) (rs := [.tmp 4]) Tryd.func54 (by kernel_rfl) (by kernel_rfl) (Nat.le_of_ble_eq_true (by kernel_rfl)) (by kernel_rfl) (by kernel_rfl) (by kernel_rfl) ?_
 rw [← F54_eq]
 exact h

/- function 55: gnomon/gnomonref3.Few -/
def F55 (x0 : Value) (w : World) (R : Value → World → Prop) (E : Pan) : Prop :=
 opK Tryd.prog E (xV (Instr.box 25 x0)) w fun t1_1 w_2 =>
 opK Tryd.prog E (xV (Instr.loadAt 25 t1_1)) w_2 fun t3_3 w_4 =>
 opK Tryd.prog E (xCall (Value.func (.func 63) #[] #[]) [t3_3]) w_4 fun t4_5 w_6 =>
 opK Tryd.prog E (xV (Instr.field 99 t4_5 2)) w_6 fun t5_7 w_8 =>
 opK Tryd.prog E (xBin .eql 3 (.tmp 5) (.const (Value.int .i64 0)) t5_7 (Value.int .i64 0)) w_8 fun t6_9 w_10 =>
 R t6_9 w_10
noncomputable def c55 : Code := Tryd.f55.body.getD .skip
def h55 : Hint := (.seq .none (.seq .none .none))
theorem F55_eq (x0 : Value) (w : World) (R : Value → World → Prop) (E : Pan) : F55 x0 w R E = callX Tryd.prog [.tmp 2] c55 h55 [x0] w R E := by kernel_rfl
theorem F55_ok {x0 : Value} {w : World} {R : Value → World → Prop} {E : Pan} (h : F55 x0 w R E) : Cv Tryd.prog 55 #[x0] w R E := by
 refine callX_sound (args := [x0]) (c := c55) (h := h55) (rs := [.tmp 2]) Tryd.func55 (by kernel_rfl) (by kernel_rfl) (Nat.le_of_ble_eq_true (by kernel_rfl)) (by kernel_rfl) (by kernel_rfl) (by kernel_rfl) ?_
 rw [← F55_eq]
 exact h

/- function 56: gnomon/gnomonref3.sameStmts -/
def F56_j1 (w : World) (R : Value → World → Prop) (_E : Pan) : Prop :=
 ∀ _τ : Fr, (R (Value.bool true) w)
def F56_j3 (_x0 _x1 x5 : Value) (w : World) (next2 : List Value → World → Prop) (_R : Value → World → Prop) (E : Pan) : Prop :=
 ∀ _τ : Fr, (opK Tryd.prog E (xBin .add 3 (.tmp 19) (.const (Value.int .i64 1)) x5 (Value.int .i64 1)) w fun t20_13 w_14 =>
 next2 [t20_13] w_14)
def F56_l6 (_x0 _x1 _x5 x6 x7 x9 : Value) (w : World) (next6 : List Value → World → Prop) (j3 : List Value → World → Prop) (R : Value → World → Prop) (E : Pan) : Prop :=
 opK Tryd.prog E (xV (Instr.fieldAt 88 x6 2)) w fun t95_99 w_100 =>
 opK Tryd.prog E (xV (Instr.loadAt 28 t95_99)) w_100 fun t96_101 w_102 =>
 opK Tryd.prog E (xBuiltin .len #[28] 3 [false] [t96_101]) w_102 fun t97_103 w_104 =>
 opK Tryd.prog E (xBin .lss 3 (.tmp 94) (.tmp 97) x9 t97_103) w_104 fun t98_105 w_106 =>
 xcond t98_105
 (dX w_106 fun w_107 =>
 qP Tryd.prog (xV (Instr.fieldAt 88 x6 2)) fun t101_108 =>
 qP Tryd.prog (xV (Instr.fieldAt 88 x7 2)) fun t106_109 =>
 qL Tryd.prog w_107 (blk t101_108) (xV (Instr.loadAt 28 t101_108)) fun t102_110 =>
 qP Tryd.prog (xV (Instr.indexAt 28 t102_110 x9)) fun t104_111 =>
 qL Tryd.prog w_107 (blk t104_111) (xV (Instr.loadAt 30 t104_111)) fun t105_112 =>
 qL Tryd.prog w_107 (blk t106_109) (xV (Instr.loadAt 28 t106_109)) fun t107_113 =>
 qP Tryd.prog (xV (Instr.indexAt 28 t107_113 x9)) fun t109_114 =>
 qL Tryd.prog w_107 (blk t109_114) (xV (Instr.loadAt 30 t109_114)) fun t110_115 =>
 opK Tryd.prog E (xCall (Value.func (.func 88) #[] #[]) [t105_112, t110_115]) w_107 fun t111_116 w_117 =>
 keepX [] w_107 w_117 (qP Tryd.prog (xV (Op.unary .not t111_116)) fun t112_118 =>
 xcond t112_118
 (R (Value.bool false) w_117)
 (opK Tryd.prog E (xBin .add 3 (.tmp 99) (.const (Value.int .i64 1)) x9 (Value.int .i64 1)) w_117 fun t100_119 w_120 =>
 next6 [t100_119] w_120)))
 (j3 [] w_106)
def F56_j5 (x0 x1 x5 x6 x7 : Value) (w : World) (j3 : List Value → World → Prop) (R : Value → World → Prop) (E : Pan) : Prop :=
 ∀ _τ : Fr, (xloop [9] [(Value.int .i64 0)] w fun τ_121 w_122 next6 =>
 F56_l6 x0 x1 x5 x6 x7 (τ_121 9) w_122 next6 j3 R E)
def F56_l7 (_x0 _x1 _x5 x6 x7 x8 : Value) (w : World) (next7 : List Value → World → Prop) (j5 : List Value → World → Prop) (R : Value → World → Prop) (E : Pan) : Prop :=
 opK Tryd.prog E (xV (Instr.fieldAt 88 x6 3)) w fun t76_125 w_126 =>
 opK Tryd.prog E (xV (Instr.loadAt 31 t76_125)) w_126 fun t77_127 w_128 =>
 opK Tryd.prog E (xBuiltin .len #[31] 3 [false] [t77_127]) w_128 fun t78_129 w_130 =>
 opK Tryd.prog E (xBin .lss 3 (.tmp 75) (.tmp 78) x8 t78_129) w_130 fun t79_131 w_132 =>
 xcond t79_131
 (dX w_132 fun w_133 =>
 qP Tryd.prog (xV (Instr.fieldAt 88 x6 3)) fun t82_134 =>
 qP Tryd.prog (xV (Instr.fieldAt 88 x7 3)) fun t87_135 =>
 qL Tryd.prog w_133 (blk t82_134) (xV (Instr.loadAt 31 t82_134)) fun t83_136 =>
 qP Tryd.prog (xV (Instr.indexAt 31 t83_136 x8)) fun t85_137 =>
 qL Tryd.prog w_133 (blk t85_137) (xV (Instr.loadAt 33 t85_137)) fun t86_138 =>
 qL Tryd.prog w_133 (blk t87_135) (xV (Instr.loadAt 31 t87_135)) fun t88_139 =>
 qP Tryd.prog (xV (Instr.indexAt 31 t88_139 x8)) fun t90_140 =>
 qL Tryd.prog w_133 (blk t90_140) (xV (Instr.loadAt 33 t90_140)) fun t91_141 =>
 opK Tryd.prog E (xCall (Value.func (.func 87) #[] #[]) [t86_138, t91_141]) w_133 fun t92_142 w_143 =>
 keepX [] w_133 w_143 (qP Tryd.prog (xV (Op.unary .not t92_142)) fun t93_144 =>
 xcond t93_144
 (R (Value.bool false) w_143)
 (opK Tryd.prog E (xBin .add 3 (.tmp 80) (.const (Value.int .i64 1)) x8 (Value.int .i64 1)) w_143 fun t81_145 w_146 =>
 next7 [t81_145] w_146)))
 (j5 [] w_132)
def F56_j4 (x0 x1 x5 x6 x7 : Value) (w : World) (j3 : List Value → World → Prop) (R : Value → World → Prop) (E : Pan) : Prop :=
 ∀ _τ : Fr, (opK Tryd.prog E (xV (Instr.fieldAt 88 x6 0)) w fun t29_17 w_18 =>
 opK Tryd.prog E (xV (Instr.loadAt 3 t29_17)) w_18 fun t30_19 w_20 =>
 opK Tryd.prog E (xV (Instr.fieldAt 88 x7 0)) w_20 fun t31_21 w_22 =>
 opK Tryd.prog E (xV (Instr.loadAt 3 t31_21)) w_22 fun t32_23 w_24 =>
 opK Tryd.prog E (xBin .neq 3 (.tmp 30) (.tmp 32) t30_19 t32_23) w_24 fun t33_25 w_26 =>
 opK Tryd.prog E (gsem (asB t33_25) false (xV (Instr.fieldAt 88 x6 1))) w_26 fun t35_27 w_28 =>
 opK Tryd.prog E (gsem (asB t33_25) false (xV (Instr.loadAt 9 t35_27))) w_28 fun t36_29 w_30 =>
 opK Tryd.prog E (gsem (asB t33_25) false (xV (Instr.fieldAt 88 x7 1))) w_30 fun t37_31 w_32 =>
 opK Tryd.prog E (gsem (asB t33_25) false (xV (Instr.loadAt 9 t37_31))) w_32 fun t38_33 w_34 =>
 opK Tryd.prog E (gsem (asB t33_25) false (xBin .neq 9 (.tmp 36) (.tmp 38) t36_29 t38_33)) w_34 fun t39_35 w_36 =>
 opK Tryd.prog E (xPick t33_25 (Value.bool true) t39_35) w_36 fun t40_37 w_38 =>
 opK Tryd.prog E (gsem (asB t40_37) false (xV (Instr.fieldAt 88 x6 3))) w_38 fun t42_39 w_40 =>
 opK Tryd.prog E (gsem (asB t40_37) false (xV (Instr.loadAt 31 t42_39))) w_40 fun t43_41 w_42 =>
 opK Tryd.prog E (gsem (asB t40_37) false (xBuiltin .len #[31] 3 [false] [t43_41])) w_42 fun t44_43 w_44 =>
 opK Tryd.prog E (gsem (asB t40_37) false (xV (Instr.fieldAt 88 x7 3))) w_44 fun t45_45 w_46 =>
 opK Tryd.prog E (gsem (asB t40_37) false (xV (Instr.loadAt 31 t45_45))) w_46 fun t46_47 w_48 =>
 opK Tryd.prog E (gsem (asB t40_37) false (xBuiltin .len #[31] 3 [false] [t46_47])) w_48 fun t47_49 w_50 =>
 opK Tryd.prog E (gsem (asB t40_37) false (xBin .neq 3 (.tmp 44) (.tmp 47) t44_43 t47_49)) w_50 fun t48_51 w_52 =>
 opK Tryd.prog E (xPick t40_37 (Value.bool true) t48_51) w_52 fun t49_53 w_54 =>
 opK Tryd.prog E (gsem (asB t49_53) false (xV (Instr.fieldAt 88 x6 2))) w_54 fun t51_55 w_56 =>
 opK Tryd.prog E (gsem (asB t49_53) false (xV (Instr.loadAt 28 t51_55))) w_56 fun t52_57 w_58 =>
 opK Tryd.prog E (gsem (asB t49_53) false (xBuiltin .len #[28] 3 [false] [t52_57])) w_58 fun t53_59 w_60 =>
 opK Tryd.prog E (gsem (asB t49_53) false (xV (Instr.fieldAt 88 x7 2))) w_60 fun t54_61 w_62 =>
 opK Tryd.prog E (gsem (asB t49_53) false (xV (Instr.loadAt 28 t54_61))) w_62 fun t55_63 w_64 =>
 opK Tryd.prog E (gsem (asB t49_53) false (xBuiltin .len #[28] 3 [false] [t55_63])) w_64 fun t56_65 w_66 =>
 opK Tryd.prog E (gsem (asB t49_53) false (xBin .neq 3 (.tmp 53) (.tmp 56) t53_59 t56_65)) w_66 fun t57_67 w_68 =>
 opK Tryd.prog E (xPick t49_53 (Value.bool true) t57_67) w_68 fun t58_69 w_70 =>
 opK Tryd.prog E (gsem (asB t58_69) false (xV (Instr.fieldAt 88 x6 4))) w_70 fun t60_71 w_72 =>
 opK Tryd.prog E (gsem (asB t58_69) false (xV (Instr.loadAt 23 t60_71))) w_72 fun t61_73 w_74 =>
 opK Tryd.prog E (gsem (asB t58_69) false (xV (Instr.fieldAt 88 x7 4))) w_74 fun t62_75 w_76 =>
 opK Tryd.prog E (gsem (asB t58_69) false (xV (Instr.loadAt 23 t62_75))) w_76 fun t63_77 w_78 =>
 opK Tryd.prog E (gsem (asB t58_69) false (xCall (Value.func (.func 56) #[] #[]) [t61_73, t63_77])) w_78 fun t64_79 w_80 =>
 opK Tryd.prog E (gsem (asB t58_69) false (xV (Op.unary .not t64_79))) w_80 fun t65_81 w_82 =>
 opK Tryd.prog E (xPick t58_69 (Value.bool true) t65_81) w_82 fun t66_83 w_84 =>
 opK Tryd.prog E (gsem (asB t66_83) false (xV (Instr.fieldAt 88 x6 5))) w_84 fun t68_85 w_86 =>
 opK Tryd.prog E (gsem (asB t66_83) false (xV (Instr.loadAt 23 t68_85))) w_86 fun t69_87 w_88 =>
 opK Tryd.prog E (gsem (asB t66_83) false (xV (Instr.fieldAt 88 x7 5))) w_88 fun t70_89 w_90 =>
 opK Tryd.prog E (gsem (asB t66_83) false (xV (Instr.loadAt 23 t70_89))) w_90 fun t71_91 w_92 =>
 opK Tryd.prog E (gsem (asB t66_83) false (xCall (Value.func (.func 56) #[] #[]) [t69_87, t71_91])) w_92 fun t72_93 w_94 =>
 opK Tryd.prog E (gsem (asB t66_83) false (xV (Op.unary .not t72_93))) w_94 fun t73_95 w_96 =>
 opK Tryd.prog E (xPick t66_83 (Value.bool true) t73_95) w_96 fun t74_97 w_98 =>
 xcond t74_97
 (R (Value.bool false) w_98)
 (xcut (fun _ w_124 => F56_j5 x0 x1 x5 x6 x7 w_124 j3 R E) fun j5 =>
 xloop [8] [(Value.int .i64 0)] w_98 fun τ_147 w_148 next7 =>
 F56_l7 x0 x1 x5 x6 x7 (τ_147 8) w_148 next7 j5 R E))
def F56_l2 (x0 x1 x5 : Value) (w : World) (next2 : List Value → World → Prop) (j1 : List Value → World → Prop) (R : Value → World → Prop) (E : Pan) : Prop :=
 opK Tryd.prog E (xBuiltin .len #[23] 3 [false] [x0]) w fun t17_9 w_10 =>
 opK Tryd.prog E (xBin .lss 3 (.tmp 15) (.tmp 17) x5 t17_9) w_10 fun t18_11 w_12 =>
 xcond t18_11
 (xcut (fun _ w_16 => F56_j3 x0 x1 x5 w_16 next2 R E) fun j3 =>
 xcut (fun l_149 w_150 => F56_j4 x0 x1 x5 (nth l_149 0) (nth l_149.tail 0) w_150 j3 R E) fun j4 =>
 dX w_12 fun w_151 =>
 qP Tryd.prog (xV (Instr.indexAt 23 x0 x5)) fun t23_152 =>
 qP Tryd.prog (xV (Instr.indexAt 23 x1 x5)) fun t27_153 =>
 qL Tryd.prog w_151 (blk t23_152) (xV (Instr.loadAt 88 t23_152)) fun t24_154 =>
 qL Tryd.prog w_151 (blk t27_153) (xV (Instr.loadAt 88 t27_153)) fun t28_155 =>
 (opK Tryd.prog E (xV (Instr.alloc 88 true (.tuple #[]))) w_151 fun t6_156 w_157 =>
 keepX [(blk t27_153), (blk t23_152)] w_151 w_157 (opK Tryd.prog E (xV (Instr.alloc 88 true (.tuple #[]))) w_157 fun t7_158 w_159 =>
 keepX [(blk t27_153), (blk t23_152)] w_157 w_159 (opK Tryd.prog E (xU (Instr.storeAt 88 t6_156 t24_154)) w_159 fun _z_160 w_161 =>
 keepX [(blk t27_153)] w_159 w_161 (opK Tryd.prog E (xU (Instr.storeAt 88 t7_158 t28_155)) w_161 fun _z_162 w_163 =>
 keepX [] w_161 w_163 (j4 [t6_156, t7_158] w_163))))) ∧
 (opK Tryd.prog E (xV (Instr.alloc 88 true (.tuple #[]))) w_151 fun t7_164 w_165 =>
 keepX [(blk t27_153), (blk t23_152)] w_151 w_165 (opK Tryd.prog E (xV (Instr.alloc 88 true (.tuple #[]))) w_165 fun t6_166 w_167 =>
 keepX [(blk t27_153), (blk t23_152)] w_165 w_167 (opK Tryd.prog E (xU (Instr.storeAt 88 t6_166 t24_154)) w_167 fun _z_168 w_169 =>
 keepX [(blk t27_153)] w_167 w_169 (opK Tryd.prog E (xU (Instr.storeAt 88 t7_164 t28_155)) w_169 fun _z_170 w_171 =>
 keepX [] w_169 w_171 (j4 [t6_166, t7_164] w_171))))))
 (j1 [] w_12)
def F56 (x0 x1 : Value) (w : World) (R : Value → World → Prop) (E : Pan) : Prop :=
 opK Tryd.prog E (xBuiltin .len #[23] 3 [false] [x0]) w fun t11_1 w_2 =>
 opK Tryd.prog E (xBuiltin .len #[23] 3 [false] [x1]) w_2 fun t13_3 w_4 =>
 opK Tryd.prog E (xBin .neq 3 (.tmp 11) (.tmp 13) t11_1 t13_3) w_4 fun t14_5 w_6 =>
 xcond t14_5
 (R (Value.bool false) w_6)
 (xcut (fun _ w_8 => F56_j1 w_8 R E) fun j1 =>
 xloop [5] [(Value.int .i64 0)] w_6 fun τ_172 w_173 next2 =>
 F56_l2 x0 x1 (τ_172 5) w_173 next2 j1 R E)
noncomputable def c56 : Code := Tryd.f56.body.getD .skip
def h56 : Hint := (.seq .none (.seq (.seq .none (.cond (.seq .none .none) .none)) (.cut [] (.seq .none (.block (.loop [5] (.seq (.seq .none (.cond .none .none)) (.cut [] (.block (.cut [6, 7] (.reg [(0, 2097152, 1), (0, 4194304, 32), (3, 8388608, 6291456), (4, 16777216, 8388608), (0, 33554432, 2), (0, 67108864, 32), (48, 134217728, 100663296), (64, 268435456, 134217728), (0, 64, 0), (0, 128, 0), (783, 0, 16777280), (2047, 0, 268435584)] [136, 136, 136, 128, 136, 136, 136, 8, 136, 136, 128, 0] (.early 0 (.early 1 (.early 2 (.early 4 (.early 5 (.early 6 (.load 3 (.load 7 (.alt 8 (.step 9 (.step 10 (.step 11 .done))) (.step 9 (.step 8 (.step 10 (.step 11 .done)))))))))))))) (.seq (.seq .none (.cond (.seq .none .none) .none)) (.cut [] (.seq .none (.block (.loop [8] (.seq (.seq .none (.cond .none .none)) (.seq (.block (.seq (.reg [(0, 4835703278458516698824704, 64), (1, 9671406556917033397649408, 4835703278458516698824704), (0, 19342813113834066795298816, 256), (6, 38685626227668133590597632, 29014219670751100192948224), (8, 77371252455336267181195264, 38685626227668133590597632), (0, 154742504910672534362390528, 128), (32, 309485009821345068724781056, 154742504910672534362390528), (0, 618970019642690137449562112, 256), (192, 1237940039285380274899124224, 928455029464035206174343168), (256, 2475880078570760549798248448, 1237940039285380274899124224), (528, 4951760157141521099596496896, 2553251331026096816979443712), (1024, 9903520314283042199192993792, 4951760157141521099596496896)] [594, 592, 594, 594, 578, 594, 530, 594, 594, 82, 0, 594] (.early 0 (.early 2 (.early 5 (.early 7 (.load 1 (.early 3 (.load 4 (.load 6 (.early 8 (.load 9 (.step 10 (.early 11 .done))))))))))))) (.cond (.seq .none .none) .none))) .none))))) (.seq .none (.block (.loop [9] (.seq (.seq .none (.cond .none .none)) (.seq (.block (.seq (.reg [(0, 2535301200456458802993406410752, 64), (1, 5070602400912917605986812821504, 2535301200456458802993406410752), (0, 10141204801825835211973625643008, 512), (6, 20282409603651670423947251286016, 15211807202738752817960438464512), (8, 40564819207303340847894502572032, 20282409603651670423947251286016), (0, 81129638414606681695789005144064, 128), (32, 162259276829213363391578010288128, 81129638414606681695789005144064), (0, 324518553658426726783156020576256, 512), (192, 649037107316853453566312041152512, 486777830487640090174734030864384), (256, 1298074214633706907132624082305024, 649037107316853453566312041152512), (528, 2596148429267413814265248164610048, 1338639033841010247980518584877056), (1024, 5192296858534827628530496329220096, 2596148429267413814265248164610048)] [594, 592, 594, 594, 578, 594, 530, 594, 594, 82, 0, 594] (.early 0 (.early 2 (.early 5 (.early 7 (.load 1 (.early 3 (.load 4 (.load 6 (.early 8 (.load 9 (.step 10 (.early 11 .done))))))))))))) (.cond (.seq .none .none) .none))) .none))))))))) .none))))) (.seq .none .none))))
theorem F56_eq (x0 x1 : Value) (w : World) (R : Value → World → Prop) (E : Pan) : F56 x0 x1 w R E = callX Tryd.prog [.tmp 4] c56 h56 [x0, x1] w R E := by kernel_rfl
theorem F56_ok {x0 x1 : Value} {w : World} {R : Value → World → Prop} {E : Pan} (h : F56 x0 x1 w R E) : Cv Tryd.prog 56 #[x0, x1] w R E := by
 refine callX_sound (args := [x0, x1]) (c := c56) (h := h56) (rs := [.tmp 4]) Tryd.func56 (by kernel_rfl) (by kernel_rfl) (Nat.le_of_ble_eq_true (by kernel_rfl)) (by kernel_rfl) (by kernel_rfl) (by kernel_rfl) ?_
 rw [← F56_eq]
 exact h

/- function 57: gnomon/tree.walked -/
def F57_j1 (x3 : Value) (w : World) (R : Value → World → Prop) (E : Pan) : Prop :=
 ∀ _τ : Fr, (opK Tryd.prog E (xV (Instr.loadAt 93 x3)) w fun t31_15 w_16 =>
 R t31_15 w_16)
def F57 (x0 : Value) (w : World) (R : Value → World → Prop) (E : Pan) : Prop :=
 opK Tryd.prog E (xV (Instr.build 92 #[])) w fun t6_1 w_2 =>
 opK Tryd.prog E (xV (Instr.box 92 t6_1)) w_2 fun t7_3 w_4 =>
 opK Tryd.prog E (xV (Instr.alloc 93 true (.tuple #[]))) w_4 fun t3_5 w_6 =>
 opK Tryd.prog E (xU (Instr.storeAt 93 t3_5 t7_3)) w_6 fun _z_7 w_8 =>
 opK Tryd.prog E (xV (Instr.alloc 139 true (.tuple #[]))) w_8 fun t4_9 w_10 =>
 opK Tryd.prog E (xV (Instr.makeFunc (.func 89) #[] #[t3_5, t4_9])) w_10 fun t8_11 w_12 =>
 opK Tryd.prog E (xU (Instr.storeAt 139 t4_9 t8_11)) w_12 fun _z_13 w_14 =>
 xcut (fun _ w_18 => F57_j1 t3_5 w_18 R E) fun j1 =>
 opK Tryd.prog E (xV (Instr.loadAt 139 t4_9)) w_14 fun t9_19 w_20 =>
 opK Tryd.prog E (xCall t9_19 [x0, (Value.int .i64 1)]) w_20 fun t11_21 w_22 =>
 opK Tryd.prog E (xV (Op.unary .not t11_21)) w_22 fun t14_23 w_24 =>
 xcond t14_23
 (j1 [] w_24)
 (opK Tryd.prog E (xV (Instr.loadAt 93 t3_5)) w_24 fun t16_25 w_26 =>
 opK Tryd.prog E (xNil t16_25) w_26 fun t17_27 w_28 =>
 opK Tryd.prog E (xV (Instr.fieldAt 92 t17_27 3)) w_28 fun t18_29 w_30 =>
 opK Tryd.prog E (xV (Instr.loadAt 4 t18_29)) w_30 fun t19_31 w_32 =>
 xcond t19_31
 (opK Tryd.prog E (xV (Instr.loadAt 93 t3_5)) w_32 fun t20_33 w_34 =>
 opK Tryd.prog E (xNil t20_33) w_34 fun t21_35 w_36 =>
 opK Tryd.prog E (xV (Instr.fieldAt 92 t21_35 2)) w_36 fun t22_37 w_38 =>
 opK Tryd.prog E (xU (Instr.storeAt 34 t22_37 (Value.int .i64 30))) w_38 fun _z_39 w_40 =>
 j1 [] w_40)
 (opK Tryd.prog E (xV (Instr.loadAt 93 t3_5)) w_32 fun t24_41 w_42 =>
 opK Tryd.prog E (xNil t24_41) w_42 fun t25_43 w_44 =>
 opK Tryd.prog E (xV (Instr.fieldAt 92 t25_43 4)) w_44 fun t26_45 w_46 =>
 opK Tryd.prog E (xV (Instr.loadAt 4 t26_45)) w_46 fun t27_47 w_48 =>
 xcond t27_47
 (opK Tryd.prog E (xV (Instr.loadAt 93 t3_5)) w_48 fun t28_49 w_50 =>
 opK Tryd.prog E (xNil t28_49) w_50 fun t29_51 w_52 =>
 opK Tryd.prog E (xV (Instr.fieldAt 92 t29_51 2)) w_52 fun t30_53 w_54 =>
 opK Tryd.prog E (xU (Instr.storeAt 34 t30_53 (Value.int .i64 31))) w_54 fun _z_55 w_56 =>
 j1 [] w_56)
 (j1 [] w_48)))
noncomputable def c57 : Code := Tryd.f57.body.getD .skip
def h57 : Hint := (.seq .none (.seq .none (.seq .none (.seq .none (.cut [] (.seq .none (.block (.seq .none (.cond .none (.seq .none (.cond .none (.seq .none (.cond .none .none)))))))) (.seq .none .none))))))
theorem F57_eq (x0 : Value) (w : World) (R : Value → World → Prop) (E : Pan) : F57 x0 w R E = callX Tryd.prog [.tmp 2] c57 h57 [x0] w R E := by kernel_rfl
theorem F57_ok {x0 : Value} {w : World} {R : Value → World → Prop} {E : Pan} (h : F57 x0 w R E) : Cv Tryd.prog 57 #[x0] w R E := by
 refine callX_sound (args := [x0]) (c := c57) (h := h57) (rs := [.tmp 2]) Tryd.func57 (by kernel_rfl) (by kernel_rfl) (Nat.le_of_ble_eq_true (by kernel_rfl)) (by kernel_rfl) (by kernel_rfl) (by kernel_rfl) ?_
 rw [← F57_eq]
 exact h

/- function 58: (*gnomon/gnomonref3.walk).expr -/
def F58_l1 (x0 x2 x4 x6 : Value) (w : World) (next1 : List Value → World → Prop) (R : Value → World → Prop) (E : Pan) : Prop :=
 opK Tryd.prog E (xV (Instr.fieldAt 30 x4 3)) w fun t12_7 w_8 =>
 opK Tryd.prog E (xV (Instr.loadAt 28 t12_7)) w_8 fun t13_9 w_10 =>
 opK Tryd.prog E (xBuiltin .len #[28] 3 [false] [t13_9]) w_10 fun t14_11 w_12 =>
 opK Tryd.prog E (xBin .lss 3 (.tmp 11) (.tmp 14) x6 t14_11) w_12 fun t15_13 w_14 =>
 opK Tryd.prog E (gsem (asB t15_13) true (xNil (gval (asB t15_13) true x0))) w_14 fun t18_15 w_16 =>
 opK Tryd.prog E (gsem (asB t15_13) true (xV (Instr.fieldAt 99 t18_15 2))) w_16 fun t19_17 w_18 =>
 opK Tryd.prog E (gsem (asB t15_13) true (xV (Instr.loadAt 3 t19_17))) w_18 fun t20_19 w_20 =>
 opK Tryd.prog E (gsem (asB t15_13) true (xBin .eql 3 (.tmp 20) (.const (Value.int .i64 0)) t20_19 (Value.int .i64 0))) w_20 fun t21_21 w_22 =>
 opK Tryd.prog E (xPick t15_13 t21_21 (Value.bool false)) w_22 fun t22_23 w_24 =>
 xcond t22_23
 (opK Tryd.prog E (xV (Instr.fieldAt 30 x4 3)) w_24 fun t26_25 w_26 =>
 opK Tryd.prog E (xV (Instr.loadAt 28 t26_25)) w_26 fun t27_27 w_28 =>
 opK Tryd.prog E (xV (Instr.indexAt 28 t27_27 x6)) w_28 fun t29_29 w_30 =>
 opK Tryd.prog E (xV (Instr.loadAt 30 t29_29)) w_30 fun t30_31 w_32 =>
 opK Tryd.prog E (xBin .add 3 (.tmp 31) (.const (Value.int .i64 1)) x2 (Value.int .i64 1)) w_32 fun t32_33 w_34 =>
 opK Tryd.prog E (xCall (Value.func (.func 58) #[] #[]) [x0, t30_31, t32_33]) w_34 fun _t33_35 w_36 =>
 opK Tryd.prog E (xBin .add 3 (.tmp 23) (.const (Value.int .i64 1)) x6 (Value.int .i64 1)) w_36 fun t24_37 w_38 =>
 next1 [t24_37] w_38)
 (R (Value.tuple #[]) w_24)
def F58 (x0 x1 x2 : Value) (w : World) (R : Value → World → Prop) (E : Pan) : Prop :=
 opK Tryd.prog E (xV (Instr.box 30 x1)) w fun t4_1 w_2 =>
 opK Tryd.prog E (xCall (Value.func (.func 91) #[] #[]) [x0, x2]) w_2 fun t9_3 w_4 =>
 opK Tryd.prog E (xV (Op.unary .not t9_3)) w_4 fun t10_5 w_6 =>
 xcond t10_5
 (R (Value.tuple #[]) w_6)
 (xloop [6] [(Value.int .i64 0)] w_6 fun τ_39 w_40 next1 =>
 F58_l1 x0 x2 t4_1 (τ_39 6) w_40 next1 R E)
noncomputable def c58 : Code := Tryd.f58.body.getD .skip
def h58 : Hint := (.seq .none (.seq (.seq .none (.cond .none .none)) (.seq .none (.block (.loop [6] (.seq (.seq .none (.cond .none .none)) (.seq (.block .none) .none)))))))
theorem F58_eq (x0 x1 x2 : Value) (w : World) (R : Value → World → Prop) (E : Pan) : F58 x0 x1 x2 w R E = callX Tryd.prog [] c58 h58 [x0, x1, x2] w R E := by kernel_rfl
theorem F58_ok {x0 x1 x2 : Value} {w : World} {R : Value → World → Prop} {E : Pan} (h : F58 x0 x1 x2 w R E) : Cv Tryd.prog 58 #[x0, x1, x2] w R E := by
 refine callX_sound (args := [x0, x1, x2]) (c := c58) (h := h58) (rs := []) Tryd.func58 (by kernel_rfl) (by kernel_rfl) (Nat.le_of_ble_eq_true (by kernel_rfl)) (by kernel_rfl) (by kernel_rfl) (by kernel_rfl) ?_
 rw [← F58_eq]
 exact h

/- function 61: (*gnomon/gnomonref3.walk).cond -/
def F61_l2 (x0 x2 x4 x7 : Value) (w : World) (next2 : List Value → World → Prop) (R : Value → World → Prop) (E : Pan) : Prop :=
 opK Tryd.prog E (xV (Instr.fieldAt 33 x4 3)) w fun t36_7 w_8 =>
 opK Tryd.prog E (xV (Instr.loadAt 31 t36_7)) w_8 fun t37_9 w_10 =>
 opK Tryd.prog E (xBuiltin .len #[31] 3 [false] [t37_9]) w_10 fun t38_11 w_12 =>
 opK Tryd.prog E (xBin .lss 3 (.tmp 35) (.tmp 38) x7 t38_11) w_12 fun t39_13 w_14 =>
 opK Tryd.prog E (gsem (asB t39_13) true (xNil (gval (asB t39_13) true x0))) w_14 fun t42_15 w_16 =>
 opK Tryd.prog E (gsem (asB t39_13) true (xV (Instr.fieldAt 99 t42_15 2))) w_16 fun t43_17 w_18 =>
 opK Tryd.prog E (gsem (asB t39_13) true (xV (Instr.loadAt 3 t43_17))) w_18 fun t44_19 w_20 =>
 opK Tryd.prog E (gsem (asB t39_13) true (xBin .eql 3 (.tmp 44) (.const (Value.int .i64 0)) t44_19 (Value.int .i64 0))) w_20 fun t45_21 w_22 =>
 opK Tryd.prog E (xPick t39_13 t45_21 (Value.bool false)) w_22 fun t46_23 w_24 =>
 xcond t46_23
 (opK Tryd.prog E (xV (Instr.fieldAt 33 x4 3)) w_24 fun t50_25 w_26 =>
 opK Tryd.prog E (xV (Instr.loadAt 31 t50_25)) w_26 fun t51_27 w_28 =>
 opK Tryd.prog E (xV (Instr.indexAt 31 t51_27 x7)) w_28 fun t53_29 w_30 =>
 opK Tryd.prog E (xV (Instr.loadAt 33 t53_29)) w_30 fun t54_31 w_32 =>
 opK Tryd.prog E (xBin .add 3 (.tmp 55) (.const (Value.int .i64 1)) x2 (Value.int .i64 1)) w_32 fun t56_33 w_34 =>
 opK Tryd.prog E (xCall (Value.func (.func 61) #[] #[]) [x0, t54_31, t56_33]) w_34 fun _t57_35 w_36 =>
 opK Tryd.prog E (xBin .add 3 (.tmp 47) (.const (Value.int .i64 1)) x7 (Value.int .i64 1)) w_36 fun t48_37 w_38 =>
 next2 [t48_37] w_38)
 (R (Value.tuple #[]) w_24)
def F61_j1 (x0 x2 x4 : Value) (w : World) (R : Value → World → Prop) (E : Pan) : Prop :=
 ∀ _τ : Fr, (xloop [7] [(Value.int .i64 0)] w fun τ_39 w_40 next2 =>
 F61_l2 x0 x2 x4 (τ_39 7) w_40 next2 R E)
def F61_l3 (x0 x2 x4 x6 : Value) (w : World) (next3 : List Value → World → Prop) (j1 : List Value → World → Prop) (_R : Value → World → Prop) (E : Pan) : Prop :=
 opK Tryd.prog E (xV (Instr.fieldAt 33 x4 2)) w fun t13_43 w_44 =>
 opK Tryd.prog E (xV (Instr.loadAt 28 t13_43)) w_44 fun t14_45 w_46 =>
 opK Tryd.prog E (xBuiltin .len #[28] 3 [false] [t14_45]) w_46 fun t15_47 w_48 =>
 opK Tryd.prog E (xBin .lss 3 (.tmp 12) (.tmp 15) x6 t15_47) w_48 fun t16_49 w_50 =>
 opK Tryd.prog E (gsem (asB t16_49) true (xNil (gval (asB t16_49) true x0))) w_50 fun t19_51 w_52 =>
 opK Tryd.prog E (gsem (asB t16_49) true (xV (Instr.fieldAt 99 t19_51 2))) w_52 fun t20_53 w_54 =>
 opK Tryd.prog E (gsem (asB t16_49) true (xV (Instr.loadAt 3 t20_53))) w_54 fun t21_55 w_56 =>
 opK Tryd.prog E (gsem (asB t16_49) true (xBin .eql 3 (.tmp 21) (.const (Value.int .i64 0)) t21_55 (Value.int .i64 0))) w_56 fun t22_57 w_58 =>
 opK Tryd.prog E (xPick t16_49 t22_57 (Value.bool false)) w_58 fun t23_59 w_60 =>
 xcond t23_59
 (opK Tryd.prog E (xV (Instr.fieldAt 33 x4 2)) w_60 fun t27_61 w_62 =>
 opK Tryd.prog E (xV (Instr.loadAt 28 t27_61)) w_62 fun t28_63 w_64 =>
 opK Tryd.prog E (xV (Instr.indexAt 28 t28_63 x6)) w_64 fun t30_65 w_66 =>
 opK Tryd.prog E (xV (Instr.loadAt 30 t30_65)) w_66 fun t31_67 w_68 =>
 opK Tryd.prog E (xBin .add 3 (.tmp 32) (.const (Value.int .i64 1)) x2 (Value.int .i64 1)) w_68 fun t33_69 w_70 =>
 opK Tryd.prog E (xCall (Value.func (.func 58) #[] #[]) [x0, t31_67, t33_69]) w_70 fun _t34_71 w_72 =>
 opK Tryd.prog E (xBin .add 3 (.tmp 24) (.const (Value.int .i64 1)) x6 (Value.int .i64 1)) w_72 fun t25_73 w_74 =>
 next3 [t25_73] w_74)
 (j1 [] w_60)
def F61 (x0 x1 x2 : Value) (w : World) (R : Value → World → Prop) (E : Pan) : Prop :=
 opK Tryd.prog E (xV (Instr.box 33 x1)) w fun t4_1 w_2 =>
 opK Tryd.prog E (xCall (Value.func (.func 91) #[] #[]) [x0, x2]) w_2 fun t10_3 w_4 =>
 opK Tryd.prog E (xV (Op.unary .not t10_3)) w_4 fun t11_5 w_6 =>
 xcond t11_5
 (R (Value.tuple #[]) w_6)
 (xcut (fun _ w_42 => F61_j1 x0 x2 t4_1 w_42 R E) fun j1 =>
 xloop [6] [(Value.int .i64 0)] w_6 fun τ_75 w_76 next3 =>
 F61_l3 x0 x2 t4_1 (τ_75 6) w_76 next3 j1 R E)
noncomputable def c61 : Code := Tryd.f61.body.getD .skip
def h61 : Hint := (.seq .none (.seq (.seq .none (.cond .none .none)) (.cut [] (.seq .none (.block (.loop [6] (.seq (.seq .none (.cond .none .none)) (.seq (.block .none) .none))))) (.seq .none (.block (.loop [7] (.seq (.seq .none (.cond .none .none)) (.seq (.block .none) .none))))))))
theorem F61_eq (x0 x1 x2 : Value) (w : World) (R : Value → World → Prop) (E : Pan) : F61 x0 x1 x2 w R E = callX Tryd.prog [] c61 h61 [x0, x1, x2] w R E := by kernel_rfl
theorem F61_ok {x0 x1 x2 : Value} {w : World} {R : Value → World → Prop} {E : Pan} (h : F61 x0 x1 x2 w R E) : Cv Tryd.prog 61 #[x0, x1, x2] w R E := by
 refine callX_sound (args := [x0, x1, x2]) (c := c61) (h := h61) (rs := []) Tryd.func61 (by kernel_rfl) (by kernel_rfl) (Nat.le_of_ble_eq_true (by kernel_rfl)) (by kernel_rfl) (by kernel_rfl) (by kernel_rfl) ?_
 rw [← F61_eq]
 exact h

/- function 63: gnomon/gnomonref3.walked -/
def F63_j2 (x2 x3 : Value) (w : World) (R : Value → World → Prop) (E : Pan) : Prop :=
 ∀ _τ : Fr, (opK Tryd.prog E (xV (Instr.loadAt 99 x3)) w fun t38_11 w_12 =>
 opK Tryd.prog E (xU (Instr.storeAt 99 x2 t38_11)) w_12 fun _z_13 w_14 =>
 xcell Tryd.prog 99 x2 w_14 fun r_15 =>
 R r_15 w_14)
def F63_l3 (x1 _x2 x3 x5 : Value) (w : World) (next3 : List Value → World → Prop) (j2 : List Value → World → Prop) (_R : Value → World → Prop) (E : Pan) : Prop :=
 opK Tryd.prog E (xV (Instr.fieldAt 25 x1 1)) w fun t21_18 w_19 =>
 opK Tryd.prog E (xV (Instr.loadAt 23 t21_18)) w_19 fun t22_20 w_21 =>
 opK Tryd.prog E (xBuiltin .len #[23] 3 [false] [t22_20]) w_21 fun t23_22 w_23 =>
 opK Tryd.prog E (xBin .lss 3 (.tmp 20) (.tmp 23) x5 t23_22) w_23 fun t24_24 w_25 =>
 opK Tryd.prog E (gsem (asB t24_24) true (xV (Instr.fieldAt 99 x3 2))) w_25 fun t26_26 w_27 =>
 opK Tryd.prog E (gsem (asB t24_24) true (xV (Instr.loadAt 3 t26_26))) w_27 fun t27_28 w_29 =>
 opK Tryd.prog E (gsem (asB t24_24) true (xBin .eql 3 (.tmp 27) (.const (Value.int .i64 0)) t27_28 (Value.int .i64 0))) w_29 fun t28_30 w_31 =>
 opK Tryd.prog E (xPick t24_24 t28_30 (Value.bool false)) w_31 fun t29_32 w_33 =>
 xcond t29_32
 (opK Tryd.prog E (xV (Instr.fieldAt 25 x1 1)) w_33 fun t32_34 w_35 =>
 opK Tryd.prog E (xV (Instr.loadAt 23 t32_34)) w_35 fun t33_36 w_37 =>
 opK Tryd.prog E (xV (Instr.indexAt 23 t33_36 x5)) w_37 fun t35_38 w_39 =>
 opK Tryd.prog E (xV (Instr.loadAt 88 t35_38)) w_39 fun t36_40 w_41 =>
 opK Tryd.prog E (xCall (Value.func (.func 92) #[] #[]) [x3, t36_40, (Value.int .i64 1)]) w_41 fun _t37_42 w_43 =>
 opK Tryd.prog E (xBin .add 3 (.tmp 30) (.const (Value.int .i64 1)) x5 (Value.int .i64 1)) w_43 fun t31_44 w_45 =>
 next3 [t31_44] w_45)
 (j2 [] w_33)
def F63_j1 (x1 x2 x3 : Value) (w : World) (R : Value → World → Prop) (E : Pan) : Prop :=
 ∀ _τ : Fr, (xcut (fun _ w_17 => F63_j2 x2 x3 w_17 R E) fun j2 =>
 xloop [5] [(Value.int .i64 0)] w fun τ_46 w_47 next3 =>
 F63_l3 x1 x2 x3 (τ_46 5) w_47 next3 j2 R E)
def F63_l4 (x1 _x2 x3 x4 : Value) (w : World) (next4 : List Value → World → Prop) (j1 : List Value → World → Prop) (_R : Value → World → Prop) (E : Pan) : Prop :=
 opK Tryd.prog E (xV (Instr.fieldAt 25 x1 0)) w fun t8_50 w_51 =>
 opK Tryd.prog E (xV (Instr.loadAt 22 t8_50)) w_51 fun t9_52 w_53 =>
 opK Tryd.prog E (xBuiltin .len #[22] 3 [false] [t9_52]) w_53 fun t10_54 w_55 =>
 opK Tryd.prog E (xBin .lss 3 (.tmp 7) (.tmp 10) x4 t10_54) w_55 fun t11_56 w_57 =>
 opK Tryd.prog E (gsem (asB t11_56) true (xV (Instr.fieldAt 99 x3 2))) w_57 fun t13_58 w_59 =>
 opK Tryd.prog E (gsem (asB t11_56) true (xV (Instr.loadAt 3 t13_58))) w_59 fun t14_60 w_61 =>
 opK Tryd.prog E (gsem (asB t11_56) true (xBin .eql 3 (.tmp 14) (.const (Value.int .i64 0)) t14_60 (Value.int .i64 0))) w_61 fun t15_62 w_63 =>
 opK Tryd.prog E (xPick t11_56 t15_62 (Value.bool false)) w_63 fun t16_64 w_65 =>
 xcond t16_64
 (opK Tryd.prog E (xCall (Value.func (.func 91) #[] #[]) [x3, (Value.int .i64 1)]) w_65 fun _t19_66 w_67 =>
 opK Tryd.prog E (xBin .add 3 (.tmp 17) (.const (Value.int .i64 1)) x4 (Value.int .i64 1)) w_67 fun t18_68 w_69 =>
 next4 [t18_68] w_69)
 (j1 [] w_65)
def F63 (x0 : Value) (w : World) (R : Value → World → Prop) (E : Pan) : Prop :=
 opK Tryd.prog E (xV (Instr.box 25 x0)) w fun t1_1 w_2 =>
 opK Tryd.prog E (xV (Instr.alloc 99 true (.tuple #[]))) w_2 fun t2_3 w_4 =>
 opK Tryd.prog E (xV (Instr.build 99 #[])) w_4 fun t6_5 w_6 =>
 opK Tryd.prog E (xV (Instr.alloc 99 true (.tuple #[]))) w_6 fun t3_7 w_8 =>
 opK Tryd.prog E (xU (Instr.storeAt 99 t3_7 t6_5)) w_8 fun _z_9 w_10 =>
 xcut (fun _ w_49 => F63_j1 t1_1 t2_3 t3_7 w_49 R E) fun j1 =>
 xloop [4] [(Value.int .i64 0)] w_10 fun τ_70 w_71 next4 =>
 F63_l4 t1_1 t2_3 t3_7 (τ_70 4) w_71 next4 j1 R E
noncomputable def c63 : Code := Tryd.f63.body.getD .skip
def h63 : Hint := (.seq .none (.seq .none (.cut [] (.seq .none (.block (.loop [4] (.seq (.seq .none (.cond .none .none)) (.seq (.block .none) .none))))) (.cut [] (.seq .none (.block (.loop [5] (.seq (.seq .none (.cond .none .none)) (.seq (.block .none) .none))))) (.seq .none .none)))))
theorem F63_eq (x0 : Value) (w : World) (R : Value → World → Prop) (E : Pan) : F63 x0 w R E = callX Tryd.prog [.cell 2 99] c63 h63 [x0] w R E := by kernel_rfl
theorem F63_ok {x0 : Value} {w : World} {R : Value → World → Prop} {E : Pan} (h : F63 x0 w R E) : Cv Tryd.prog 63 #[x0] w R E := by
 refine callX_sound (args := [x0]) (c := c63) (h := h63) (rs := [.cell 2 99]) Tryd.func63 (by kernel_rfl) (by kernel_rfl) (Nat.le_of_ble_eq_true (by kernel_rfl)) (by kernel_rfl) (by kernel_rfl) (by kernel_rfl) ?_
 rw [← F63_eq]
 exact h

/- function 66: gnomon/tree.all -/
def F66 (x0 : Value) (w : World) (R : Value → World → Prop) (E : Pan) : Prop :=
 opK Tryd.prog E (xV (Instr.box 25 x0)) w fun t1_1 w_2 =>
 dX w_2 fun w_3 =>
 qP Tryd.prog (xV (Instr.fieldAt 25 t1_1 0)) fun t3_4 =>
 qP Tryd.prog (xV (Instr.fieldAt 25 t1_1 1)) fun t6_5 =>
 qL Tryd.prog w_3 (blk t3_4) (xV (Instr.loadAt 22 t3_4)) fun t4_6 =>
 qL Tryd.prog w_3 (blk t6_5) (xV (Instr.loadAt 23 t6_5)) fun t7_7 =>
 opK Tryd.prog E (xCall (Value.func (.func 95) #[] #[]) [t4_6, (Value.func (.func 96) #[] #[])]) w_3 fun t5_8 w_9 =>
 keepX [(blk t6_5)] w_3 w_9 (opK Tryd.prog E (xCall (Value.func (.func 97) #[] #[]) [t7_7, (Value.func (.func 98) #[] #[])]) w_9 fun t8_10 w_11 =>
 keepX [] w_9 w_11 (opK Tryd.prog E (xV (Instr.buildSlice 172 2 #[(0, t5_8), (1, t8_10)])) w_11 fun t9_12 w_13 =>
 keepX [] w_11 w_13 (opK Tryd.prog E (xCall (Value.func (.func 94) #[] #[]) [t9_12]) w_13 fun t10_14 w_15 =>
 keepX [] w_13 w_15 (opK Tryd.prog E (xCall (Value.func (.func 57) #[] #[]) [t10_14]) w_15 fun t11_16 w_17 =>
 keepX [] w_15 w_17 (R t11_16 w_17)))))
noncomputable def c66 : Code := Tryd.f66.body.getD .skip
def h66 : Hint := (.seq .none (.seq (.reg [(0, 8, 2), (1, 16, 8), (2, 32, 16), (0, 64, 2), (8, 128, 64), (20, 256, 128), (36, 512, 288), (96, 1024, 512), (128, 2048, 1024), (511, 4, 2048)] [18, 16, 16, 18, 2, 0, 0, 0, 0, 18] (.early 0 (.early 3 (.load 1 (.load 4 (.step 2 (.step 5 (.step 6 (.step 7 (.step 8 (.early 9 .done))))))))))) .none))
theorem F66_eq (x0 : Value) (w : World) (R : Value → World → Prop) (E : Pan) : F66 x0 w R E = callX Tryd.prog [.tmp 2] c66 h66 [x0] w R E := by kernel_rfl
theorem F66_ok {x0 : Value} {w : World} {R : Value → World → Prop} {E : Pan} (h : F66 x0 w R E) : Cv Tryd.prog 66 #[x0] w R E := by
 refine callX_sound (args := [x0]) (c := c66) (h := h66) (rs := [.tmp 2]) Tryd.func66 (by kernel_rfl) (by kernel_rfl) (Nat.le_of_ble_eq_true (by kernel_rfl)) (by kernel_rfl) (by kernel_rfl) (by kernel_rfl) ?_
 rw [← F66_eq]
 exact h

/- function 83: slices.EqualFunc[[]gnomon/api.Expr,[]gnomon/api.Expr,gnomon/api.Expr,gnomon/api.Expr] -/
def F83_j1 (w : World) (R : Value → World → Prop) (_E : Pan) : Prop :=
 ∀ _τ : Fr, (R (Value.bool true) w)
def F83_l2 (x1 x2 x15 x16 x17 : Value) (w : World) (next2 : List Value → World → Prop) (j1 : List Value → World → Prop) (R : Value → World → Prop) (E : Pan) : Prop :=
 opK Tryd.prog E (xBin .lss 3 (.tmp 17) (.tmp 16) x17 x16) w fun t18_11 w_12 =>
 xcond t18_11
 (opK Tryd.prog E (xV (Instr.indexAt 28 x15 x17)) w_12 fun t20_13 w_14 =>
 opK Tryd.prog E (xV (Instr.loadAt 30 t20_13)) w_14 fun t21_15 w_16 =>
 opK Tryd.prog E (xV (Instr.alloc 30 true (.tuple #[]))) w_16 fun t8_17 w_18 =>
 opK Tryd.prog E (xU (Instr.storeAt 30 t8_17 t21_15)) w_18 fun _z_19 w_20 =>
 opK Tryd.prog E (xV (Instr.indexAt 28 x1 x17)) w_20 fun t24_21 w_22 =>
 opK Tryd.prog E (xV (Instr.loadAt 30 t24_21)) w_22 fun t25_23 w_24 =>
 opK Tryd.prog E (xV (Instr.alloc 30 true (.tuple #[]))) w_24 fun t9_25 w_26 =>
 opK Tryd.prog E (xU (Instr.storeAt 30 t9_25 t25_23)) w_26 fun _z_27 w_28 =>
 opK Tryd.prog E (xV (Instr.loadAt 30 t8_17)) w_28 fun t27_29 w_30 =>
 opK Tryd.prog E (xV (Instr.loadAt 30 t9_25)) w_30 fun t28_31 w_32 =>
 opK Tryd.prog E (xCall x2 [t27_29, t28_31]) w_32 fun t29_33 w_34 =>
 opK Tryd.prog E (xV (Op.unary .not t29_33)) w_34 fun t30_35 w_36 =>
 xcond t30_35
 (R (Value.bool false) w_36)
 (opK Tryd.prog E (xBin .add 3 (.tmp 17) (.const (Value.int .i64 1)) x17 (Value.int .i64 1)) w_36 fun t31_37 w_38 =>
 next2 [t31_37] w_38))
 (j1 [] w_12)
def F83 (x0 x1 x2 : Value) (w : World) (R : Value → World → Prop) (E : Pan) : Prop :=
 opK Tryd.prog E (xBuiltin .len #[28] 3 [false] [x0]) w fun t11_1 w_2 =>
 opK Tryd.prog E (xBuiltin .len #[28] 3 [false] [x1]) w_2 fun t13_3 w_4 =>
 opK Tryd.prog E (xBin .neq 3 (.tmp 11) (.tmp 13) t11_1 t13_3) w_4 fun t14_5 w_6 =>
 xcond t14_5
 (R (Value.bool false) w_6)
 (xcut (fun _ w_8 => F83_j1 w_8 R E) fun j1 =>
 opK Tryd.prog E (xBuiltin .len #[28] 3 [false] [x0]) w_6 fun t16_9 w_10 =>
 xloop [17] [(Value.int .i64 0)] w_10 fun τ_39 w_40 next2 =>
 F83_l2 x1 x2 x0 t16_9 (τ_39 17) w_40 next2 j1 R E)
noncomputable def c83 : Code := Tryd.f83.body.getD .skip
def h83 : Hint := (.seq .none (.seq (.seq .none (.cond (.seq .none .none) .none)) (.cut [] (.seq .none (.block (.loop [17] (.seq .none (.seq (.cond .none .none) (.seq (.block (.seq .none (.seq .none (.seq .none (.cond (.seq .none .none) .none))))) .none)))))) (.seq .none .none))))
theorem F83_eq (x0 x1 x2 : Value) (w : World) (R : Value → World → Prop) (E : Pan) : F83 x0 x1 x2 w R E = callX Tryd.prog [.tmp 6] c83 h83 [x0, x1, x2] w R E := by kernel_rfl
theorem F83_ok {x0 x1 x2 : Value} {w : World} {R : Value → World → Prop} {E : Pan} (h : F83 x0 x1 x2 w R E) : Cv Tryd.prog 83 #[x0, x1, x2] w R E := by
 refine callX_sound (args := [x0, x1, x2]) (c := c83) (h := h83) (rs := [.tmp 6]) Tryd.func83 (by kernel_rfl) (by kernel_rfl) (Nat.le_of_ble_eq_true (by kernel_rfl)) (by kernel_rfl) (by kernel_rfl) (by kernel_rfl) ?_
 rw [← F83_eq]
 exact h

/- function 84: gnomon/tree.sameExpr -/
def F84 (x0 x1 : Value) (w : World) (R : Value → World → Prop) (E : Pan) : Prop :=
 opK Tryd.prog E (xV (Instr.box 30 x0)) w fun t2_1 w_2 =>
 opK Tryd.prog E (xV (Instr.box 30 x1)) w_2 fun t3_3 w_4 =>
 opK Tryd.prog E (xV (Instr.fieldAt 30 t2_1 0)) w_4 fun t5_5 w_6 =>
 opK Tryd.prog E (xV (Instr.loadAt 3 t5_5)) w_6 fun t6_7 w_8 =>
 opK Tryd.prog E (xV (Instr.fieldAt 30 t3_3 0)) w_8 fun t7_9 w_10 =>
 opK Tryd.prog E (xV (Instr.loadAt 3 t7_9)) w_10 fun t8_11 w_12 =>
 opK Tryd.prog E (xBin .eql 3 (.tmp 6) (.tmp 8) t6_7 t8_11) w_12 fun t9_13 w_14 =>
 opK Tryd.prog E (gsem (asB t9_13) true (xV (Instr.fieldAt 30 t2_1 1))) w_14 fun t11_15 w_16 =>
 opK Tryd.prog E (gsem (asB t9_13) true (xV (Instr.loadAt 2 t11_15))) w_16 fun t12_17 w_18 =>
 opK Tryd.prog E (gsem (asB t9_13) true (xV (Instr.fieldAt 30 t3_3 1))) w_18 fun t13_19 w_20 =>
 opK Tryd.prog E (gsem (asB t9_13) true (xV (Instr.loadAt 2 t13_19))) w_20 fun t14_21 w_22 =>
 opK Tryd.prog E (gsem (asB t9_13) true (xBin .eql 2 (.tmp 12) (.tmp 14) t12_17 t14_21)) w_22 fun t15_23 w_24 =>
 opK Tryd.prog E (xPick t9_13 t15_23 (Value.bool false)) w_24 fun t16_25 w_26 =>
 opK Tryd.prog E (gsem (asB t16_25) true (xV (Instr.fieldAt 30 t2_1 2))) w_26 fun t18_27 w_28 =>
 opK Tryd.prog E (gsem (asB t16_25) true (xV (Instr.loadAt 9 t18_27))) w_28 fun t19_29 w_30 =>
 opK Tryd.prog E (gsem (asB t16_25) true (xV (Instr.fieldAt 30 t3_3 2))) w_30 fun t20_31 w_32 =>
 opK Tryd.prog E (gsem (asB t16_25) true (xV (Instr.loadAt 9 t20_31))) w_32 fun t21_33 w_34 =>
 opK Tryd.prog E (gsem (asB t16_25) true (xBin .eql 9 (.tmp 19) (.tmp 21) t19_29 t21_33)) w_34 fun t22_35 w_36 =>
 opK Tryd.prog E (xPick t16_25 t22_35 (Value.bool false)) w_36 fun t23_37 w_38 =>
 opK Tryd.prog E (gsem (asB t23_37) true (xV (Instr.fieldAt 30 t2_1 3))) w_38 fun t25_39 w_40 =>
 opK Tryd.prog E (gsem (asB t23_37) true (xV (Instr.loadAt 28 t25_39))) w_40 fun t26_41 w_42 =>
 opK Tryd.prog E (gsem (asB t23_37) true (xV (Instr.fieldAt 30 t3_3 3))) w_42 fun t27_43 w_44 =>
 opK Tryd.prog E (gsem (asB t23_37) true (xV (Instr.loadAt 28 t27_43))) w_44 fun t28_45 w_46 =>
 opK Tryd.prog E (gsem (asB t23_37) true (xCall (Value.func (.func 83) #[] #[]) [t26_41, t28_45, (Value.func (.func 84) #[] #[])])) w_46 fun t29_47 w_48 =>
 opK Tryd.prog E (xPick t23_37 t29_47 (Value.bool false)) w_48 fun t30_49 w_50 =>
 R t30_49 w_50
noncomputable def c84 : Code := Tryd.f84.body.getD .skip
def h84 : Hint := (.seq .none (.seq .none .none))
theorem F84_eq (x0 x1 : Value) (w : World) (R : Value → World → Prop) (E : Pan) : F84 x0 x1 w R E = callX Tryd.prog [.tmp 4] c84 h84 [x0, x1] w R E := by kernel_rfl
theorem F84_ok {x0 x1 : Value} {w : World} {R : Value → World → Prop} {E : Pan} (h : F84 x0 x1 w R E) : Cv Tryd.prog 84 #[x0, x1] w R E := by
 refine callX_sound (args := [x0, x1]) (c := c84) (h := h84) (rs := [.tmp 4]) Tryd.func84 (by kernel_rfl) (by kernel_rfl) (Nat.le_of_ble_eq_true (by kernel_rfl)) (by kernel_rfl) (by kernel_rfl) (by kernel_rfl) ?_
 rw [← F84_eq]
 exact h

/- function 85: slices.EqualFunc[[]gnomon/api.Cond,[]gnomon/api.Cond,gnomon/api.Cond,gnomon/api.Cond] -/
def F85_j1 (w : World) (R : Value → World → Prop) (_E : Pan) : Prop :=
 ∀ _τ : Fr, (R (Value.bool true) w)
def F85_l2 (x1 x2 x15 x16 x17 : Value) (w : World) (next2 : List Value → World → Prop) (j1 : List Value → World → Prop) (R : Value → World → Prop) (E : Pan) : Prop :=
 opK Tryd.prog E (xBin .lss 3 (.tmp 17) (.tmp 16) x17 x16) w fun t18_11 w_12 =>
 xcond t18_11
 (opK Tryd.prog E (xV (Instr.indexAt 31 x15 x17)) w_12 fun t20_13 w_14 =>
 opK Tryd.prog E (xV (Instr.loadAt 33 t20_13)) w_14 fun t21_15 w_16 =>
 opK Tryd.prog E (xV (Instr.alloc 33 true (.tuple #[]))) w_16 fun t8_17 w_18 =>
 opK Tryd.prog E (xU (Instr.storeAt 33 t8_17 t21_15)) w_18 fun _z_19 w_20 =>
 opK Tryd.prog E (xV (Instr.indexAt 31 x1 x17)) w_20 fun t24_21 w_22 =>
 opK Tryd.prog E (xV (Instr.loadAt 33 t24_21)) w_22 fun t25_23 w_24 =>
 opK Tryd.prog E (xV (Instr.alloc 33 true (.tuple #[]))) w_24 fun t9_25 w_26 =>
 opK Tryd.prog E (xU (Instr.storeAt 33 t9_25 t25_23)) w_26 fun _z_27 w_28 =>
 opK Tryd.prog E (xV (Instr.loadAt 33 t8_17)) w_28 fun t27_29 w_30 =>
 opK Tryd.prog E (xV (Instr.loadAt 33 t9_25)) w_30 fun t28_31 w_32 =>
 opK Tryd.prog E (xCall x2 [t27_29, t28_31]) w_32 fun t29_33 w_34 =>
 opK Tryd.prog E (xV (Op.unary .not t29_33)) w_34 fun t30_35 w_36 =>
 xcond t30_35
 (R (Value.bool false) w_36)
 (opK Tryd.prog E (xBin .add 3 (.tmp 17) (.const (Value.int .i64 1)) x17 (Value.int .i64 1)) w_36 fun t31_37 w_38 =>
 next2 [t31_37] w_38))
 (j1 [] w_12)
def F85 (x0 x1 x2 : Value) (w : World) (R : Value → World → Prop) (E : Pan) : Prop :=
 opK Tryd.prog E (xBuiltin .len #[31] 3 [false] [x0]) w fun t11_1 w_2 =>
 opK Tryd.prog E (xBuiltin .len #[31] 3 [false] [x1]) w_2 fun t13_3 w_4 =>
 opK Tryd.prog E (xBin .neq 3 (.tmp 11) (.tmp 13) t11_1 t13_3) w_4 fun t14_5 w_6 =>
 xcond t14_5
 (R (Value.bool false) w_6)
 (xcut (fun _ w_8 => F85_j1 w_8 R E) fun j1 =>
 opK Tryd.prog E (xBuiltin .len #[31] 3 [false] [x0]) w_6 fun t16_9 w_10 =>
 xloop [17] [(Value.int .i64 0)] w_10 fun τ_39 w_40 next2 =>
 F85_l2 x1 x2 x0 t16_9 (τ_39 17) w_40 next2 j1 R E)
noncomputable def c85 : Code := Tryd.f85.body.getD .skip
def h85 : Hint := (.seq .none (.seq (.seq .none (.cond (.seq .none .none) .none)) (.cut [] (.seq .none (.block (.loop [17] (.seq .none (.seq (.cond .none .none) (.seq (.block (.seq .none (.seq .none (.seq .none (.cond (.seq .none .none) .none))))) .none)))))) (.seq .none .none))))
theorem F85_eq (x0 x1 x2 : Value) (w : World) (R : Value → World → Prop) (E : Pan) : F85 x0 x1 x2 w R E = callX Tryd.prog [.tmp 6] c85 h85 [x0, x1, x2] w R E := by kernel_rfl
theorem F85_ok {x0 x1 x2 : Value} {w : World} {R : Value → World → Prop} {E : Pan} (h : F85 x0 x1 x2 w R E) : Cv Tryd.prog 85 #[x0, x1, x2] w R E := by
 refine callX_sound (args := [x0, x1, x2]) (c := c85) (h := h85) (rs := [.tmp 6]) Tryd.func85 (by kernel_rfl) (by kernel_rfl) (Nat.le_of_ble_eq_true (by kernel_rfl)) (by kernel_rfl) (by kernel_rfl) (by kernel_rfl) ?_
 rw [← F85_eq]
 exact h

/- function 86: gnomon/tree.sameCond -/
def F86 (x0 x1 : Value) (w : World) (R : Value → World → Prop) (E : Pan) : Prop :=
 opK Tryd.prog E (xV (Instr.box 33 x0)) w fun t2_1 w_2 =>
 opK Tryd.prog E (xV (Instr.box 33 x1)) w_2 fun t3_3 w_4 =>
 opK Tryd.prog E (xV (Instr.fieldAt 33 t2_1 0)) w_4 fun t5_5 w_6 =>
 opK Tryd.prog E (xV (Instr.loadAt 3 t5_5)) w_6 fun t6_7 w_8 =>
 opK Tryd.prog E (xV (Instr.fieldAt 33 t3_3 0)) w_8 fun t7_9 w_10 =>
 opK Tryd.prog E (xV (Instr.loadAt 3 t7_9)) w_10 fun t8_11 w_12 =>
 opK Tryd.prog E (xBin .eql 3 (.tmp 6) (.tmp 8) t6_7 t8_11) w_12 fun t9_13 w_14 =>
 opK Tryd.prog E (gsem (asB t9_13) true (xV (Instr.fieldAt 33 t2_1 1))) w_14 fun t11_15 w_16 =>
 opK Tryd.prog E (gsem (asB t9_13) true (xV (Instr.loadAt 3 t11_15))) w_16 fun t12_17 w_18 =>
 opK Tryd.prog E (gsem (asB t9_13) true (xV (Instr.fieldAt 33 t3_3 1))) w_18 fun t13_19 w_20 =>
 opK Tryd.prog E (gsem (asB t9_13) true (xV (Instr.loadAt 3 t13_19))) w_20 fun t14_21 w_22 =>
 opK Tryd.prog E (gsem (asB t9_13) true (xBin .eql 3 (.tmp 12) (.tmp 14) t12_17 t14_21)) w_22 fun t15_23 w_24 =>
 opK Tryd.prog E (xPick t9_13 t15_23 (Value.bool false)) w_24 fun t16_25 w_26 =>
 opK Tryd.prog E (gsem (asB t16_25) true (xV (Instr.fieldAt 33 t2_1 2))) w_26 fun t18_27 w_28 =>
 opK Tryd.prog E (gsem (asB t16_25) true (xV (Instr.loadAt 28 t18_27))) w_28 fun t19_29 w_30 =>
 opK Tryd.prog E (gsem (asB t16_25) true (xV (Instr.fieldAt 33 t3_3 2))) w_30 fun t20_31 w_32 =>
 opK Tryd.prog E (gsem (asB t16_25) true (xV (Instr.loadAt 28 t20_31))) w_32 fun t21_33 w_34 =>
 opK Tryd.prog E (gsem (asB t16_25) true (xCall (Value.func (.func 83) #[] #[]) [t19_29, t21_33, (Value.func (.func 84) #[] #[])])) w_34 fun t22_35 w_36 =>
 opK Tryd.prog E (xPick t16_25 t22_35 (Value.bool false)) w_36 fun t23_37 w_38 =>
 opK Tryd.prog E (gsem (asB t23_37) true (xV (Instr.fieldAt 33 t2_1 3))) w_38 fun t25_39 w_40 =>
 opK Tryd.prog E (gsem (asB t23_37) true (xV (Instr.loadAt 31 t25_39))) w_40 fun t26_41 w_42 =>
 opK Tryd.prog E (gsem (asB t23_37) true (xV (Instr.fieldAt 33 t3_3 3))) w_42 fun t27_43 w_44 =>
 opK Tryd.prog E (gsem (asB t23_37) true (xV (Instr.loadAt 31 t27_43))) w_44 fun t28_45 w_46 =>
 opK Tryd.prog E (gsem (asB t23_37) true (xCall (Value.func (.func 85) #[] #[]) [t26_41, t28_45, (Value.func (.func 86) #[] #[])])) w_46 fun t29_47 w_48 =>
 opK Tryd.prog E (xPick t23_37 t29_47 (Value.bool false)) w_48 fun t30_49 w_50 =>
 R t30_49 w_50
noncomputable def c86 : Code := Tryd.f86.body.getD .skip
def h86 : Hint := (.seq .none (.seq .none .none))
theorem F86_eq (x0 x1 : Value) (w : World) (R : Value → World → Prop) (E : Pan) : F86 x0 x1 w R E = callX Tryd.prog [.tmp 4] c86 h86 [x0, x1] w R E := by kernel_rfl
theorem F86_ok {x0 x1 : Value} {w : World} {R : Value → World → Prop} {E : Pan} (h : F86 x0 x1 w R E) : Cv Tryd.prog 86 #[x0, x1] w R E := by
 refine callX_sound (args := [x0, x1]) (c := c86) (h := h86) (rs := [.tmp 4]) Tryd.func86 (by kernel_rfl) (by kernel_rfl) (Nat.le_of_ble_eq_true (by kernel_rfl)) (by kernel_rfl) (by kernel_rfl) (by kernel_rfl) ?_
 rw [← F86_eq]
 exact h

/- function 87: gnomon/gnomonref3.SameCond -/
def F87_j2 (w : World) (R : Value → World → Prop) (_E : Pan) : Prop :=
 ∀ _τ : Fr, (R (Value.bool true) w)
def F87_l3 (x2 x3 x6 : Value) (w : World) (next3 : List Value → World → Prop) (j2 : List Value → World → Prop) (R : Value → World → Prop) (E : Pan) : Prop :=
 opK Tryd.prog E (xV (Instr.fieldAt 33 x2 3)) w fun t57_61 w_62 =>
 opK Tryd.prog E (xV (Instr.loadAt 31 t57_61)) w_62 fun t58_63 w_64 =>
 opK Tryd.prog E (xBuiltin .len #[31] 3 [false] [t58_63]) w_64 fun t59_65 w_66 =>
 opK Tryd.prog E (xBin .lss 3 (.tmp 56) (.tmp 59) x6 t59_65) w_66 fun t60_67 w_68 =>
 xcond t60_67
 (dX w_68 fun w_69 =>
 qP Tryd.prog (xV (Instr.fieldAt 33 x2 3)) fun t63_70 =>
 qP Tryd.prog (xV (Instr.fieldAt 33 x3 3)) fun t68_71 =>
 qL Tryd.prog w_69 (blk t63_70) (xV (Instr.loadAt 31 t63_70)) fun t64_72 =>
 qP Tryd.prog (xV (Instr.indexAt 31 t64_72 x6)) fun t66_73 =>
 qL Tryd.prog w_69 (blk t66_73) (xV (Instr.loadAt 33 t66_73)) fun t67_74 =>
 qL Tryd.prog w_69 (blk t68_71) (xV (Instr.loadAt 31 t68_71)) fun t69_75 =>
 qP Tryd.prog (xV (Instr.indexAt 31 t69_75 x6)) fun t71_76 =>
 qL Tryd.prog w_69 (blk t71_76) (xV (Instr.loadAt 33 t71_76)) fun t72_77 =>
 opK Tryd.prog E (xCall (Value.func (.func 87) #[] #[]) [t67_74, t72_77]) w_69 fun t73_78 w_79 =>
 keepX [] w_69 w_79 (qP Tryd.prog (xV (Op.unary .not t73_78)) fun t74_80 =>
 xcond t74_80
 (R (Value.bool false) w_79)
 (opK Tryd.prog E (xBin .add 3 (.tmp 61) (.const (Value.int .i64 1)) x6 (Value.int .i64 1)) w_79 fun t62_81 w_82 =>
 next3 [t62_81] w_82)))
 (j2 [] w_68)
def F87_j1 (x2 x3 : Value) (w : World) (R : Value → World → Prop) (E : Pan) : Prop :=
 ∀ _τ : Fr, (xcut (fun _ w_60 => F87_j2 w_60 R E) fun j2 =>
 xloop [6] [(Value.int .i64 0)] w fun τ_83 w_84 next3 =>
 F87_l3 x2 x3 (τ_83 6) w_84 next3 j2 R E)
def F87_l4 (x2 x3 x5 : Value) (w : World) (next4 : List Value → World → Prop) (j1 : List Value → World → Prop) (R : Value → World → Prop) (E : Pan) : Prop :=
 opK Tryd.prog E (xV (Instr.fieldAt 33 x2 2)) w fun t38_87 w_88 =>
 opK Tryd.prog E (xV (Instr.loadAt 28 t38_87)) w_88 fun t39_89 w_90 =>
 opK Tryd.prog E (xBuiltin .len #[28] 3 [false] [t39_89]) w_90 fun t40_91 w_92 =>
 opK Tryd.prog E (xBin .lss 3 (.tmp 37) (.tmp 40) x5 t40_91) w_92 fun t41_93 w_94 =>
 xcond t41_93
 (dX w_94 fun w_95 =>
 qP Tryd.prog (xV (Instr.fieldAt 33 x2 2)) fun t44_96 =>
 qP Tryd.prog (xV (Instr.fieldAt 33 x3 2)) fun t49_97 =>
 qL Tryd.prog w_95 (blk t44_96) (xV (Instr.loadAt 28 t44_96)) fun t45_98 =>
 qP Tryd.prog (xV (Instr.indexAt 28 t45_98 x5)) fun t47_99 =>
 qL Tryd.prog w_95 (blk t47_99) (xV (Instr.loadAt 30 t47_99)) fun t48_100 =>
 qL Tryd.prog w_95 (blk t49_97) (xV (Instr.loadAt 28 t49_97)) fun t50_101 =>
 qP Tryd.prog (xV (Instr.indexAt 28 t50_101 x5)) fun t52_102 =>
 qL Tryd.prog w_95 (blk t52_102) (xV (Instr.loadAt 30 t52_102)) fun t53_103 =>
 opK Tryd.prog E (xCall (Value.func (.func 88) #[] #[]) [t48_100, t53_103]) w_95 fun t54_104 w_105 =>
 keepX [] w_95 w_105 (qP Tryd.prog (xV (Op.unary .not t54_104)) fun t55_106 =>
 xcond t55_106
 (R (Value.bool false) w_105)
 (opK Tryd.prog E (xBin .add 3 (.tmp 42) (.const (Value.int .i64 1)) x5 (Value.int .i64 1)) w_105 fun t43_107 w_108 =>
 next4 [t43_107] w_108)))
 (j1 [] w_94)
def F87 (x0 x1 : Value) (w : World) (R : Value → World → Prop) (E : Pan) : Prop :=
 opK Tryd.prog E (xV (Instr.box 33 x0)) w fun t2_1 w_2 =>
 opK Tryd.prog E (xV (Instr.box 33 x1)) w_2 fun t3_3 w_4 =>
 opK Tryd.prog E (xV (Instr.fieldAt 33 t2_1 0)) w_4 fun t7_5 w_6 =>
 opK Tryd.prog E (xV (Instr.loadAt 3 t7_5)) w_6 fun t8_7 w_8 =>
 opK Tryd.prog E (xV (Instr.fieldAt 33 t3_3 0)) w_8 fun t9_9 w_10 =>
 opK Tryd.prog E (xV (Instr.loadAt 3 t9_9)) w_10 fun t10_11 w_12 =>
 opK Tryd.prog E (xBin .neq 3 (.tmp 8) (.tmp 10) t8_7 t10_11) w_12 fun t11_13 w_14 =>
 opK Tryd.prog E (gsem (asB t11_13) false (xV (Instr.fieldAt 33 t2_1 1))) w_14 fun t13_15 w_16 =>
 opK Tryd.prog E (gsem (asB t11_13) false (xV (Instr.loadAt 3 t13_15))) w_16 fun t14_17 w_18 =>
 opK Tryd.prog E (gsem (asB t11_13) false (xV (Instr.fieldAt 33 t3_3 1))) w_18 fun t15_19 w_20 =>
 opK Tryd.prog E (gsem (asB t11_13) false (xV (Instr.loadAt 3 t15_19))) w_20 fun t16_21 w_22 =>
 opK Tryd.prog E (gsem (asB t11_13) false (xBin .neq 3 (.tmp 14) (.tmp 16) t14_17 t16_21)) w_22 fun t17_23 w_24 =>
 opK Tryd.prog E (xPick t11_13 (Value.bool true) t17_23) w_24 fun t18_25 w_26 =>
 opK Tryd.prog E (gsem (asB t18_25) false (xV (Instr.fieldAt 33 t2_1 2))) w_26 fun t20_27 w_28 =>
 opK Tryd.prog E (gsem (asB t18_25) false (xV (Instr.loadAt 28 t20_27))) w_28 fun t21_29 w_30 =>
 opK Tryd.prog E (gsem (asB t18_25) false (xBuiltin .len #[28] 3 [false] [t21_29])) w_30 fun t22_31 w_32 =>
 opK Tryd.prog E (gsem (asB t18_25) false (xV (Instr.fieldAt 33 t3_3 2))) w_32 fun t23_33 w_34 =>
 opK Tryd.prog E (gsem (asB t18_25) false (xV (Instr.loadAt 28 t23_33))) w_34 fun t24_35 w_36 =>
 opK Tryd.prog E (gsem (asB t18_25) false (xBuiltin .len #[28] 3 [false] [t24_35])) w_36 fun t25_37 w_38 =>
 opK Tryd.prog E (gsem (asB t18_25) false (xBin .neq 3 (.tmp 22) (.tmp 25) t22_31 t25_37)) w_38 fun t26_39 w_40 =>
 opK Tryd.prog E (xPick t18_25 (Value.bool true) t26_39) w_40 fun t27_41 w_42 =>
 opK Tryd.prog E (gsem (asB t27_41) false (xV (Instr.fieldAt 33 t2_1 3))) w_42 fun t29_43 w_44 =>
 opK Tryd.prog E (gsem (asB t27_41) false (xV (Instr.loadAt 31 t29_43))) w_44 fun t30_45 w_46 =>
 opK Tryd.prog E (gsem (asB t27_41) false (xBuiltin .len #[31] 3 [false] [t30_45])) w_46 fun t31_47 w_48 =>
 opK Tryd.prog E (gsem (asB t27_41) false (xV (Instr.fieldAt 33 t3_3 3))) w_48 fun t32_49 w_50 =>
 opK Tryd.prog E (gsem (asB t27_41) false (xV (Instr.loadAt 31 t32_49))) w_50 fun t33_51 w_52 =>
 opK Tryd.prog E (gsem (asB t27_41) false (xBuiltin .len #[31] 3 [false] [t33_51])) w_52 fun t34_53 w_54 =>
 opK Tryd.prog E (gsem (asB t27_41) false (xBin .neq 3 (.tmp 31) (.tmp 34) t31_47 t34_53)) w_54 fun t35_55 w_56 =>
 opK Tryd.prog E (xPick t27_41 (Value.bool true) t35_55) w_56 fun t36_57 w_58 =>
 xcond t36_57
 (R (Value.bool false) w_58)
 (xcut (fun _ w_86 => F87_j1 t2_1 t3_3 w_86 R E) fun j1 =>
 xloop [5] [(Value.int .i64 0)] w_58 fun τ_109 w_110 next4 =>
 F87_l4 t2_1 t3_3 (τ_109 5) w_110 next4 j1 R E)
noncomputable def c87 : Code := Tryd.f87.body.getD .skip
def h87 : Hint := (.seq .none (.seq (.seq .none (.cond (.seq .none .none) .none)) (.cut [] (.seq .none (.block (.loop [5] (.seq (.seq .none (.cond .none .none)) (.seq (.block (.seq (.reg [(0, 17592186044416, 4), (1, 35184372088832, 17592186044416), (0, 70368744177664, 32), (6, 140737488355328, 105553116266496), (8, 281474976710656, 140737488355328), (0, 562949953421312, 8), (32, 1125899906842624, 562949953421312), (0, 2251799813685248, 32), (192, 4503599627370496, 3377699720527872), (256, 9007199254740992, 4503599627370496), (528, 18014398509481984, 9288674231451648), (1024, 36028797018963968, 18014398509481984)] [594, 592, 594, 594, 578, 594, 530, 594, 594, 82, 0, 594] (.early 0 (.early 2 (.early 5 (.early 7 (.load 1 (.early 3 (.load 4 (.load 6 (.early 8 (.load 9 (.step 10 (.early 11 .done))))))))))))) (.cond (.seq .none .none) .none))) .none))))) (.cut [] (.seq .none (.block (.loop [6] (.seq (.seq .none (.cond .none .none)) (.seq (.block (.seq (.reg [(0, 9223372036854775808, 4), (1, 18446744073709551616, 9223372036854775808), (0, 36893488147419103232, 64), (6, 73786976294838206464, 55340232221128654848), (8, 147573952589676412928, 73786976294838206464), (0, 295147905179352825856, 8), (32, 590295810358705651712, 295147905179352825856), (0, 1180591620717411303424, 64), (192, 2361183241434822606848, 1770887431076116955136), (256, 4722366482869645213696, 2361183241434822606848), (528, 9444732965739290427392, 4869940435459321626624), (1024, 18889465931478580854784, 9444732965739290427392)] [594, 592, 594, 594, 578, 594, 530, 594, 594, 82, 0, 594] (.early 0 (.early 2 (.early 5 (.early 7 (.load 1 (.early 3 (.load 4 (.load 6 (.early 8 (.load 9 (.step 10 (.early 11 .done))))))))))))) (.cond (.seq .none .none) .none))) .none))))) (.seq .none .none)))))
theorem F87_eq (x0 x1 : Value) (w : World) (R : Value → World → Prop) (E : Pan) : F87 x0 x1 w R E = callX Tryd.prog [.tmp 4] c87 h87 [x0, x1] w R E := by kernel_rfl
theorem F87_ok {x0 x1 : Value} {w : World} {R : Value → World → Prop} {E : Pan} (h : F87 x0 x1 w R E) : Cv Tryd.prog 87 #[x0, x1] w R E := by
 refine callX_sound (args := [x0, x1]) (c := c87) (h := h87) (rs := [.tmp 4]) Tryd.func87 (by kernel_rfl) (by kernel_rfl) (Nat.le_of_ble_eq_true (by kernel_rfl)) (by kernel_rfl) (by kernel_rfl) (by kernel_rfl) ?_
 rw [← F87_eq]
 exact h

/- function 88: gnomon/gnomonref3.SameExpr -/
def F88_j1 (w : World) (R : Value → World → Prop) (_E : Pan) : Prop :=
 ∀ _τ : Fr, (R (Value.bool true) w)
def F88_l2 (x2 x3 x5 : Value) (w : World) (next2 : List Value → World → Prop) (j1 : List Value → World → Prop) (R : Value → World → Prop) (E : Pan) : Prop :=
 opK Tryd.prog E (xV (Instr.fieldAt 30 x2 3)) w fun t35_57 w_58 =>
 opK Tryd.prog E (xV (Instr.loadAt 28 t35_57)) w_58 fun t36_59 w_60 =>
 opK Tryd.prog E (xBuiltin .len #[28] 3 [false] [t36_59]) w_60 fun t37_61 w_62 =>
 opK Tryd.prog E (xBin .lss 3 (.tmp 34) (.tmp 37) x5 t37_61) w_62 fun t38_63 w_64 =>
 xcond t38_63
 (dX w_64 fun w_65 =>
 qP Tryd.prog (xV (Instr.fieldAt 30 x2 3)) fun t41_66 =>
 qP Tryd.prog (xV (Instr.fieldAt 30 x3 3)) fun t46_67 =>
 qL Tryd.prog w_65 (blk t41_66) (xV (Instr.loadAt 28 t41_66)) fun t42_68 =>
 qP Tryd.prog (xV (Instr.indexAt 28 t42_68 x5)) fun t44_69 =>
 qL Tryd.prog w_65 (blk t44_69) (xV (Instr.loadAt 30 t44_69)) fun t45_70 =>
 qL Tryd.prog w_65 (blk t46_67) (xV (Instr.loadAt 28 t46_67)) fun t47_71 =>
 qP Tryd.prog (xV (Instr.indexAt 28 t47_71 x5)) fun t49_72 =>
 qL Tryd.prog w_65 (blk t49_72) (xV (Instr.loadAt 30 t49_72)) fun t50_73 =>
 opK Tryd.prog E (xCall (Value.func (.func 88) #[] #[]) [t45_70, t50_73]) w_65 fun t51_74 w_75 =>
 keepX [] w_65 w_75 (qP Tryd.prog (xV (Op.unary .not t51_74)) fun t52_76 =>
 xcond t52_76
 (R (Value.bool false) w_75)
 (opK Tryd.prog E (xBin .add 3 (.tmp 39) (.const (Value.int .i64 1)) x5 (Value.int .i64 1)) w_75 fun t40_77 w_78 =>
 next2 [t40_77] w_78)))
 (j1 [] w_64)
def F88 (x0 x1 : Value) (w : World) (R : Value → World → Prop) (E : Pan) : Prop :=
 opK Tryd.prog E (xV (Instr.box 30 x0)) w fun t2_1 w_2 =>
 opK Tryd.prog E (xV (Instr.box 30 x1)) w_2 fun t3_3 w_4 =>
 opK Tryd.prog E (xV (Instr.fieldAt 30 t2_1 0)) w_4 fun t6_5 w_6 =>
 opK Tryd.prog E (xV (Instr.loadAt 3 t6_5)) w_6 fun t7_7 w_8 =>
 opK Tryd.prog E (xV (Instr.fieldAt 30 t3_3 0)) w_8 fun t8_9 w_10 =>
 opK Tryd.prog E (xV (Instr.loadAt 3 t8_9)) w_10 fun t9_11 w_12 =>
 opK Tryd.prog E (xBin .neq 3 (.tmp 7) (.tmp 9) t7_7 t9_11) w_12 fun t10_13 w_14 =>
 opK Tryd.prog E (gsem (asB t10_13) false (xV (Instr.fieldAt 30 t2_1 1))) w_14 fun t12_15 w_16 =>
 opK Tryd.prog E (gsem (asB t10_13) false (xV (Instr.loadAt 2 t12_15))) w_16 fun t13_17 w_18 =>
 opK Tryd.prog E (gsem (asB t10_13) false (xV (Instr.fieldAt 30 t3_3 1))) w_18 fun t14_19 w_20 =>
 opK Tryd.prog E (gsem (asB t10_13) false (xV (Instr.loadAt 2 t14_19))) w_20 fun t15_21 w_22 =>
 opK Tryd.prog E (gsem (asB t10_13) false (xBin .neq 2 (.tmp 13) (.tmp 15) t13_17 t15_21)) w_22 fun t16_23 w_24 =>
 opK Tryd.prog E (xPick t10_13 (Value.bool true) t16_23) w_24 fun t17_25 w_26 =>
 opK Tryd.prog E (gsem (asB t17_25) false (xV (Instr.fieldAt 30 t2_1 2))) w_26 fun t19_27 w_28 =>
 opK Tryd.prog E (gsem (asB t17_25) false (xV (Instr.loadAt 9 t19_27))) w_28 fun t20_29 w_30 =>
 opK Tryd.prog E (gsem (asB t17_25) false (xV (Instr.fieldAt 30 t3_3 2))) w_30 fun t21_31 w_32 =>
 opK Tryd.prog E (gsem (asB t17_25) false (xV (Instr.loadAt 9 t21_31))) w_32 fun t22_33 w_34 =>
 opK Tryd.prog E (gsem (asB t17_25) false (xBin .neq 9 (.tmp 20) (.tmp 22) t20_29 t22_33)) w_34 fun t23_35 w_36 =>
 opK Tryd.prog E (xPick t17_25 (Value.bool true) t23_35) w_36 fun t24_37 w_38 =>
 opK Tryd.prog E (gsem (asB t24_37) false (xV (Instr.fieldAt 30 t2_1 3))) w_38 fun t26_39 w_40 =>
 opK Tryd.prog E (gsem (asB t24_37) false (xV (Instr.loadAt 28 t26_39))) w_40 fun t27_41 w_42 =>
 opK Tryd.prog E (gsem (asB t24_37) false (xBuiltin .len #[28] 3 [false] [t27_41])) w_42 fun t28_43 w_44 =>
 opK Tryd.prog E (gsem (asB t24_37) false (xV (Instr.fieldAt 30 t3_3 3))) w_44 fun t29_45 w_46 =>
 opK Tryd.prog E (gsem (asB t24_37) false (xV (Instr.loadAt 28 t29_45))) w_46 fun t30_47 w_48 =>
 opK Tryd.prog E (gsem (asB t24_37) false (xBuiltin .len #[28] 3 [false] [t30_47])) w_48 fun t31_49 w_50 =>
 opK Tryd.prog E (gsem (asB t24_37) false (xBin .neq 3 (.tmp 28) (.tmp 31) t28_43 t31_49)) w_50 fun t32_51 w_52 =>
 opK Tryd.prog E (xPick t24_37 (Value.bool true) t32_51) w_52 fun t33_53 w_54 =>
 xcond t33_53
 (R (Value.bool false) w_54)
 (xcut (fun _ w_56 => F88_j1 w_56 R E) fun j1 =>
 xloop [5] [(Value.int .i64 0)] w_54 fun τ_79 w_80 next2 =>
 F88_l2 t2_1 t3_3 (τ_79 5) w_80 next2 j1 R E)
noncomputable def c88 : Code := Tryd.f88.body.getD .skip
def h88 : Hint := (.seq .none (.seq (.seq .none (.cond (.seq .none .none) .none)) (.cut [] (.seq .none (.block (.loop [5] (.seq (.seq .none (.cond .none .none)) (.seq (.block (.seq (.reg [(0, 2199023255552, 4), (1, 4398046511104, 2199023255552), (0, 8796093022208, 32), (6, 17592186044416, 13194139533312), (8, 35184372088832, 17592186044416), (0, 70368744177664, 8), (32, 140737488355328, 70368744177664), (0, 281474976710656, 32), (192, 562949953421312, 422212465065984), (256, 1125899906842624, 562949953421312), (528, 2251799813685248, 1161084278931456), (1024, 4503599627370496, 2251799813685248)] [594, 592, 594, 594, 578, 594, 530, 594, 594, 82, 0, 594] (.early 0 (.early 2 (.early 5 (.early 7 (.load 1 (.early 3 (.load 4 (.load 6 (.early 8 (.load 9 (.step 10 (.early 11 .done))))))))))))) (.cond (.seq .none .none) .none))) .none))))) (.seq .none .none))))
theorem F88_eq (x0 x1 : Value) (w : World) (R : Value → World → Prop) (E : Pan) : F88 x0 x1 w R E = callX Tryd.prog [.tmp 4] c88 h88 [x0, x1] w R E := by kernel_rfl
theorem F88_ok {x0 x1 : Value} {w : World} {R : Value → World → Prop} {E : Pan} (h : F88 x0 x1 w R E) : Cv Tryd.prog 88 #[x0, x1] w R E := by
 refine callX_sound (args := [x0, x1]) (c := c88) (h := h88) (rs := [.tmp 4]) Tryd.func88 (by kernel_rfl) (by kernel_rfl) (Nat.le_of_ble_eq_true (by kernel_rfl)) (by kernel_rfl) (by kernel_rfl) (by kernel_rfl) ?_
 rw [← F88_eq]
 exact h

/- function 89: gnomon/tree.walked$1 -/
def F89_j1 (w : World) (R : Value → World → Prop) (_E : Pan) : Prop :=
 ∀ _τ : Fr, (R (Value.bool true) w)
def F89_l2 (x1 x2 x3 x9 x10 x11 : Value) (w : World) (next2 : List Value → World → Prop) (j1 : List Value → World → Prop) (R : Value → World → Prop) (E : Pan) : Prop :=
 opK Tryd.prog E (xBin .lss 3 (.tmp 11) (.tmp 10) x11 x10) w fun t12_5 w_6 =>
 xcond t12_5
 (opK Tryd.prog E (xV (Instr.indexAt 97 x9 x11)) w_6 fun t13_7 w_8 =>
 opK Tryd.prog E (xV (Instr.loadAt 141 t13_7)) w_8 fun t14_9 w_10 =>
 dX w_10 fun w_11 =>
 qL Tryd.prog w_11 (blk x2) (xV (Instr.loadAt 93 x2)) fun t15_12 =>
 opK Tryd.prog E (xCall (Value.func (.func 90) #[] #[]) [t15_12, t14_9, x1]) w_11 fun t18_13 w_14 =>
 keepX [] w_11 w_14 (qP Tryd.prog (xV (Op.unary .not t18_13)) fun t19_15 =>
 qP Tryd.prog (gsem (asB t19_15) false (xBin .add 3 (.tmp 24) (.const (Value.int .i64 1)) (gval (asB t19_15) false x1) (Value.int .i64 1))) fun t25_16 =>
 qL Tryd.prog w_14 (blk x3) (gsem (asB t19_15) false (xV (Instr.loadAt 139 x3))) fun t21_17 =>
 opK Tryd.prog E (gsem (asB t19_15) false (xInvoke (gval (asB t19_15) false t14_9) "gnomon/tree.parts" [])) w_14 fun t23_18 w_19 =>
 keepX [(blk x3)] w_14 w_19 (opK Tryd.prog E (gsem (asB t19_15) false (xCall t21_17 [t23_18, t25_16])) w_19 fun t26_20 w_21 =>
 keepX [] w_19 w_21 (qP Tryd.prog (gsem (asB t19_15) false (xV (Op.unary .not t26_20))) fun t27_22 =>
 qP Tryd.prog (xPick t19_15 (Value.bool true) t27_22) fun t28_23 =>
 xcond t28_23
 (R (Value.bool false) w_21)
 (opK Tryd.prog E (xBin .add 3 (.tmp 11) (.const (Value.int .i64 1)) x11 (Value.int .i64 1)) w_21 fun t29_24 w_25 =>
 next2 [t29_24] w_25)))))
 (j1 [] w_6)
def F89 (x0 x1 x2 x3 : Value) (w : World) (R : Value → World → Prop) (E : Pan) : Prop :=
 xcut (fun _ w_2 => F89_j1 w_2 R E) fun j1 =>
 opK Tryd.prog E (xBuiltin .len #[97] 3 [false] [x0]) w fun t10_3 w_4 =>
 xloop [11] [(Value.int .i64 0)] w_4 fun τ_26 w_27 next2 =>
 F89_l2 x1 x2 x3 x0 t10_3 (τ_26 11) w_27 next2 j1 R E
noncomputable def c89 : Code := Tryd.f89.body.getD .skip
def h89 : Hint := (.seq .none (.cut [] (.seq .none (.block (.loop [11] (.seq .none (.seq (.cond .none .none) (.seq (.block (.seq .none (.seq (.reg [(0, 32768, 4), (0, 65536, 256), (0, 131072, 2), (7, 262144, 229376), (8, 524288, 262144), (24, 1048576, 524288), (32, 2097152, 1048584), (32, 4194304, 1048832), (160, 8388608, 5242880), (32, 16777216, 1048578), (544, 33554432, 17825792), (1376, 67108864, 45088768), (2080, 134217728, 68157440), (4128, 268435456, 135266304)] [64, 65, 65, 0, 65, 65, 1, 65, 64, 65, 65, 0, 65, 65] (.early 1 (.early 2 (.load 0 (.step 3 (.early 4 (.early 5 (.early 7 (.early 9 (.early 10 (.load 6 (.step 8 (.step 11 (.early 12 (.early 13 .done))))))))))))))) (.cond (.seq .none .none) .none)))) .none)))))) (.seq .none .none)))
theorem F89_eq (x0 x1 x2 x3 : Value) (w : World) (R : Value → World → Prop) (E : Pan) : F89 x0 x1 x2 x3 w R E = callX Tryd.prog [.tmp 6] c89 h89 [x0, x1, x2, x3] w R E := by kernel_rfl
theorem F89_ok {x0 x1 x2 x3 : Value} {w : World} {R : Value → World → Prop} {E : Pan} (h : F89 x0 x1 x2 x3 w R E) : Cv Tryd.prog 89 #[x0, x1, x2, x3] w R E := by
 refine callX_sound (args := [x0, x1, x2, x3]) (c := c89) (h := h89) (rs := [.tmp 6]) Tryd.func89 (by kernel_rfl) (by kernel_rfl) (Nat.le_of_ble_eq_true (by kernel_rfl)) (by kernel_rfl) (by kernel_rfl) (by kernel_rfl) ?_
 rw [← F89_eq]
 exact h

/- function 90: (*gnomon/tree.walker).meets -/
def F90_j1 (w : World) (R : Value → World → Prop) (_E : Pan) : Prop :=
 ∀ _τ : Fr, (R (Value.bool true) w)
def F90 (x0 x1 x2 : Value) (w : World) (R : Value → World → Prop) (E : Pan) : Prop :=
 opK Tryd.prog E (xNil x0) w fun t10_1 w_2 =>
 opK Tryd.prog E (xV (Instr.fieldAt 92 t10_1 0)) w_2 fun t11_3 w_4 =>
 opK Tryd.prog E (xV (Instr.loadAt 3 t11_3)) w_4 fun t12_5 w_6 =>
 opK Tryd.prog E (xBin .add 3 (.tmp 12) (.const (Value.int .i64 1)) t12_5 (Value.int .i64 1)) w_6 fun t13_7 w_8 =>
 opK Tryd.prog E (xNil x0) w_8 fun t14_9 w_10 =>
 opK Tryd.prog E (xV (Instr.fieldAt 92 t14_9 0)) w_10 fun t15_11 w_12 =>
 opK Tryd.prog E (xU (Instr.storeAt 3 t15_11 t13_7)) w_12 fun _z_13 w_14 =>
 opK Tryd.prog E (xNil x0) w_14 fun t17_15 w_16 =>
 opK Tryd.prog E (xV (Instr.fieldAt 92 t17_15 0)) w_16 fun t18_17 w_18 =>
 opK Tryd.prog E (xV (Instr.loadAt 3 t18_17)) w_18 fun t19_19 w_20 =>
 opK Tryd.prog E (xBin .gtr 3 (.tmp 19) (.const (Value.int .i64 4096)) t19_19 (Value.int .i64 4096)) w_20 fun t20_21 w_22 =>
 xcond t20_21
 (opK Tryd.prog E (xNil x0) w_22 fun t22_23 w_24 =>
 opK Tryd.prog E (xV (Instr.fieldAt 92 t22_23 2)) w_24 fun t23_25 w_26 =>
 opK Tryd.prog E (xU (Instr.storeAt 34 t23_25 (Value.int .i64 33))) w_26 fun _z_27 w_28 =>
 R (Value.bool false) w_28)
 (opK Tryd.prog E (xBin .gtr 3 (.tmp 24) (.const (Value.int .i64 64)) x2 (Value.int .i64 64)) w_22 fun t25_29 w_30 =>
 xcond t25_29
 (opK Tryd.prog E (xNil x0) w_30 fun t27_31 w_32 =>
 opK Tryd.prog E (xV (Instr.fieldAt 92 t27_31 2)) w_32 fun t28_33 w_34 =>
 opK Tryd.prog E (xU (Instr.storeAt 34 t28_33 (Value.int .i64 32))) w_34 fun _z_35 w_36 =>
 R (Value.bool false) w_36)
 (opK Tryd.prog E (xNil x0) w_30 fun t31_37 w_38 =>
 opK Tryd.prog E (xV (Instr.fieldAt 92 t31_37 1)) w_38 fun t32_39 w_40 =>
 opK Tryd.prog E (xV (Instr.loadAt 3 t32_39)) w_40 fun t33_41 w_42 =>
 opK Tryd.prog E (xBuiltin .max #[3, 3] 3 [false, false] [t33_41, x2]) w_42 fun t35_43 w_44 =>
 opK Tryd.prog E (xNil x0) w_44 fun t36_45 w_46 =>
 opK Tryd.prog E (xV (Instr.fieldAt 92 t36_45 1)) w_46 fun t37_47 w_48 =>
 opK Tryd.prog E (xU (Instr.storeAt 3 t37_47 t35_43)) w_48 fun _z_49 w_50 =>
 opK Tryd.prog E (xNil x0) w_50 fun t40_51 w_52 =>
 opK Tryd.prog E (xV (Instr.fieldAt 92 t40_51 3)) w_52 fun t41_53 w_54 =>
 opK Tryd.prog E (xV (Instr.loadAt 4 t41_53)) w_54 fun t42_55 w_56 =>
 opK Tryd.prog E (gsem (asB t42_55) false (xInvoke (gval (asB t42_55) false x1) "gnomon/tree.form" [])) w_56 fun t45_57 w_58 =>
 opK Tryd.prog E (gsem (asB t42_55) false (xV (Op.unary .not t45_57))) w_58 fun t46_59 w_60 =>
 opK Tryd.prog E (xPick t42_55 (Value.bool true) t46_59) w_60 fun t47_61 w_62 =>
 opK Tryd.prog E (xNil x0) w_62 fun t48_63 w_64 =>
 opK Tryd.prog E (xV (Instr.fieldAt 92 t48_63 3)) w_64 fun t49_65 w_66 =>
 opK Tryd.prog E (xU (Instr.storeAt 4 t49_65 t47_61)) w_66 fun _z_67 w_68 =>
 xcut (fun _ w_70 => F90_j1 w_70 R E) fun j1 =>
 opK Tryd.prog E (xCall (Value.func (.func 114) #[] #[]) [x1]) w_68 fun t52_71 w_72 =>
 opK Tryd.prog E (xV (Instr.extract t52_71 0)) w_72 fun t53_73 w_74 =>
 opK Tryd.prog E (xV (Instr.extract t52_71 1)) w_74 fun t54_75 w_76 =>
 xcond t54_75
 (opK Tryd.prog E (xNil x0) w_76 fun t58_77 w_78 =>
 opK Tryd.prog E (xV (Instr.fieldAt 92 t58_77 4)) w_78 fun t59_79 w_80 =>
 opK Tryd.prog E (xV (Instr.loadAt 4 t59_79)) w_80 fun t60_81 w_82 =>
 opK Tryd.prog E (gsem (asB t60_81) false (xCall (Value.func (.func 115) #[] #[]) [(gval (asB t60_81) false t53_73)])) w_82 fun t63_83 w_84 =>
 opK Tryd.prog E (gsem (asB t60_81) false (xV (Op.unary .not t63_83))) w_84 fun t64_85 w_86 =>
 opK Tryd.prog E (xPick t60_81 (Value.bool true) t64_85) w_86 fun t65_87 w_88 =>
 opK Tryd.prog E (xNil x0) w_88 fun t66_89 w_90 =>
 opK Tryd.prog E (xV (Instr.fieldAt 92 t66_89 4)) w_90 fun t67_91 w_92 =>
 opK Tryd.prog E (xU (Instr.storeAt 4 t67_91 t65_87)) w_92 fun _z_93 w_94 =>
 opK Tryd.prog E (xNil x0) w_94 fun t69_95 w_96 =>
 opK Tryd.prog E (xV (Instr.fieldAt 92 t69_95 5)) w_96 fun t70_97 w_98 =>
 opK Tryd.prog E (xV (Instr.loadAt 47 t70_97)) w_98 fun t71_99 w_100 =>
 opK Tryd.prog E (xCall (Value.func (.func 116) #[] #[]) [t71_99, t53_73]) w_100 fun t73_101 w_102 =>
 opK Tryd.prog E (xV (Op.unary .not t73_101)) w_102 fun t74_103 w_104 =>
 xcond t74_103
 (opK Tryd.prog E (xNil x0) w_104 fun t77_105 w_106 =>
 opK Tryd.prog E (xV (Instr.fieldAt 92 t77_105 5)) w_106 fun t78_107 w_108 =>
 opK Tryd.prog E (xV (Instr.loadAt 47 t78_107)) w_108 fun t79_109 w_110 =>
 opK Tryd.prog E (xV (Instr.buildSlice 47 1 #[(0, t53_73)])) w_110 fun t81_111 w_112 =>
 opK Tryd.prog E (xBuiltin .append #[47, 47] 47 [false, false] [t79_109, t81_111]) w_112 fun t82_113 w_114 =>
 opK Tryd.prog E (xNil x0) w_114 fun t83_115 w_116 =>
 opK Tryd.prog E (xV (Instr.fieldAt 92 t83_115 5)) w_116 fun t84_117 w_118 =>
 opK Tryd.prog E (xU (Instr.storeAt 47 t84_117 t82_113)) w_118 fun _z_119 w_120 =>
 j1 [] w_120)
 (j1 [] w_104))
 (j1 [] w_76)))
noncomputable def c90 : Code := Tryd.f90.body.getD .skip
def h90 : Hint := (.seq .none (.seq (.seq .none (.seq .none (.cond (.seq .none (.seq .none .none)) .none))) (.seq (.seq .none (.cond (.seq .none (.seq .none .none)) .none)) (.seq .none (.seq .none (.cut [] (.seq .none (.seq .none (.cond (.seq .none (.seq .none (.cond .none .none))) .none))) (.seq .none .none)))))))
theorem F90_eq (x0 x1 x2 : Value) (w : World) (R : Value → World → Prop) (E : Pan) : F90 x0 x1 x2 w R E = callX Tryd.prog [.tmp 6] c90 h90 [x0, x1, x2] w R E := by kernel_rfl
theorem F90_ok {x0 x1 x2 : Value} {w : World} {R : Value → World → Prop} {E : Pan} (h : F90 x0 x1 x2 w R E) : Cv Tryd.prog 90 #[x0, x1, x2] w R E := by
 refine callX_sound (args := [x0, x1, x2]) (c := c90) (h := h90) (rs := [.tmp 6]) Tryd.func90 (by kernel_rfl) (by kernel_rfl) (Nat.le_of_ble_eq_true (by kernel_rfl)) (by kernel_rfl) (by kernel_rfl) (by kernel_rfl) ?_
 rw [← F90_eq]
 exact h

/- function 91: (*gnomon/gnomonref3.walk).node -/
def F91 (x0 x1 : Value) (w : World) (R : Value → World → Prop) (E : Pan) : Prop :=
 opK Tryd.prog E (xNil x0) w fun t6_1 w_2 =>
 opK Tryd.prog E (xV (Instr.fieldAt 99 t6_1 2)) w_2 fun t7_3 w_4 =>
 opK Tryd.prog E (xV (Instr.loadAt 3 t7_3)) w_4 fun t8_5 w_6 =>
 opK Tryd.prog E (xBin .neq 3 (.tmp 8) (.const (Value.int .i64 0)) t8_5 (Value.int .i64 0)) w_6 fun t9_7 w_8 =>
 xcond t9_7
 (R (Value.bool false) w_8)
 (opK Tryd.prog E (xNil x0) w_8 fun t11_9 w_10 =>
 opK Tryd.prog E (xV (Instr.fieldAt 99 t11_9 0)) w_10 fun t12_11 w_12 =>
 opK Tryd.prog E (xV (Instr.loadAt 3 t12_11)) w_12 fun t13_13 w_14 =>
 opK Tryd.prog E (xBin .eql 3 (.tmp 13) (.const (Value.int .i64 4096)) t13_13 (Value.int .i64 4096)) w_14 fun t14_15 w_16 =>
 xcond t14_15
 (opK Tryd.prog E (xNil x0) w_16 fun t16_17 w_18 =>
 opK Tryd.prog E (xV (Instr.fieldAt 99 t16_17 2)) w_18 fun t17_19 w_20 =>
 opK Tryd.prog E (xU (Instr.storeAt 3 t17_19 (Value.int .i64 33))) w_20 fun _z_21 w_22 =>
 R (Value.bool false) w_22)
 (opK Tryd.prog E (xBin .gtr 3 (.tmp 18) (.const (Value.int .i64 64)) x1 (Value.int .i64 64)) w_16 fun t19_23 w_24 =>
 xcond t19_23
 (opK Tryd.prog E (xNil x0) w_24 fun t21_25 w_26 =>
 opK Tryd.prog E (xV (Instr.fieldAt 99 t21_25 2)) w_26 fun t22_27 w_28 =>
 opK Tryd.prog E (xU (Instr.storeAt 3 t22_27 (Value.int .i64 32))) w_28 fun _z_29 w_30 =>
 R (Value.bool false) w_30)
 (opK Tryd.prog E (xNil x0) w_24 fun t24_31 w_32 =>
 opK Tryd.prog E (xV (Instr.fieldAt 99 t24_31 0)) w_32 fun t25_33 w_34 =>
 opK Tryd.prog E (xV (Instr.loadAt 3 t25_33)) w_34 fun t26_35 w_36 =>
 opK Tryd.prog E (xBin .add 3 (.tmp 26) (.const (Value.int .i64 1)) t26_35 (Value.int .i64 1)) w_36 fun t27_37 w_38 =>
 opK Tryd.prog E (xNil x0) w_38 fun t28_39 w_40 =>
 opK Tryd.prog E (xV (Instr.fieldAt 99 t28_39 0)) w_40 fun t29_41 w_42 =>
 opK Tryd.prog E (xU (Instr.storeAt 3 t29_41 t27_37)) w_42 fun _z_43 w_44 =>
 opK Tryd.prog E (xNil x0) w_44 fun t32_45 w_46 =>
 opK Tryd.prog E (xV (Instr.fieldAt 99 t32_45 1)) w_46 fun t33_47 w_48 =>
 opK Tryd.prog E (xV (Instr.loadAt 3 t33_47)) w_48 fun t34_49 w_50 =>
 opK Tryd.prog E (xBuiltin .max #[3, 3] 3 [false, false] [t34_49, x1]) w_50 fun t36_51 w_52 =>
 opK Tryd.prog E (xNil x0) w_52 fun t37_53 w_54 =>
 opK Tryd.prog E (xV (Instr.fieldAt 99 t37_53 1)) w_54 fun t38_55 w_56 =>
 opK Tryd.prog E (xU (Instr.storeAt 3 t38_55 t36_51)) w_56 fun _z_57 w_58 =>
 R (Value.bool true) w_58)))
noncomputable def c91 : Code := Tryd.f91.body.getD .skip
def h91 : Hint := (.seq .none (.seq (.seq .none (.cond (.seq .none .none) .none)) (.seq (.seq .none (.cond (.seq .none (.seq .none .none)) .none)) (.seq (.seq .none (.cond (.seq .none (.seq .none .none)) .none)) (.seq .none (.seq .none (.seq .none .none)))))))
theorem F91_eq (x0 x1 : Value) (w : World) (R : Value → World → Prop) (E : Pan) : F91 x0 x1 w R E = callX Tryd.prog [.tmp 4] c91 h91 [x0, x1] w R E := by kernel_rfl
theorem F91_ok {x0 x1 : Value} {w : World} {R : Value → World → Prop} {E : Pan} (h : F91 x0 x1 w R E) : Cv Tryd.prog 91 #[x0, x1] w R E := by
 refine callX_sound (args := [x0, x1]) (c := c91) (h := h91) (rs := [.tmp 4]) Tryd.func91 (by kernel_rfl) (by kernel_rfl) (Nat.le_of_ble_eq_true (by kernel_rfl)) (by kernel_rfl) (by kernel_rfl) (by kernel_rfl) ?_
 rw [← F91_eq]
 exact h

/- function 92: (*gnomon/gnomonref3.walk).stmt -/
def F92_l4 (x0 x2 x4 x9 : Value) (w : World) (next4 : List Value → World → Prop) (R : Value → World → Prop) (E : Pan) : Prop :=
 opK Tryd.prog E (xV (Instr.fieldAt 88 x4 5)) w fun t84_7 w_8 =>
 opK Tryd.prog E (xV (Instr.loadAt 23 t84_7)) w_8 fun t85_9 w_10 =>
 opK Tryd.prog E (xBuiltin .len #[23] 3 [false] [t85_9]) w_10 fun t86_11 w_12 =>
 opK Tryd.prog E (xBin .lss 3 (.tmp 83) (.tmp 86) x9 t86_11) w_12 fun t87_13 w_14 =>
 opK Tryd.prog E (gsem (asB t87_13) true (xNil (gval (asB t87_13) true x0))) w_14 fun t90_15 w_16 =>
 opK Tryd.prog E (gsem (asB t87_13) true (xV (Instr.fieldAt 99 t90_15 2))) w_16 fun t91_17 w_18 =>
 opK Tryd.prog E (gsem (asB t87_13) true (xV (Instr.loadAt 3 t91_17))) w_18 fun t92_19 w_20 =>
 opK Tryd.prog E (gsem (asB t87_13) true (xBin .eql 3 (.tmp 92) (.const (Value.int .i64 0)) t92_19 (Value.int .i64 0))) w_20 fun t93_21 w_22 =>
 opK Tryd.prog E (xPick t87_13 t93_21 (Value.bool false)) w_22 fun t94_23 w_24 =>
 xcond t94_23
 (opK Tryd.prog E (xV (Instr.fieldAt 88 x4 5)) w_24 fun t98_25 w_26 =>
 opK Tryd.prog E (xV (Instr.loadAt 23 t98_25)) w_26 fun t99_27 w_28 =>
 opK Tryd.prog E (xV (Instr.indexAt 23 t99_27 x9)) w_28 fun t101_29 w_30 =>
 opK Tryd.prog E (xV (Instr.loadAt 88 t101_29)) w_30 fun t102_31 w_32 =>
 opK Tryd.prog E (xBin .add 3 (.tmp 103) (.const (Value.int .i64 1)) x2 (Value.int .i64 1)) w_32 fun t104_33 w_34 =>
 opK Tryd.prog E (xCall (Value.func (.func 92) #[] #[]) [x0, t102_31, t104_33]) w_34 fun _t105_35 w_36 =>
 opK Tryd.prog E (xBin .add 3 (.tmp 95) (.const (Value.int .i64 1)) x9 (Value.int .i64 1)) w_36 fun t96_37 w_38 =>
 next4 [t96_37] w_38)
 (R (Value.tuple #[]) w_24)
def F92_j3 (x0 x2 x4 : Value) (w : World) (R : Value → World → Prop) (E : Pan) : Prop :=
 ∀ _τ : Fr, (xloop [9] [(Value.int .i64 0)] w fun τ_39 w_40 next4 =>
 F92_l4 x0 x2 x4 (τ_39 9) w_40 next4 R E)
def F92_l5 (x0 x2 x4 x8 : Value) (w : World) (next5 : List Value → World → Prop) (j3 : List Value → World → Prop) (_R : Value → World → Prop) (E : Pan) : Prop :=
 opK Tryd.prog E (xV (Instr.fieldAt 88 x4 4)) w fun t61_43 w_44 =>
 opK Tryd.prog E (xV (Instr.loadAt 23 t61_43)) w_44 fun t62_45 w_46 =>
 opK Tryd.prog E (xBuiltin .len #[23] 3 [false] [t62_45]) w_46 fun t63_47 w_48 =>
 opK Tryd.prog E (xBin .lss 3 (.tmp 60) (.tmp 63) x8 t63_47) w_48 fun t64_49 w_50 =>
 opK Tryd.prog E (gsem (asB t64_49) true (xNil (gval (asB t64_49) true x0))) w_50 fun t67_51 w_52 =>
 opK Tryd.prog E (gsem (asB t64_49) true (xV (Instr.fieldAt 99 t67_51 2))) w_52 fun t68_53 w_54 =>
 opK Tryd.prog E (gsem (asB t64_49) true (xV (Instr.loadAt 3 t68_53))) w_54 fun t69_55 w_56 =>
 opK Tryd.prog E (gsem (asB t64_49) true (xBin .eql 3 (.tmp 69) (.const (Value.int .i64 0)) t69_55 (Value.int .i64 0))) w_56 fun t70_57 w_58 =>
 opK Tryd.prog E (xPick t64_49 t70_57 (Value.bool false)) w_58 fun t71_59 w_60 =>
 xcond t71_59
 (opK Tryd.prog E (xV (Instr.fieldAt 88 x4 4)) w_60 fun t75_61 w_62 =>
 opK Tryd.prog E (xV (Instr.loadAt 23 t75_61)) w_62 fun t76_63 w_64 =>
 opK Tryd.prog E (xV (Instr.indexAt 23 t76_63 x8)) w_64 fun t78_65 w_66 =>
 opK Tryd.prog E (xV (Instr.loadAt 88 t78_65)) w_66 fun t79_67 w_68 =>
 opK Tryd.prog E (xBin .add 3 (.tmp 80) (.const (Value.int .i64 1)) x2 (Value.int .i64 1)) w_68 fun t81_69 w_70 =>
 opK Tryd.prog E (xCall (Value.func (.func 92) #[] #[]) [x0, t79_67, t81_69]) w_70 fun _t82_71 w_72 =>
 opK Tryd.prog E (xBin .add 3 (.tmp 72) (.const (Value.int .i64 1)) x8 (Value.int .i64 1)) w_72 fun t73_73 w_74 =>
 next5 [t73_73] w_74)
 (j3 [] w_60)
def F92_j2 (x0 x2 x4 : Value) (w : World) (R : Value → World → Prop) (E : Pan) : Prop :=
 ∀ _τ : Fr, (xcut (fun _ w_42 => F92_j3 x0 x2 x4 w_42 R E) fun j3 =>
 xloop [8] [(Value.int .i64 0)] w fun τ_75 w_76 next5 =>
 F92_l5 x0 x2 x4 (τ_75 8) w_76 next5 j3 R E)
def F92_l6 (x0 x2 x4 x7 : Value) (w : World) (next6 : List Value → World → Prop) (j2 : List Value → World → Prop) (_R : Value → World → Prop) (E : Pan) : Prop :=
 opK Tryd.prog E (xV (Instr.fieldAt 88 x4 2)) w fun t38_79 w_80 =>
 opK Tryd.prog E (xV (Instr.loadAt 28 t38_79)) w_80 fun t39_81 w_82 =>
 opK Tryd.prog E (xBuiltin .len #[28] 3 [false] [t39_81]) w_82 fun t40_83 w_84 =>
 opK Tryd.prog E (xBin .lss 3 (.tmp 37) (.tmp 40) x7 t40_83) w_84 fun t41_85 w_86 =>
 opK Tryd.prog E (gsem (asB t41_85) true (xNil (gval (asB t41_85) true x0))) w_86 fun t44_87 w_88 =>
 opK Tryd.prog E (gsem (asB t41_85) true (xV (Instr.fieldAt 99 t44_87 2))) w_88 fun t45_89 w_90 =>
 opK Tryd.prog E (gsem (asB t41_85) true (xV (Instr.loadAt 3 t45_89))) w_90 fun t46_91 w_92 =>
 opK Tryd.prog E (gsem (asB t41_85) true (xBin .eql 3 (.tmp 46) (.const (Value.int .i64 0)) t46_91 (Value.int .i64 0))) w_92 fun t47_93 w_94 =>
 opK Tryd.prog E (xPick t41_85 t47_93 (Value.bool false)) w_94 fun t48_95 w_96 =>
 xcond t48_95
 (opK Tryd.prog E (xV (Instr.fieldAt 88 x4 2)) w_96 fun t52_97 w_98 =>
 opK Tryd.prog E (xV (Instr.loadAt 28 t52_97)) w_98 fun t53_99 w_100 =>
 opK Tryd.prog E (xV (Instr.indexAt 28 t53_99 x7)) w_100 fun t55_101 w_102 =>
 opK Tryd.prog E (xV (Instr.loadAt 30 t55_101)) w_102 fun t56_103 w_104 =>
 opK Tryd.prog E (xBin .add 3 (.tmp 57) (.const (Value.int .i64 1)) x2 (Value.int .i64 1)) w_104 fun t58_105 w_106 =>
 opK Tryd.prog E (xCall (Value.func (.func 58) #[] #[]) [x0, t56_103, t58_105]) w_106 fun _t59_107 w_108 =>
 opK Tryd.prog E (xBin .add 3 (.tmp 49) (.const (Value.int .i64 1)) x7 (Value.int .i64 1)) w_108 fun t50_109 w_110 =>
 next6 [t50_109] w_110)
 (j2 [] w_96)
def F92_j1 (x0 x2 x4 : Value) (w : World) (R : Value → World → Prop) (E : Pan) : Prop :=
 ∀ _τ : Fr, (xcut (fun _ w_78 => F92_j2 x0 x2 x4 w_78 R E) fun j2 =>
 xloop [7] [(Value.int .i64 0)] w fun τ_111 w_112 next6 =>
 F92_l6 x0 x2 x4 (τ_111 7) w_112 next6 j2 R E)
def F92_l7 (x0 x2 x4 x6 : Value) (w : World) (next7 : List Value → World → Prop) (j1 : List Value → World → Prop) (_R : Value → World → Prop) (E : Pan) : Prop :=
 opK Tryd.prog E (xV (Instr.fieldAt 88 x4 3)) w fun t15_115 w_116 =>
 opK Tryd.prog E (xV (Instr.loadAt 31 t15_115)) w_116 fun t16_117 w_118 =>
 opK Tryd.prog E (xBuiltin .len #[31] 3 [false] [t16_117]) w_118 fun t17_119 w_120 =>
 opK Tryd.prog E (xBin .lss 3 (.tmp 14) (.tmp 17) x6 t17_119) w_120 fun t18_121 w_122 =>
 opK Tryd.prog E (gsem (asB t18_121) true (xNil (gval (asB t18_121) true x0))) w_122 fun t21_123 w_124 =>
 opK Tryd.prog E (gsem (asB t18_121) true (xV (Instr.fieldAt 99 t21_123 2))) w_124 fun t22_125 w_126 =>
 opK Tryd.prog E (gsem (asB t18_121) true (xV (Instr.loadAt 3 t22_125))) w_126 fun t23_127 w_128 =>
 opK Tryd.prog E (gsem (asB t18_121) true (xBin .eql 3 (.tmp 23) (.const (Value.int .i64 0)) t23_127 (Value.int .i64 0))) w_128 fun t24_129 w_130 =>
 opK Tryd.prog E (xPick t18_121 t24_129 (Value.bool false)) w_130 fun t25_131 w_132 =>
 xcond t25_131
 (opK Tryd.prog E (xV (Instr.fieldAt 88 x4 3)) w_132 fun t29_133 w_134 =>
 opK Tryd.prog E (xV (Instr.loadAt 31 t29_133)) w_134 fun t30_135 w_136 =>
 opK Tryd.prog E (xV (Instr.indexAt 31 t30_135 x6)) w_136 fun t32_137 w_138 =>
 opK Tryd.prog E (xV (Instr.loadAt 33 t32_137)) w_138 fun t33_139 w_140 =>
 opK Tryd.prog E (xBin .add 3 (.tmp 34) (.const (Value.int .i64 1)) x2 (Value.int .i64 1)) w_140 fun t35_141 w_142 =>
 opK Tryd.prog E (xCall (Value.func (.func 61) #[] #[]) [x0, t33_139, t35_141]) w_142 fun _t36_143 w_144 =>
 opK Tryd.prog E (xBin .add 3 (.tmp 26) (.const (Value.int .i64 1)) x6 (Value.int .i64 1)) w_144 fun t27_145 w_146 =>
 next7 [t27_145] w_146)
 (j1 [] w_132)
def F92 (x0 x1 x2 : Value) (w : World) (R : Value → World → Prop) (E : Pan) : Prop :=
 opK Tryd.prog E (xV (Instr.box 88 x1)) w fun t4_1 w_2 =>
 opK Tryd.prog E (xCall (Value.func (.func 91) #[] #[]) [x0, x2]) w_2 fun t12_3 w_4 =>
 opK Tryd.prog E (xV (Op.unary .not t12_3)) w_4 fun t13_5 w_6 =>
 xcond t13_5
 (R (Value.tuple #[]) w_6)
 (xcut (fun _ w_114 => F92_j1 x0 x2 t4_1 w_114 R E) fun j1 =>
 xloop [6] [(Value.int .i64 0)] w_6 fun τ_147 w_148 next7 =>
 F92_l7 x0 x2 t4_1 (τ_147 6) w_148 next7 j1 R E)
noncomputable def c92 : Code := Tryd.f92.body.getD .skip
def h92 : Hint := (.seq .none (.seq (.seq .none (.cond .none .none)) (.cut [] (.seq .none (.block (.loop [6] (.seq (.seq .none (.cond .none .none)) (.seq (.block .none) .none))))) (.cut [] (.seq .none (.block (.loop [7] (.seq (.seq .none (.cond .none .none)) (.seq (.block .none) .none))))) (.cut [] (.seq .none (.block (.loop [8] (.seq (.seq .none (.cond .none .none)) (.seq (.block .none) .none))))) (.seq .none (.block (.loop [9] (.seq (.seq .none (.cond .none .none)) (.seq (.block .none) .none))))))))))
theorem F92_eq (x0 x1 x2 : Value) (w : World) (R : Value → World → Prop) (E : Pan) : F92 x0 x1 x2 w R E = callX Tryd.prog [] c92 h92 [x0, x1, x2] w R E := by kernel_rfl
theorem F92_ok {x0 x1 x2 : Value} {w : World} {R : Value → World → Prop} {E : Pan} (h : F92 x0 x1 x2 w R E) : Cv Tryd.prog 92 #[x0, x1, x2] w R E := by
 refine callX_sound (args := [x0, x1, x2]) (c := c92) (h := h92) (rs := []) Tryd.func92 (by kernel_rfl) (by kernel_rfl) (Nat.le_of_ble_eq_true (by kernel_rfl)) (by kernel_rfl) (by kernel_rfl) (by kernel_rfl) ?_
 rw [← F92_eq]
 exact h

/- function 94: slices.Concat[[]gnomon/tree.node,gnomon/tree.node] -/
def F94_j2 (x6 : Value) (w : World) (R : Value → World → Prop) (_E : Pan) : Prop :=
 ∀ _τ : Fr, (R x6 w)
def F94_l3 (x6 x25 x26 x27 : Value) (w : World) (next3 : List Value → World → Prop) (j2 : List Value → World → Prop) (_R : Value → World → Prop) (E : Pan) : Prop :=
 opK Tryd.prog E (xBin .lss 3 (.tmp 27) (.tmp 26) x27 x26) w fun t28_7 w_8 =>
 xcond t28_7
 (opK Tryd.prog E (xV (Instr.indexAt 172 x25 x27)) w_8 fun t29_9 w_10 =>
 opK Tryd.prog E (xV (Instr.loadAt 97 t29_9)) w_10 fun t30_11 w_12 =>
 opK Tryd.prog E (xBuiltin .append #[97, 97] 97 [false, false] [x6, t30_11]) w_12 fun t33_13 w_14 =>
 opK Tryd.prog E (xBin .add 3 (.tmp 27) (.const (Value.int .i64 1)) x27 (Value.int .i64 1)) w_14 fun t34_15 w_16 =>
 next3 [t33_13, t34_15] w_16)
 (j2 [x6] w_8)
def F94_j1 (x0 x3 : Value) (w : World) (R : Value → World → Prop) (E : Pan) : Prop :=
 ∀ _τ : Fr, (opK Tryd.prog E (xCall (Value.func (.func 120) #[] #[]) [(Value.slice none 0 0), x3]) w fun t24_1 w_2 =>
 xcut (fun l_3 w_4 => F94_j2 (nth l_3 0) w_4 R E) fun j2 =>
 opK Tryd.prog E (xBuiltin .len #[172] 3 [false] [x0]) w_2 fun t26_5 w_6 =>
 xloop [6, 27] [t24_1, (Value.int .i64 0)] w_6 fun τ_17 w_18 next3 =>
 F94_l3 (τ_17 6) x0 t26_5 (τ_17 27) w_18 next3 j2 R E)
def F94_j5 (_x0 x3 _x9 _x10 x11 : Value) (w : World) (next4 : List Value → World → Prop) (_R : Value → World → Prop) (E : Pan) : Prop :=
 ∀ _τ : Fr, (opK Tryd.prog E (xBin .add 3 (.tmp 11) (.const (Value.int .i64 1)) x11 (Value.int .i64 1)) w fun t22_25 w_26 =>
 next4 [x3, t22_25] w_26)
def F94_l4 (x0 x3 x9 x10 x11 : Value) (w : World) (next4 : List Value → World → Prop) (j1 : List Value → World → Prop) (R : Value → World → Prop) (E : Pan) : Prop :=
 opK Tryd.prog E (xBin .lss 3 (.tmp 11) (.tmp 10) x11 x10) w fun t12_23 w_24 =>
 xcond t12_23
 (xcut (fun l_27 w_28 => F94_j5 x0 (nth l_27 0) x9 x10 x11 w_28 next4 R E) fun j5 =>
 opK Tryd.prog E (xV (Instr.indexAt 172 x9 x11)) w_24 fun t13_29 w_30 =>
 opK Tryd.prog E (xV (Instr.loadAt 97 t13_29)) w_30 fun t14_31 w_32 =>
 opK Tryd.prog E (xBuiltin .len #[97] 3 [false] [t14_31]) w_32 fun t17_33 w_34 =>
 opK Tryd.prog E (xBin .add 3 (.tmp 15) (.tmp 17) x3 t17_33) w_34 fun t18_35 w_36 =>
 opK Tryd.prog E (xBin .lss 3 (.tmp 19) (.const (Value.int .i64 0)) t18_35 (Value.int .i64 0)) w_36 fun t20_37 w_38 =>
 xcond t20_37
 (opK Tryd.prog E (xV (Instr.makeInterface 9 (Value.string ⟨#[108, 101, 110, 32, 111, 117, 116, 32, 111, 102, 32, 114, 97, 110, 103, 101]⟩))) w_38 fun t21_39 w_40 =>
 opK Tryd.prog E (xV (Instr.panic t21_39)) w_40 fun _z_41 w_42 =>
 j5 [t18_35] w_42)
 (j5 [t18_35] w_38))
 (j1 [x3] w_24)
def F94 (x0 : Value) (w : World) (R : Value → World → Prop) (E : Pan) : Prop :=
 xcut (fun l_19 w_20 => F94_j1 x0 (nth l_19 0) w_20 R E) fun j1 =>
 opK Tryd.prog E (xBuiltin .len #[172] 3 [false] [x0]) w fun t10_21 w_22 =>
 xloop [3, 11] [(Value.int .i64 0), (Value.int .i64 0)] w_22 fun τ_43 w_44 next4 =>
 F94_l4 x0 (τ_43 3) x0 t10_21 (τ_43 11) w_44 next4 j1 R E
noncomputable def c94 : Code := Tryd.f94.body.getD .skip
def h94 : Hint := (.seq .none (.seq .none (.cut [3] (.seq .none (.block (.loop [3, 11] (.seq .none (.seq (.cond .none .none) (.cut [3] (.block (.seq .none (.seq .none (.seq .none (.cond .none .none))))) .none)))))) (.seq .none (.cut [6] (.seq .none (.block (.loop [6, 27] (.seq .none (.seq (.cond .none .none) (.seq (.block (.seq .none .none)) .none)))))) (.seq .none .none))))))
theorem F94_eq (x0 : Value) (w : World) (R : Value → World → Prop) (E : Pan) : F94 x0 w R E = callX Tryd.prog [.tmp 2] c94 h94 [x0] w R E := by kernel_rfl
theorem F94_ok {x0 : Value} {w : World} {R : Value → World → Prop} {E : Pan} (h : F94 x0 w R E) : Cv Tryd.prog 94 #[x0] w R E := by
 refine callX_sound (args := [x0]) (c := c94) (h := h94) (rs := [.tmp 2]) Tryd.func94 (by kernel_rfl) (by kernel_rfl) (Nat.le_of_ble_eq_true (by kernel_rfl)) (by kernel_rfl) (by kernel_rfl) (by kernel_rfl) ?_
 rw [← F94_eq]
 exact h

/- function 95: gnomon/tree.each[gnomon/api.Decl] -/
def F95_j1 (x5 : Value) (w : World) (R : Value → World → Prop) (_E : Pan) : Prop :=
 ∀ _τ : Fr, (R x5 w)
def F95_l2 (x1 x5 x8 x9 x10 : Value) (w : World) (next2 : List Value → World → Prop) (j1 : List Value → World → Prop) (_R : Value → World → Prop) (E : Pan) : Prop :=
 opK Tryd.prog E (xBin .lss 3 (.tmp 10) (.tmp 9) x10 x9) w fun t11_5 w_6 =>
 xcond t11_5
 (opK Tryd.prog E (xV (Instr.indexAt 22 x8 x10)) w_6 fun t12_7 w_8 =>
 opK Tryd.prog E (xV (Instr.loadAt 67 t12_7)) w_8 fun t13_9 w_10 =>
 opK Tryd.prog E (xV (Instr.alloc 67 true (.tuple #[]))) w_10 fun t7_11 w_12 =>
 opK Tryd.prog E (xU (Instr.storeAt 67 t7_11 t13_9)) w_12 fun _z_13 w_14 =>
 opK Tryd.prog E (xV (Instr.loadAt 67 t7_11)) w_14 fun t16_15 w_16 =>
 opK Tryd.prog E (xCall x1 [t16_15]) w_16 fun t17_17 w_18 =>
 opK Tryd.prog E (xV (Instr.buildSlice 97 1 #[(0, t17_17)])) w_18 fun t18_19 w_20 =>
 opK Tryd.prog E (xBuiltin .append #[97, 97] 97 [false, false] [x5, t18_19]) w_20 fun t19_21 w_22 =>
 opK Tryd.prog E (xBin .add 3 (.tmp 10) (.const (Value.int .i64 1)) x10 (Value.int .i64 1)) w_22 fun t20_23 w_24 =>
 next2 [t19_21, t20_23] w_24)
 (j1 [x5] w_6)
def F95 (x0 x1 : Value) (w : World) (R : Value → World → Prop) (E : Pan) : Prop :=
 xcut (fun l_1 w_2 => F95_j1 (nth l_1 0) w_2 R E) fun j1 =>
 opK Tryd.prog E (xBuiltin .len #[22] 3 [false] [x0]) w fun t9_3 w_4 =>
 xloop [5, 10] [(Value.slice none 0 0), (Value.int .i64 0)] w_4 fun τ_25 w_26 next2 =>
 F95_l2 x1 (τ_25 5) x0 t9_3 (τ_25 10) w_26 next2 j1 R E
noncomputable def c95 : Code := Tryd.f95.body.getD .skip
def h95 : Hint := (.seq .none (.seq .none (.cut [5] (.seq .none (.block (.loop [5, 10] (.seq .none (.seq (.cond .none .none) (.seq (.block (.seq .none .none)) .none)))))) (.seq .none .none))))
theorem F95_eq (x0 x1 : Value) (w : World) (R : Value → World → Prop) (E : Pan) : F95 x0 x1 w R E = callX Tryd.prog [.tmp 4] c95 h95 [x0, x1] w R E := by kernel_rfl
theorem F95_ok {x0 x1 : Value} {w : World} {R : Value → World → Prop} {E : Pan} (h : F95 x0 x1 w R E) : Cv Tryd.prog 95 #[x0, x1] w R E := by
 refine callX_sound (args := [x0, x1]) (c := c95) (h := h95) (rs := [.tmp 4]) Tryd.func95 (by kernel_rfl) (by kernel_rfl) (Nat.le_of_ble_eq_true (by kernel_rfl)) (by kernel_rfl) (by kernel_rfl) (by kernel_rfl) ?_
 rw [← F95_eq]
 exact h

/- function 96: gnomon/tree.declOf -/
def F96 (x0 : Value) (w : World) (R : Value → World → Prop) (E : Pan) : Prop :=
 opK Tryd.prog E (xV (Instr.box 67 x0)) w fun t1_1 w_2 =>
 opK Tryd.prog E (xV (Instr.loadAt 67 t1_1)) w_2 fun t3_3 w_4 =>
 opK Tryd.prog E (xV (Instr.build 175 #[(0, t3_3)])) w_4 fun t4_5 w_6 =>
 opK Tryd.prog E (xV (Instr.makeInterface 175 t4_5)) w_6 fun t5_7 w_8 =>
 R t5_7 w_8
noncomputable def c96 : Code := Tryd.f96.body.getD .skip
def h96 : Hint := (.seq .none (.seq .none .none))
theorem F96_eq (x0 : Value) (w : World) (R : Value → World → Prop) (E : Pan) : F96 x0 w R E = callX Tryd.prog [.tmp 2] c96 h96 [x0] w R E := by kernel_rfl
theorem F96_ok {x0 : Value} {w : World} {R : Value → World → Prop} {E : Pan} (h : F96 x0 w R E) : Cv Tryd.prog 96 #[x0] w R E := by
 refine callX_sound (args := [x0]) (c := c96) (h := h96) (rs := [.tmp 2]) Tryd.func96 (by kernel_rfl) (by kernel_rfl) (Nat.le_of_ble_eq_true (by kernel_rfl)) (by kernel_rfl) (by kernel_rfl) (by kernel_rfl) ?_
 rw [← F96_eq]
 exact h

/- function 97: gnomon/tree.each[gnomon/api.Stmt] -/
def F97_j1 (x5 : Value) (w : World) (R : Value → World → Prop) (_E : Pan) : Prop :=
 ∀ _τ : Fr, (R x5 w)
def F97_l2 (x1 x5 x8 x9 x10 : Value) (w : World) (next2 : List Value → World → Prop) (j1 : List Value → World → Prop) (_R : Value → World → Prop) (E : Pan) : Prop :=
 opK Tryd.prog E (xBin .lss 3 (.tmp 10) (.tmp 9) x10 x9) w fun t11_5 w_6 =>
 xcond t11_5
 (opK Tryd.prog E (xV (Instr.indexAt 23 x8 x10)) w_6 fun t12_7 w_8 =>
 opK Tryd.prog E (xV (Instr.loadAt 88 t12_7)) w_8 fun t13_9 w_10 =>
 opK Tryd.prog E (xV (Instr.alloc 88 true (.tuple #[]))) w_10 fun t7_11 w_12 =>
 opK Tryd.prog E (xU (Instr.storeAt 88 t7_11 t13_9)) w_12 fun _z_13 w_14 =>
 opK Tryd.prog E (xV (Instr.loadAt 88 t7_11)) w_14 fun t16_15 w_16 =>
 opK Tryd.prog E (xCall x1 [t16_15]) w_16 fun t17_17 w_18 =>
 opK Tryd.prog E (xV (Instr.buildSlice 97 1 #[(0, t17_17)])) w_18 fun t18_19 w_20 =>
 opK Tryd.prog E (xBuiltin .append #[97, 97] 97 [false, false] [x5, t18_19]) w_20 fun t19_21 w_22 =>
 opK Tryd.prog E (xBin .add 3 (.tmp 10) (.const (Value.int .i64 1)) x10 (Value.int .i64 1)) w_22 fun t20_23 w_24 =>
 next2 [t19_21, t20_23] w_24)
 (j1 [x5] w_6)
def F97 (x0 x1 : Value) (w : World) (R : Value → World → Prop) (E : Pan) : Prop :=
 xcut (fun l_1 w_2 => F97_j1 (nth l_1 0) w_2 R E) fun j1 =>
 opK Tryd.prog E (xBuiltin .len #[23] 3 [false] [x0]) w fun t9_3 w_4 =>
 xloop [5, 10] [(Value.slice none 0 0), (Value.int .i64 0)] w_4 fun τ_25 w_26 next2 =>
 F97_l2 x1 (τ_25 5) x0 t9_3 (τ_25 10) w_26 next2 j1 R E
noncomputable def c97 : Code := Tryd.f97.body.getD .skip
def h97 : Hint := (.seq .none (.seq .none (.cut [5] (.seq .none (.block (.loop [5, 10] (.seq .none (.seq (.cond .none .none) (.seq (.block (.seq .none .none)) .none)))))) (.seq .none .none))))
theorem F97_eq (x0 x1 : Value) (w : World) (R : Value → World → Prop) (E : Pan) : F97 x0 x1 w R E = callX Tryd.prog [.tmp 4] c97 h97 [x0, x1] w R E := by kernel_rfl
theorem F97_ok {x0 x1 : Value} {w : World} {R : Value → World → Prop} {E : Pan} (h : F97 x0 x1 w R E) : Cv Tryd.prog 97 #[x0, x1] w R E := by
 refine callX_sound (args := [x0, x1]) (c := c97) (h := h97) (rs := [.tmp 4]) Tryd.func97 (by kernel_rfl) (by kernel_rfl) (Nat.le_of_ble_eq_true (by kernel_rfl)) (by kernel_rfl) (by kernel_rfl) (by kernel_rfl) ?_
 rw [← F97_eq]
 exact h

/- function 98: gnomon/tree.stmtOf -/
def F98 (x0 : Value) (w : World) (R : Value → World → Prop) (E : Pan) : Prop :=
 opK Tryd.prog E (xV (Instr.box 88 x0)) w fun t1_1 w_2 =>
 opK Tryd.prog E (xV (Instr.loadAt 88 t1_1)) w_2 fun t3_3 w_4 =>
 opK Tryd.prog E (xV (Instr.build 177 #[(0, t3_3)])) w_4 fun t4_5 w_6 =>
 opK Tryd.prog E (xV (Instr.makeInterface 177 t4_5)) w_6 fun t5_7 w_8 =>
 R t5_7 w_8
noncomputable def c98 : Code := Tryd.f98.body.getD .skip
def h98 : Hint := (.seq .none (.seq .none .none))
theorem F98_eq (x0 : Value) (w : World) (R : Value → World → Prop) (E : Pan) : F98 x0 w R E = callX Tryd.prog [.tmp 2] c98 h98 [x0] w R E := by kernel_rfl
theorem F98_ok {x0 : Value} {w : World} {R : Value → World → Prop} {E : Pan} (h : F98 x0 w R E) : Cv Tryd.prog 98 #[x0] w R E := by
 refine callX_sound (args := [x0]) (c := c98) (h := h98) (rs := [.tmp 2]) Tryd.func98 (by kernel_rfl) (by kernel_rfl) (Nat.le_of_ble_eq_true (by kernel_rfl)) (by kernel_rfl) (by kernel_rfl) (by kernel_rfl) ?_
 rw [← F98_eq]
 exact h

/- function 114: gnomon/tree.name -/
def F114 (x0 : Value) (w : World) (R : Value → World → Prop) (E : Pan) : Prop :=
 opK Tryd.prog E (xV (Instr.typeAssert x0 141 175 true)) w fun t8_1 w_2 =>
 opK Tryd.prog E (xV (Instr.extract t8_1 1)) w_2 fun t9_3 w_4 =>
 opK Tryd.prog E (xV (Instr.extract t8_1 0)) w_4 fun t10_5 w_6 =>
 xcond t9_3
 (opK Tryd.prog E (xV (Instr.alloc 175 true (.tuple #[]))) w_6 fun t4_7 w_8 =>
 opK Tryd.prog E (xU (Instr.storeAt 175 t4_7 t10_5)) w_8 fun _z_9 w_10 =>
 opK Tryd.prog E (xV (Instr.fieldAt 175 t4_7 0)) w_10 fun t11_11 w_12 =>
 opK Tryd.prog E (xV (Instr.fieldAt 67 t11_11 0)) w_12 fun t12_13 w_14 =>
 opK Tryd.prog E (xV (Instr.loadAt 9 t12_13)) w_14 fun t13_15 w_16 =>
 R (Value.tuple #[t13_15, (Value.bool true)]) w_16)
 (opK Tryd.prog E (xV (Instr.typeAssert x0 141 177 true)) w_6 fun t14_17 w_18 =>
 opK Tryd.prog E (xV (Instr.extract t14_17 1)) w_18 fun t15_19 w_20 =>
 opK Tryd.prog E (xV (Instr.extract t14_17 0)) w_20 fun t16_21 w_22 =>
 xcond t15_19
 (opK Tryd.prog E (xV (Instr.alloc 177 true (.tuple #[]))) w_22 fun t5_23 w_24 =>
 opK Tryd.prog E (xU (Instr.storeAt 177 t5_23 t16_21)) w_24 fun _z_25 w_26 =>
 dX w_26 fun w_27 =>
 qP Tryd.prog (xV (Instr.fieldAt 177 t5_23 0)) fun t17_28 =>
 qP Tryd.prog (xV (Instr.fieldAt 88 t17_28 1)) fun t18_29 =>
 qP Tryd.prog (xV (Instr.fieldAt 177 t5_23 0)) fun t20_30 =>
 qP Tryd.prog (xV (Instr.fieldAt 88 t20_30 0)) fun t21_31 =>
 qL Tryd.prog w_27 (blk t18_29) (xV (Instr.loadAt 9 t18_29)) fun t19_32 =>
 qL Tryd.prog w_27 (blk t21_31) (xV (Instr.loadAt 3 t21_31)) fun t22_33 =>
 qP Tryd.prog (xBin .eql 3 (.tmp 22) (.const (Value.int .i64 1)) t22_33 (Value.int .i64 1)) fun t23_34 =>
 qP Tryd.prog (gsem (asB t23_34) false (xV (Instr.fieldAt 177 t5_23 0))) fun t25_35 =>
 qP Tryd.prog (gsem (asB t23_34) false (xV (Instr.fieldAt 88 t25_35 0))) fun t26_36 =>
 qL Tryd.prog w_27 (blk t26_36) (gsem (asB t23_34) false (xV (Instr.loadAt 3 t26_36))) fun t27_37 =>
 qP Tryd.prog (gsem (asB t23_34) false (xBin .eql 3 (.tmp 27) (.const (Value.int .i64 2)) t27_37 (Value.int .i64 2))) fun t28_38 =>
 qP Tryd.prog (xPick t23_34 (Value.bool true) t28_38) fun t29_39 =>
 R (Value.tuple #[t19_32, t29_39]) w_27)
 (opK Tryd.prog E (xV (Instr.typeAssert x0 141 96 true)) w_22 fun t30_40 w_41 =>
 opK Tryd.prog E (xV (Instr.extract t30_40 1)) w_41 fun t31_42 w_43 =>
 opK Tryd.prog E (xV (Instr.extract t30_40 0)) w_43 fun t32_44 w_45 =>
 xcond t31_42
 (opK Tryd.prog E (xV (Instr.alloc 96 true (.tuple #[]))) w_45 fun t6_46 w_47 =>
 opK Tryd.prog E (xU (Instr.storeAt 96 t6_46 t32_44)) w_47 fun _z_48 w_49 =>
 dX w_49 fun w_50 =>
 qP Tryd.prog (xV (Instr.fieldAt 96 t6_46 0)) fun t33_51 =>
 qP Tryd.prog (xV (Instr.fieldAt 30 t33_51 2)) fun t34_52 =>
 qP Tryd.prog (xV (Instr.fieldAt 96 t6_46 0)) fun t36_53 =>
 qP Tryd.prog (xV (Instr.fieldAt 30 t36_53 0)) fun t37_54 =>
 qL Tryd.prog w_50 (blk t34_52) (xV (Instr.loadAt 9 t34_52)) fun t35_55 =>
 qL Tryd.prog w_50 (blk t37_54) (xV (Instr.loadAt 3 t37_54)) fun t38_56 =>
 qP Tryd.prog (xBin .eql 3 (.tmp 38) (.const (Value.int .i64 2)) t38_56 (Value.int .i64 2)) fun t39_57 =>
 qP Tryd.prog (gsem (asB t39_57) false (xV (Instr.fieldAt 96 t6_46 0))) fun t41_58 =>
 qP Tryd.prog (gsem (asB t39_57) false (xV (Instr.fieldAt 30 t41_58 0))) fun t42_59 =>
 qL Tryd.prog w_50 (blk t42_59) (gsem (asB t39_57) false (xV (Instr.loadAt 3 t42_59))) fun t43_60 =>
 qP Tryd.prog (gsem (asB t39_57) false (xBin .eql 3 (.tmp 43) (.const (Value.int .i64 4)) t43_60 (Value.int .i64 4))) fun t44_61 =>
 qP Tryd.prog (xPick t39_57 (Value.bool true) t44_61) fun t45_62 =>
 R (Value.tuple #[t35_55, t45_62]) w_50)
 (R (Value.tuple #[(Value.string ⟨#[]⟩), (Value.bool false)]) w_45)))
noncomputable def c114 : Code := Tryd.f114.body.getD .skip
def h114 : Hint := (.seq .none (.seq (.seq .none (.block (.seq .none (.cond (.seq .none (.seq .none .none)) (.seq .none (.cond (.seq .none (.seq (.reg [(0, 131072, 32), (1, 262144, 131072), (2, 524288, 262144), (0, 1048576, 32), (8, 2097152, 1048576), (16, 4194304, 2097152), (32, 8388608, 4194304), (64, 16777216, 8388608), (128, 33554432, 16777248), (384, 67108864, 50331648), (640, 134217728, 83886080), (1152, 268435456, 150994944), (2176, 536870912, 285212672), (135, 4, 524288), (16383, 8, 536870912)] [1060, 1060, 1056, 1060, 1060, 1028, 1060, 1060, 1060, 1060, 36, 1060, 1060, 1060, 1060] (.early 0 (.early 1 (.early 3 (.early 4 (.load 2 (.load 5 (.early 6 (.early 7 (.early 8 (.early 9 (.early 13 (.load 10 (.early 11 (.early 12 (.early 14 .done)))))))))))))))) .none)) (.seq .none (.cond (.seq .none (.seq (.reg [(0, 8589934592, 64), (1, 17179869184, 8589934592), (2, 34359738368, 17179869184), (0, 68719476736, 64), (8, 137438953472, 68719476736), (16, 274877906944, 137438953472), (32, 549755813888, 274877906944), (64, 1099511627776, 549755813888), (128, 2199023255552, 1099511627840), (384, 4398046511104, 3298534883328), (640, 8796093022208, 5497558138880), (1152, 17592186044416, 9895604649984), (2176, 35184372088832, 18691697672192), (135, 4, 34359738368), (16383, 8, 35184372088832)] [1060, 1060, 1056, 1060, 1060, 1028, 1060, 1060, 1060, 1060, 36, 1060, 1060, 1060, 1060] (.early 0 (.early 1 (.early 3 (.early 4 (.load 2 (.load 5 (.early 6 (.early 7 (.early 8 (.early 9 (.early 13 (.load 10 (.early 11 (.early 12 (.early 14 .done)))))))))))))))) .none)) .none)))))))) (.seq .none .none)))
theorem F114_eq (x0 : Value) (w : World) (R : Value → World → Prop) (E : Pan) : F114 x0 w R E = callX Tryd.prog [.tmp 2, .tmp 3] c114 h114 [x0] w R E := by kernel_rfl
theorem F114_ok {x0 : Value} {w : World} {R : Value → World → Prop} {E : Pan} (h : F114 x0 w R E) : Cv Tryd.prog 114 #[x0] w R E := by
 refine callX_sound (args := [x0]) (c := c114) (h := h114) (rs := [.tmp 2, .tmp 3]) Tryd.func114 (by kernel_rfl) (by kernel_rfl) (Nat.le_of_ble_eq_true (by kernel_rfl)) (by kernel_rfl) (by kernel_rfl) (by kernel_rfl) ?_
 rw [← F114_eq]
 exact h

/- function 115: gnomon/lex.Name -/
def F115_j1 (w : World) (R : Value → World → Prop) (_E : Pan) : Prop :=
 ∀ _τ : Fr, (R (Value.bool true) w)
def F115_l2 (x21 : Value) (w : World) (next2 : List Value → World → Prop) (j1 : List Value → World → Prop) (R : Value → World → Prop) (E : Pan) : Prop :=
 opK Tryd.prog E (xV (Instr.next x21 true 0)) w fun t22_21 w_22 =>
 opK Tryd.prog E (xV (Instr.extract t22_21 0)) w_22 fun t23_23 w_24 =>
 xcond t23_23
 (opK Tryd.prog E (xV (Instr.extract t22_21 1)) w_24 fun t24_25 w_26 =>
 opK Tryd.prog E (xV (Instr.extract t22_21 2)) w_26 fun t25_27 w_28 =>
 opK Tryd.prog E (xCall (Value.func (.func 125) #[] #[]) [t25_27]) w_28 fun t27_29 w_30 =>
 opK Tryd.prog E (xV (Op.unary .not t27_29)) w_30 fun t28_31 w_32 =>
 opK Tryd.prog E (gsem (asB t28_31) false (xBin .eql 3 (.tmp 30) (.const (Value.int .i64 0)) (gval (asB t28_31) false t24_25) (Value.int .i64 0))) w_32 fun t31_33 w_34 =>
 opK Tryd.prog E (gsem (asB (gval (asB t28_31) false t31_33)) true (xCall (Value.func (.func 126) #[] #[]) [(gval (asB (gval (asB t28_31) false t31_33)) true t25_27)])) w_34 fun t34_35 w_36 =>
 opK Tryd.prog E (gsem (asB (gval (asB t28_31) false t31_33)) true (xBin .neq 3 (.tmp 34) (.const (Value.int .i64 3)) t34_35 (Value.int .i64 3))) w_36 fun t35_37 w_38 =>
 opK Tryd.prog E (gsem (asB t28_31) false (xPick (gval (asB t28_31) false t31_33) t35_37 (Value.bool false))) w_38 fun t36_39 w_40 =>
 opK Tryd.prog E (xPick t28_31 (Value.bool true) t36_39) w_40 fun t37_41 w_42 =>
 xcond t37_41
 (R (Value.bool false) w_42)
 (next2 [] w_42))
 (j1 [] w_24)
def F115 (x0 : Value) (w : World) (R : Value → World → Prop) (E : Pan) : Prop :=
 opK Tryd.prog E (xBin .eql 9 (.tmp 5) (.const (Value.string ⟨#[]⟩)) x0 (Value.string ⟨#[]⟩)) w fun t6_1 w_2 =>
 opK Tryd.prog E (gsem (asB t6_1) false (xCall (Value.func (.func 122) #[] #[]) [(gval (asB t6_1) false x0)])) w_2 fun t9_3 w_4 =>
 opK Tryd.prog E (gsem (asB t6_1) false (xV (Op.unary .not t9_3))) w_4 fun t10_5 w_6 =>
 opK Tryd.prog E (xPick t6_1 (Value.bool true) t10_5) w_6 fun t11_7 w_8 =>
 opK Tryd.prog E (gsem (asB t11_7) false (xCall (Value.func (.func 123) #[] #[]) [(gval (asB t11_7) false x0)])) w_8 fun t14_9 w_10 =>
 opK Tryd.prog E (xPick t11_7 (Value.bool true) t14_9) w_10 fun t15_11 w_12 =>
 opK Tryd.prog E (gsem (asB t15_11) false (xCall (Value.func (.func 124) #[] #[]) [(gval (asB t15_11) false x0)])) w_12 fun t18_13 w_14 =>
 opK Tryd.prog E (xPick t15_11 (Value.bool true) t18_13) w_14 fun t19_15 w_16 =>
 xcond t19_15
 (R (Value.bool false) w_16)
 (xcut (fun _ w_18 => F115_j1 w_18 R E) fun j1 =>
 opK Tryd.prog E (xV (Instr.range 9 x0)) w_16 fun t21_19 w_20 =>
 xloop [] [] w_20 fun _ w_44 next2 =>
 F115_l2 t21_19 w_44 next2 j1 R E)
noncomputable def c115 : Code := Tryd.f115.body.getD .skip
def h115 : Hint := (.seq .none (.seq (.seq .none (.cond (.seq .none .none) .none)) (.cut [] (.seq .none (.block (.loop [] (.seq .none (.seq (.cond .none .none) (.block (.seq .none (.seq .none (.cond (.seq .none .none) .none))))))))) (.seq .none .none))))
theorem F115_eq (x0 : Value) (w : World) (R : Value → World → Prop) (E : Pan) : F115 x0 w R E = callX Tryd.prog [.tmp 2] c115 h115 [x0] w R E := by kernel_rfl
theorem F115_ok {x0 : Value} {w : World} {R : Value → World → Prop} {E : Pan} (h : F115 x0 w R E) : Cv Tryd.prog 115 #[x0] w R E := by
 refine callX_sound (args := [x0]) (c := c115) (h := h115) (rs := [.tmp 2]) Tryd.func115 (by kernel_rfl) (by kernel_rfl) (Nat.le_of_ble_eq_true (by kernel_rfl)) (by kernel_rfl) (by kernel_rfl) (by kernel_rfl) ?_
 rw [← F115_eq]
 exact h

/- function 116: slices.Contains[[]string,string] -/
def F116 (x0 x1 : Value) (w : World) (R : Value → World → Prop) (E : Pan) : Prop :=
 opK Tryd.prog E (xCall (Value.func (.func 127) #[] #[]) [x0, x1]) w fun t7_1 w_2 =>
 opK Tryd.prog E (xBin .geq 3 (.tmp 7) (.const (Value.int .i64 0)) t7_1 (Value.int .i64 0)) w_2 fun t8_3 w_4 =>
 R t8_3 w_4
noncomputable def c116 : Code := Tryd.f116.body.getD .skip
def h116 : Hint := (.seq .none (.seq .none .none))
theorem F116_eq (x0 x1 : Value) (w : World) (R : Value → World → Prop) (E : Pan) : F116 x0 x1 w R E = callX Tryd.prog [.tmp 4] c116 h116 [x0, x1] w R E := by kernel_rfl
theorem F116_ok {x0 x1 : Value} {w : World} {R : Value → World → Prop} {E : Pan} (h : F116 x0 x1 w R E) : Cv Tryd.prog 116 #[x0, x1] w R E := by
 refine callX_sound (args := [x0, x1]) (c := c116) (h := h116) (rs := [.tmp 4]) Tryd.func116 (by kernel_rfl) (by kernel_rfl) (Nat.le_of_ble_eq_true (by kernel_rfl)) (by kernel_rfl) (by kernel_rfl) (by kernel_rfl) ?_
 rw [← F116_eq]
 exact h

/- function 120: slices.Grow[[]gnomon/tree.node,gnomon/tree.node] -/
def F120_j2 (x0 : Value) (w : World) (R : Value → World → Prop) (_E : Pan) : Prop :=
 ∀ _τ : Fr, (R x0 w)
def F120_j1 (x0 x1 : Value) (w : World) (R : Value → World → Prop) (E : Pan) : Prop :=
 ∀ _τ : Fr, (xcut (fun l_1 w_2 => F120_j2 (nth l_1 0) w_2 R E) fun j2 =>
 opK Tryd.prog E (xBuiltin .cap #[97] 3 [false] [x0]) w fun t10_3 w_4 =>
 opK Tryd.prog E (xBuiltin .len #[97] 3 [false] [x0]) w_4 fun t12_5 w_6 =>
 opK Tryd.prog E (xBin .sub 3 (.tmp 10) (.tmp 12) t10_3 t12_5) w_6 fun t13_7 w_8 =>
 opK Tryd.prog E (xBin .sub 3 (.tmp 8) (.tmp 13) x1 t13_7) w_8 fun t14_9 w_10 =>
 opK Tryd.prog E (xBin .gtr 3 (.tmp 15) (.const (Value.int .i64 0)) t14_9 (Value.int .i64 0)) w_10 fun t16_11 w_12 =>
 xcond t16_11
 (opK Tryd.prog E (xBuiltin .cap #[97] 3 [false] [x0]) w_12 fun t19_13 w_14 =>
 opK Tryd.prog E (xV (Instr.sliceAt 97 x0 none (some t19_13) none)) w_14 fun t20_15 w_16 =>
 opK Tryd.prog E (xBuiltin .append #[97, 3] 97 [false, false] [t20_15, t14_9]) w_16 fun t22_17 w_18 =>
 opK Tryd.prog E (xBuiltin .len #[97] 3 [false] [x0]) w_18 fun t24_19 w_20 =>
 opK Tryd.prog E (xV (Instr.sliceAt 97 t22_17 none (some t24_19) none)) w_20 fun t25_21 w_22 =>
 j2 [t25_21] w_22)
 (j2 [x0] w_12))
def F120 (x0 x1 : Value) (w : World) (R : Value → World → Prop) (E : Pan) : Prop :=
 xcut (fun _ w_24 => F120_j1 x0 x1 w_24 R E) fun j1 =>
 opK Tryd.prog E (xBin .lss 3 (.tmp 5) (.const (Value.int .i64 0)) x1 (Value.int .i64 0)) w fun t6_25 w_26 =>
 xcond t6_25
 (opK Tryd.prog E (xV (Instr.makeInterface 9 (Value.string ⟨#[99, 97, 110, 110, 111, 116, 32, 98, 101, 32, 110, 101, 103, 97, 116, 105, 118, 101]⟩))) w_26 fun t7_27 w_28 =>
 opK Tryd.prog E (xV (Instr.panic t7_27)) w_28 fun _z_29 w_30 =>
 j1 [] w_30)
 (j1 [] w_26)
noncomputable def c120 : Code := Tryd.f120.body.getD .skip
def h120 : Hint := (.seq .none (.cut [] (.seq .none (.cond .none .none)) (.cut [0] (.seq .none (.seq .none (.cond .none .none))) (.seq .none .none))))
theorem F120_eq (x0 x1 : Value) (w : World) (R : Value → World → Prop) (E : Pan) : F120 x0 x1 w R E = callX Tryd.prog [.tmp 4] c120 h120 [x0, x1] w R E := by kernel_rfl
theorem F120_ok {x0 x1 : Value} {w : World} {R : Value → World → Prop} {E : Pan} (h : F120 x0 x1 w R E) : Cv Tryd.prog 120 #[x0, x1] w R E := by
 refine callX_sound (args := [x0, x1]) (c := c120) (h := h120) (rs := [.tmp 4]) Tryd.func120 (by kernel_rfl) (by kernel_rfl) (Nat.le_of_ble_eq_true (by kernel_rfl)) (by kernel_rfl) (by kernel_rfl) (by kernel_rfl) ?_
 rw [← F120_eq]
 exact h

/- function 123: gnomon/lex.long -/
def F123 (x0 : Value) (w : World) (R : Value → World → Prop) (E : Pan) : Prop :=
 opK Tryd.prog E (xCall (Value.func (.func 130) #[] #[]) [x0]) w fun t4_1 w_2 =>
 opK Tryd.prog E (xBin .gtr 3 (.tmp 4) (.const (Value.int .i64 32)) t4_1 (Value.int .i64 32)) w_2 fun t5_3 w_4 =>
 R t5_3 w_4
noncomputable def c123 : Code := Tryd.f123.body.getD .skip
def h123 : Hint := (.seq .none (.seq .none .none))
theorem F123_eq (x0 : Value) (w : World) (R : Value → World → Prop) (E : Pan) : F123 x0 w R E = callX Tryd.prog [.tmp 2] c123 h123 [x0] w R E := by kernel_rfl
theorem F123_ok {x0 : Value} {w : World} {R : Value → World → Prop} {E : Pan} (h : F123 x0 w R E) : Cv Tryd.prog 123 #[x0] w R E := by
 refine callX_sound (args := [x0]) (c := c123) (h := h123) (rs := [.tmp 2]) Tryd.func123 (by kernel_rfl) (by kernel_rfl) (Nat.le_of_ble_eq_true (by kernel_rfl)) (by kernel_rfl) (by kernel_rfl) (by kernel_rfl) ?_
 rw [← F123_eq]
 exact h

/- function 124: gnomon/lex.Word -/
def F124_j1 (x4 : Value) (w : World) (R : Value → World → Prop) (_E : Pan) : Prop :=
 ∀ _τ : Fr, (xcond x4
 (R (Value.bool true) w)
 (R (Value.bool false) w))
def F124 (x0 : Value) (w : World) (R : Value → World → Prop) (E : Pan) : Prop :=
 xcut (fun l_1 w_2 => F124_j1 (nth l_1 0) w_2 R E) fun j1 =>
 opK Tryd.prog E (xBin .eql 9 (.tmp 3) (.const (Value.string ⟨#[118, 97, 114]⟩)) x0 (Value.string ⟨#[118, 97, 114]⟩)) w fun t5_3 w_4 =>
 xcond t5_3
 (j1 [t5_3] w_4)
 (opK Tryd.prog E (xBin .eql 9 (.tmp 3) (.const (Value.string ⟨#[97, 114, 114, 97, 121]⟩)) x0 (Value.string ⟨#[97, 114, 114, 97, 121]⟩)) w_4 fun t6_5 w_6 =>
 xcond t6_5
 (j1 [t6_5] w_6)
 (opK Tryd.prog E (xBin .eql 9 (.tmp 3) (.const (Value.string ⟨#[105, 102]⟩)) x0 (Value.string ⟨#[105, 102]⟩)) w_6 fun t7_7 w_8 =>
 xcond t7_7
 (j1 [t7_7] w_8)
 (opK Tryd.prog E (xBin .eql 9 (.tmp 3) (.const (Value.string ⟨#[101, 108, 115, 101]⟩)) x0 (Value.string ⟨#[101, 108, 115, 101]⟩)) w_8 fun t8_9 w_10 =>
 xcond t8_9
 (j1 [t8_9] w_10)
 (opK Tryd.prog E (xBin .eql 9 (.tmp 3) (.const (Value.string ⟨#[119, 104, 105, 108, 101]⟩)) x0 (Value.string ⟨#[119, 104, 105, 108, 101]⟩)) w_10 fun t9_11 w_12 =>
 xcond t9_11
 (j1 [t9_11] w_12)
 (opK Tryd.prog E (xBin .eql 9 (.tmp 3) (.const (Value.string ⟨#[97, 115, 115, 101, 114, 116]⟩)) x0 (Value.string ⟨#[97, 115, 115, 101, 114, 116]⟩)) w_12 fun t10_13 w_14 =>
 xcond t10_13
 (j1 [t10_13] w_14)
 (opK Tryd.prog E (xBin .eql 9 (.tmp 3) (.const (Value.string ⟨#[97, 115, 115, 117, 109, 101]⟩)) x0 (Value.string ⟨#[97, 115, 115, 117, 109, 101]⟩)) w_14 fun t11_15 w_16 =>
 xcond t11_15
 (j1 [t11_15] w_16)
 (opK Tryd.prog E (xBin .eql 9 (.tmp 3) (.const (Value.string ⟨#[115, 107, 105, 112]⟩)) x0 (Value.string ⟨#[115, 107, 105, 112]⟩)) w_16 fun t12_17 w_18 =>
 xcond t12_17
 (j1 [t12_17] w_18)
 (opK Tryd.prog E (xBin .eql 9 (.tmp 3) (.const (Value.string ⟨#[105, 110, 112, 117, 116]⟩)) x0 (Value.string ⟨#[105, 110, 112, 117, 116]⟩)) w_18 fun t13_19 w_20 =>
 xcond t13_19
 (j1 [t13_19] w_20)
 (opK Tryd.prog E (xBin .eql 9 (.tmp 3) (.const (Value.string ⟨#[116, 114, 117, 101]⟩)) x0 (Value.string ⟨#[116, 114, 117, 101]⟩)) w_20 fun t14_21 w_22 =>
 xcond t14_21
 (j1 [t14_21] w_22)
 (opK Tryd.prog E (xBin .eql 9 (.tmp 3) (.const (Value.string ⟨#[102, 97, 108, 115, 101]⟩)) x0 (Value.string ⟨#[102, 97, 108, 115, 101]⟩)) w_22 fun t15_23 w_24 =>
 j1 [t15_23] w_24))))))))))
noncomputable def c124 : Code := Tryd.f124.body.getD .skip
def h124 : Hint := (.seq .none (.seq (.seq .none (.block (.cut [4] (.seq .none (.cond .none (.seq .none (.cond .none (.seq .none (.cond .none (.seq .none (.cond .none (.seq .none (.cond .none (.seq .none (.cond .none (.seq .none (.cond .none (.seq .none (.cond .none (.seq .none (.cond .none (.seq .none (.cond .none .none)))))))))))))))))))) (.cond (.seq .none .none) .none)))) (.seq .none .none)))
theorem F124_eq (x0 : Value) (w : World) (R : Value → World → Prop) (E : Pan) : F124 x0 w R E = callX Tryd.prog [.tmp 2] c124 h124 [x0] w R E := by kernel_rfl
theorem F124_ok {x0 : Value} {w : World} {R : Value → World → Prop} {E : Pan} (h : F124 x0 w R E) : Cv Tryd.prog 124 #[x0] w R E := by
 refine callX_sound (args := [x0]) (c := c124) (h := h124) (rs := [.tmp 2]) Tryd.func124 (by kernel_rfl) (by kernel_rfl) (Nat.le_of_ble_eq_true (by kernel_rfl)) (by kernel_rfl) (by kernel_rfl) (by kernel_rfl) ?_
 rw [← F124_eq]
 exact h

/- function 125: gnomon/lex.goesOn -/
def F125 (x0 : Value) (w : World) (R : Value → World → Prop) (E : Pan) : Prop :=
 opK Tryd.prog E (xCall (Value.func (.func 126) #[] #[]) [x0]) w fun t5_1 w_2 =>
 opK Tryd.prog E (xBin .eql 3 (.tmp 6) (.const (Value.int .i64 3)) t5_1 (Value.int .i64 3)) w_2 fun t7_3 w_4 =>
 opK Tryd.prog E (gsem (asB t7_3) false (xBin .eql 3 (.tmp 9) (.const (Value.int .i64 4)) (gval (asB t7_3) false t5_1) (Value.int .i64 4))) w_4 fun t10_5 w_6 =>
 opK Tryd.prog E (xPick t7_3 (Value.bool true) t10_5) w_6 fun t11_7 w_8 =>
 R t11_7 w_8
noncomputable def c125 : Code := Tryd.f125.body.getD .skip
def h125 : Hint := (.seq .none (.seq .none (.seq .none .none)))
theorem F125_eq (x0 : Value) (w : World) (R : Value → World → Prop) (E : Pan) : F125 x0 w R E = callX Tryd.prog [.tmp 2] c125 h125 [x0] w R E := by kernel_rfl
theorem F125_ok {x0 : Value} {w : World} {R : Value → World → Prop} {E : Pan} (h : F125 x0 w R E) : Cv Tryd.prog 125 #[x0] w R E := by
 refine callX_sound (args := [x0]) (c := c125) (h := h125) (rs := [.tmp 2]) Tryd.func125 (by kernel_rfl) (by kernel_rfl) (Nat.le_of_ble_eq_true (by kernel_rfl)) (by kernel_rfl) (by kernel_rfl) (by kernel_rfl) ?_
 rw [← F125_eq]
 exact h

/- function 126: gnomon/text.Class -/
def F126_j4 (x39 : Value) (w : World) (R : Value → World → Prop) (_E : Pan) : Prop :=
 ∀ _τ : Fr, (xcond x39
 (R (Value.int .i64 3) w)
 (R (Value.int .i64 6) w))
def F126_j3 (x1 x31 : Value) (w : World) (R : Value → World → Prop) (E : Pan) : Prop :=
 ∀ _τ : Fr, (xcond x31
 (R (Value.int .i64 6) w)
 (opK Tryd.prog E (xV (Instr.makeFunc (.func 131) #[] #[x1])) w fun t35_7 w_8 =>
 opK Tryd.prog E (xCall t35_7 [(Value.int .i32 48), (Value.int .i32 57)]) w_8 fun t38_9 w_10 =>
 xcond t38_9
 (R (Value.int .i64 4) w_10)
 (xcut (fun l_11 w_12 => F126_j4 (nth l_11 0) w_12 R E) fun j4 =>
 opK Tryd.prog E (xV (Instr.loadAt 21 x1)) w_10 fun t40_13 w_14 =>
 opK Tryd.prog E (xBin .eql 21 (.tmp 40) (.const (Value.int .i32 95)) t40_13 (Value.int .i32 95)) w_14 fun t41_15 w_16 =>
 xcond t41_15
 (j4 [t41_15] w_16)
 (opK Tryd.prog E (xCall t35_7 [(Value.int .i32 97), (Value.int .i32 122)]) w_16 fun t43_17 w_18 =>
 xcond t43_17
 (j4 [t43_17] w_18)
 (opK Tryd.prog E (xCall t35_7 [(Value.int .i32 65), (Value.int .i32 90)]) w_18 fun t45_19 w_20 =>
 xcond t45_19
 (j4 [t45_19] w_20)
 (opK Tryd.prog E (xCall t35_7 [(Value.int .i32 192), (Value.int .i32 591)]) w_20 fun t47_21 w_22 =>
 xcond t47_21
 (j4 [t47_21] w_22)
 (opK Tryd.prog E (xCall t35_7 [(Value.int .i32 913), (Value.int .i32 969)]) w_22 fun t49_23 w_24 =>
 xcond t49_23
 (j4 [t49_23] w_24)
 (opK Tryd.prog E (xCall t35_7 [(Value.int .i32 1040), (Value.int .i32 1103)]) w_24 fun t51_25 w_26 =>
 j4 [t51_25] w_26))))))))
def F126_j2 (x1 x4 x11 : Value) (w : World) (R : Value → World → Prop) (E : Pan) : Prop :=
 ∀ _τ : Fr, (xcond x11
 (R (Value.int .i64 5) w)
 (xcut (fun l_27 w_28 => F126_j3 x1 (nth l_27 0) w_28 R E) fun j3 =>
 opK Tryd.prog E (xBin .eql 21 (.tmp 4) (.const (Value.int .i32 215)) x4 (Value.int .i32 215)) w fun t32_29 w_30 =>
 xcond t32_29
 (j3 [t32_29] w_30)
 (opK Tryd.prog E (xBin .eql 21 (.tmp 4) (.const (Value.int .i32 247)) x4 (Value.int .i32 247)) w_30 fun t33_31 w_32 =>
 xcond t33_31
 (j3 [t33_31] w_32)
 (opK Tryd.prog E (xBin .eql 21 (.tmp 4) (.const (Value.int .i32 930)) x4 (Value.int .i32 930)) w_32 fun t34_33 w_34 =>
 j3 [t34_33] w_34))))
def F126_j1 (x1 x4 x5 : Value) (w : World) (R : Value → World → Prop) (E : Pan) : Prop :=
 ∀ _τ : Fr, (xcond x5
 (R (Value.int .i64 1) w)
 (opK Tryd.prog E (xBin .eql 21 (.tmp 4) (.const (Value.int .i32 10)) x4 (Value.int .i32 10)) w fun t10_5 w_6 =>
 xcond t10_5
 (R (Value.int .i64 2) w_6)
 (xcut (fun l_35 w_36 => F126_j2 x1 x4 (nth l_35 0) w_36 R E) fun j2 =>
 opK Tryd.prog E (xBin .eql 21 (.tmp 4) (.const (Value.int .i32 59)) x4 (Value.int .i32 59)) w_6 fun t12_37 w_38 =>
 xcond t12_37
 (j2 [t12_37] w_38)
 (opK Tryd.prog E (xBin .eql 21 (.tmp 4) (.const (Value.int .i32 44)) x4 (Value.int .i32 44)) w_38 fun t13_39 w_40 =>
 xcond t13_39
 (j2 [t13_39] w_40)
 (opK Tryd.prog E (xBin .eql 21 (.tmp 4) (.const (Value.int .i32 123)) x4 (Value.int .i32 123)) w_40 fun t14_41 w_42 =>
 xcond t14_41
 (j2 [t14_41] w_42)
 (opK Tryd.prog E (xBin .eql 21 (.tmp 4) (.const (Value.int .i32 125)) x4 (Value.int .i32 125)) w_42 fun t15_43 w_44 =>
 xcond t15_43
 (j2 [t15_43] w_44)
 (opK Tryd.prog E (xBin .eql 21 (.tmp 4) (.const (Value.int .i32 40)) x4 (Value.int .i32 40)) w_44 fun t16_45 w_46 =>
 xcond t16_45
 (j2 [t16_45] w_46)
 (opK Tryd.prog E (xBin .eql 21 (.tmp 4) (.const (Value.int .i32 41)) x4 (Value.int .i32 41)) w_46 fun t17_47 w_48 =>
 xcond t17_47
 (j2 [t17_47] w_48)
 (opK Tryd.prog E (xBin .eql 21 (.tmp 4) (.const (Value.int .i32 91)) x4 (Value.int .i32 91)) w_48 fun t18_49 w_50 =>
 xcond t18_49
 (j2 [t18_49] w_50)
 (opK Tryd.prog E (xBin .eql 21 (.tmp 4) (.const (Value.int .i32 93)) x4 (Value.int .i32 93)) w_50 fun t19_51 w_52 =>
 xcond t19_51
 (j2 [t19_51] w_52)
 (opK Tryd.prog E (xBin .eql 21 (.tmp 4) (.const (Value.int .i32 61)) x4 (Value.int .i32 61)) w_52 fun t20_53 w_54 =>
 xcond t20_53
 (j2 [t20_53] w_54)
 (opK Tryd.prog E (xBin .eql 21 (.tmp 4) (.const (Value.int .i32 33)) x4 (Value.int .i32 33)) w_54 fun t21_55 w_56 =>
 xcond t21_55
 (j2 [t21_55] w_56)
 (opK Tryd.prog E (xBin .eql 21 (.tmp 4) (.const (Value.int .i32 60)) x4 (Value.int .i32 60)) w_56 fun t22_57 w_58 =>
 xcond t22_57
 (j2 [t22_57] w_58)
 (opK Tryd.prog E (xBin .eql 21 (.tmp 4) (.const (Value.int .i32 62)) x4 (Value.int .i32 62)) w_58 fun t23_59 w_60 =>
 xcond t23_59
 (j2 [t23_59] w_60)
 (opK Tryd.prog E (xBin .eql 21 (.tmp 4) (.const (Value.int .i32 43)) x4 (Value.int .i32 43)) w_60 fun t24_61 w_62 =>
 xcond t24_61
 (j2 [t24_61] w_62)
 (opK Tryd.prog E (xBin .eql 21 (.tmp 4) (.const (Value.int .i32 45)) x4 (Value.int .i32 45)) w_62 fun t25_63 w_64 =>
 xcond t25_63
 (j2 [t25_63] w_64)
 (opK Tryd.prog E (xBin .eql 21 (.tmp 4) (.const (Value.int .i32 42)) x4 (Value.int .i32 42)) w_64 fun t26_65 w_66 =>
 xcond t26_65
 (j2 [t26_65] w_66)
 (opK Tryd.prog E (xBin .eql 21 (.tmp 4) (.const (Value.int .i32 47)) x4 (Value.int .i32 47)) w_66 fun t27_67 w_68 =>
 xcond t27_67
 (j2 [t27_67] w_68)
 (opK Tryd.prog E (xBin .eql 21 (.tmp 4) (.const (Value.int .i32 37)) x4 (Value.int .i32 37)) w_68 fun t28_69 w_70 =>
 xcond t28_69
 (j2 [t28_69] w_70)
 (opK Tryd.prog E (xBin .eql 21 (.tmp 4) (.const (Value.int .i32 38)) x4 (Value.int .i32 38)) w_70 fun t29_71 w_72 =>
 xcond t29_71
 (j2 [t29_71] w_72)
 (opK Tryd.prog E (xBin .eql 21 (.tmp 4) (.const (Value.int .i32 124)) x4 (Value.int .i32 124)) w_72 fun t30_73 w_74 =>
 j2 [t30_73] w_74)))))))))))))))))))))
def F126 (x0 : Value) (w : World) (R : Value → World → Prop) (E : Pan) : Prop :=
 opK Tryd.prog E (xV (Instr.box 21 x0)) w fun t1_1 w_2 =>
 opK Tryd.prog E (xV (Instr.loadAt 21 t1_1)) w_2 fun t4_3 w_4 =>
 xcut (fun l_75 w_76 => F126_j1 t1_1 t4_3 (nth l_75 0) w_76 R E) fun j1 =>
 opK Tryd.prog E (xBin .eql 21 (.tmp 4) (.const (Value.int .i32 32)) t4_3 (Value.int .i32 32)) w_4 fun t6_77 w_78 =>
 xcond t6_77
 (j1 [t6_77] w_78)
 (opK Tryd.prog E (xBin .eql 21 (.tmp 4) (.const (Value.int .i32 9)) t4_3 (Value.int .i32 9)) w_78 fun t7_79 w_80 =>
 xcond t7_79
 (j1 [t7_79] w_80)
 (opK Tryd.prog E (xBin .eql 21 (.tmp 4) (.const (Value.int .i32 13)) t4_3 (Value.int .i32 13)) w_80 fun t8_81 w_82 =>
 j1 [t8_81] w_82))
noncomputable def c126 : Code := Tryd.f126.body.getD .skip
def h126 : Hint := (.seq .none (.seq (.seq .none (.block (.cut [5] (.seq .none (.cond .none (.seq .none (.cond .none .none)))) (.cond (.seq .none .none) (.seq .none (.cond (.seq .none .none) (.cut [11] (.seq .none (.cond .none (.seq .none (.cond .none (.seq .none (.cond .none (.seq .none (.cond .none (.seq .none (.cond .none (.seq .none (.cond .none (.seq .none (.cond .none (.seq .none (.cond .none (.seq .none (.cond .none (.seq .none (.cond .none (.seq .none (.cond .none (.seq .none (.cond .none (.seq .none (.cond .none (.seq .none (.cond .none (.seq .none (.cond .none (.seq .none (.cond .none (.seq .none (.cond .none (.seq .none (.cond .none .none)))))))))))))))))))))))))))))))))))) (.cond (.seq .none .none) (.cut [31] (.seq .none (.cond .none (.seq .none (.cond .none .none)))) (.cond (.seq .none .none) .none)))))))))) (.seq .none (.seq (.block (.seq .none (.cond (.seq .none .none) (.cut [39] (.seq .none (.cond .none (.seq .none (.cond .none (.seq .none (.cond .none (.seq .none (.cond .none (.seq .none (.cond .none .none)))))))))) (.cond (.seq .none .none) .none))))) (.seq .none .none)))))
theorem F126_eq (x0 : Value) (w : World) (R : Value → World → Prop) (E : Pan) : F126 x0 w R E = callX Tryd.prog [.tmp 2] c126 h126 [x0] w R E := by kernel_rfl
theorem F126_ok {x0 : Value} {w : World} {R : Value → World → Prop} {E : Pan} (h : F126 x0 w R E) : Cv Tryd.prog 126 #[x0] w R E := by
 refine callX_sound (args := [x0]) (c := c126) (h := h126) (rs := [.tmp 2]) Tryd.func126 (by kernel_rfl) (by kernel_rfl) (Nat.le_of_ble_eq_true (by kernel_rfl)) (by kernel_rfl) (by kernel_rfl) (by kernel_rfl) ?_
 rw [← F126_eq]
 exact h

/- function 127: slices.Index[[]string,string] -/
def F127_j1 (w : World) (R : Value → World → Prop) (_E : Pan) : Prop :=
 ∀ _τ : Fr, (R (Value.int .i64 (-1)) w)
def F127_l2 (x0 x1 x7 x8 : Value) (w : World) (next2 : List Value → World → Prop) (j1 : List Value → World → Prop) (R : Value → World → Prop) (E : Pan) : Prop :=
 opK Tryd.prog E (xBin .lss 3 (.tmp 8) (.tmp 7) x8 x7) w fun t9_5 w_6 =>
 xcond t9_5
 (opK Tryd.prog E (xV (Instr.indexAt 47 x0 x8)) w_6 fun t14_7 w_8 =>
 opK Tryd.prog E (xV (Instr.loadAt 9 t14_7)) w_8 fun t15_9 w_10 =>
 opK Tryd.prog E (xBin .eql 9 (.tmp 11) (.tmp 15) x1 t15_9) w_10 fun t16_11 w_12 =>
 xcond t16_11
 (R x8 w_12)
 (opK Tryd.prog E (xBin .add 3 (.tmp 8) (.const (Value.int .i64 1)) x8 (Value.int .i64 1)) w_12 fun t18_13 w_14 =>
 next2 [t18_13] w_14))
 (j1 [] w_6)
def F127 (x0 x1 : Value) (w : World) (R : Value → World → Prop) (E : Pan) : Prop :=
 xcut (fun _ w_2 => F127_j1 w_2 R E) fun j1 =>
 opK Tryd.prog E (xBuiltin .len #[47] 3 [false] [x0]) w fun t7_3 w_4 =>
 xloop [8] [(Value.int .i64 0)] w_4 fun τ_15 w_16 next2 =>
 F127_l2 x0 x1 t7_3 (τ_15 8) w_16 next2 j1 R E
noncomputable def c127 : Code := Tryd.f127.body.getD .skip
def h127 : Hint := (.seq .none (.cut [] (.seq .none (.block (.loop [8] (.seq .none (.seq (.cond .none .none) (.seq (.block (.seq .none (.seq .none (.cond (.seq .none .none) .none)))) .none)))))) (.seq .none .none)))
theorem F127_eq (x0 x1 : Value) (w : World) (R : Value → World → Prop) (E : Pan) : F127 x0 x1 w R E = callX Tryd.prog [.tmp 4] c127 h127 [x0, x1] w R E := by kernel_rfl
theorem F127_ok {x0 x1 : Value} {w : World} {R : Value → World → Prop} {E : Pan} (h : F127 x0 x1 w R E) : Cv Tryd.prog 127 #[x0, x1] w R E := by
 refine callX_sound (args := [x0, x1]) (c := c127) (h := h127) (rs := [.tmp 4]) Tryd.func127 (by kernel_rfl) (by kernel_rfl) (Nat.le_of_ble_eq_true (by kernel_rfl)) (by kernel_rfl) (by kernel_rfl) (by kernel_rfl) ?_
 rw [← F127_eq]
 exact h

/- function 130: unicode/utf8.RuneCountInString -/
def F130_j1 (x2 : Value) (w : World) (R : Value → World → Prop) (_E : Pan) : Prop :=
 ∀ _τ : Fr, (R x2 w)
def F130_l2 (x2 x4 : Value) (w : World) (next2 : List Value → World → Prop) (j1 : List Value → World → Prop) (_R : Value → World → Prop) (E : Pan) : Prop :=
 opK Tryd.prog E (xV (Instr.next x4 true 0)) w fun t5_5 w_6 =>
 opK Tryd.prog E (xV (Instr.extract t5_5 0)) w_6 fun t6_7 w_8 =>
 xcond t6_7
 (opK Tryd.prog E (xBin .add 3 (.tmp 7) (.const (Value.int .i64 1)) x2 (Value.int .i64 1)) w_8 fun t8_9 w_10 =>
 next2 [t8_9] w_10)
 (j1 [x2] w_8)
def F130 (x0 : Value) (w : World) (R : Value → World → Prop) (E : Pan) : Prop :=
 xcut (fun l_1 w_2 => F130_j1 (nth l_1 0) w_2 R E) fun j1 =>
 opK Tryd.prog E (xV (Instr.range 9 x0)) w fun t4_3 w_4 =>
 xloop [2] [(Value.int .i64 0)] w_4 fun τ_11 w_12 next2 =>
 F130_l2 (τ_11 2) t4_3 w_12 next2 j1 R E
noncomputable def c130 : Code := Tryd.f130.body.getD .skip
def h130 : Hint := (.seq .none (.cut [2] (.seq .none (.block (.loop [2] (.seq .none (.seq (.cond .none .none) (.block .none)))))) (.seq .none .none)))
theorem F130_eq (x0 : Value) (w : World) (R : Value → World → Prop) (E : Pan) : F130 x0 w R E = callX Tryd.prog [.tmp 2] c130 h130 [x0] w R E := by kernel_rfl
theorem F130_ok {x0 : Value} {w : World} {R : Value → World → Prop} {E : Pan} (h : F130 x0 w R E) : Cv Tryd.prog 130 #[x0] w R E := by
 refine callX_sound (args := [x0]) (c := c130) (h := h130) (rs := [.tmp 2]) Tryd.func130 (by kernel_rfl) (by kernel_rfl) (Nat.le_of_ble_eq_true (by kernel_rfl)) (by kernel_rfl) (by kernel_rfl) (by kernel_rfl) ?_
 rw [← F130_eq]
 exact h

/- function 131: gnomon/text.Class$1 -/
def F131 (x0 x1 x2 : Value) (w : World) (R : Value → World → Prop) (E : Pan) : Prop :=
 opK Tryd.prog E (xV (Instr.loadAt 21 x2)) w fun t7_1 w_2 =>
 opK Tryd.prog E (xBin .leq 21 (.tmp 6) (.tmp 7) x0 t7_1) w_2 fun t8_3 w_4 =>
 opK Tryd.prog E (gsem (asB t8_3) true (xV (Instr.loadAt 21 x2))) w_4 fun t10_5 w_6 =>
 opK Tryd.prog E (gsem (asB t8_3) true (xBin .leq 21 (.tmp 10) (.tmp 11) t10_5 (gval (asB t8_3) true x1))) w_6 fun t12_7 w_8 =>
 opK Tryd.prog E (xPick t8_3 t12_7 (Value.bool false)) w_8 fun t13_9 w_10 =>
 R t13_9 w_10
noncomputable def c131 : Code := Tryd.f131.body.getD .skip
def h131 : Hint := (.seq .none (.seq .none .none))
theorem F131_eq (x0 x1 x2 : Value) (w : World) (R : Value → World → Prop) (E : Pan) : F131 x0 x1 x2 w R E = callX Tryd.prog [.tmp 5] c131 h131 [x0, x1, x2] w R E := by kernel_rfl
theorem F131_ok {x0 x1 x2 : Value} {w : World} {R : Value → World → Prop} {E : Pan} (h : F131 x0 x1 x2 w R E) : Cv Tryd.prog 131 #[x0, x1, x2] w R E := by
 refine callX_sound (args := [x0, x1, x2]) (c := c131) (h := h131) (rs := [.tmp 5]) Tryd.func131 (by kernel_rfl) (by kernel_rfl) (Nat.le_of_ble_eq_true (by kernel_rfl)) (by kernel_rfl) (by kernel_rfl) (by kernel_rfl) ?_
 rw [← F131_eq]
 exact h

/- function 148: (gnomon/tree.expr).form -/
def F148_j3 (x3 x59 : Value) (w : World) (R : Value → World → Prop) (E : Pan) : Prop :=
 ∀ _τ : Fr, (xcond x59
 (opK Tryd.prog E (xBin .eql 3 (.tmp 65) (.const (Value.int .i64 2)) x3 (Value.int .i64 2)) w fun t66_77 w_78 =>
 R t66_77 w_78)
 (R (Value.bool false) w))
def F148_j2 (x3 x38 x54 : Value) (w : World) (R : Value → World → Prop) (E : Pan) : Prop :=
 ∀ _τ : Fr, (xcond x54
 (opK Tryd.prog E (xBin .eql 3 (.tmp 57) (.const (Value.int .i64 1)) x3 (Value.int .i64 1)) w fun t58_75 w_76 =>
 R t58_75 w_76)
 (xcut (fun l_79 w_80 => F148_j3 x3 (nth l_79 0) w_80 R E) fun j3 =>
 opK Tryd.prog E (xBin .eql 3 (.tmp 38) (.const (Value.int .i64 6)) x38 (Value.int .i64 6)) w fun t60_81 w_82 =>
 xcond t60_81
 (j3 [t60_81] w_82)
 (opK Tryd.prog E (xBin .eql 3 (.tmp 38) (.const (Value.int .i64 7)) x38 (Value.int .i64 7)) w_82 fun t61_83 w_84 =>
 xcond t61_83
 (j3 [t61_83] w_84)
 (opK Tryd.prog E (xBin .eql 3 (.tmp 38) (.const (Value.int .i64 8)) x38 (Value.int .i64 8)) w_84 fun t62_85 w_86 =>
 xcond t62_85
 (j3 [t62_85] w_86)
 (opK Tryd.prog E (xBin .eql 3 (.tmp 38) (.const (Value.int .i64 9)) x38 (Value.int .i64 9)) w_86 fun t63_87 w_88 =>
 xcond t63_87
 (j3 [t63_87] w_88)
 (opK Tryd.prog E (xBin .eql 3 (.tmp 38) (.const (Value.int .i64 10)) x38 (Value.int .i64 10)) w_88 fun t64_89 w_90 =>
 j3 [t64_89] w_90))))))
def F148_j1 (x3 x38 x49 : Value) (w : World) (R : Value → World → Prop) (E : Pan) : Prop :=
 ∀ _τ : Fr, (xcond x49
 (opK Tryd.prog E (xBin .eql 3 (.tmp 52) (.const (Value.int .i64 0)) x3 (Value.int .i64 0)) w fun t53_73 w_74 =>
 R t53_73 w_74)
 (xcut (fun l_91 w_92 => F148_j2 x3 x38 (nth l_91 0) w_92 R E) fun j2 =>
 opK Tryd.prog E (xBin .eql 3 (.tmp 38) (.const (Value.int .i64 4)) x38 (Value.int .i64 4)) w fun t55_93 w_94 =>
 xcond t55_93
 (j2 [t55_93] w_94)
 (opK Tryd.prog E (xBin .eql 3 (.tmp 38) (.const (Value.int .i64 5)) x38 (Value.int .i64 5)) w_94 fun t56_95 w_96 =>
 j2 [t56_95] w_96)))
def F148 (x0 : Value) (w : World) (R : Value → World → Prop) (E : Pan) : Prop :=
 opK Tryd.prog E (xV (Instr.box 96 x0)) w fun t1_1 w_2 =>
 opK Tryd.prog E (xV (Instr.fieldAt 96 t1_1 0)) w_2 fun t6_3 w_4 =>
 opK Tryd.prog E (xV (Instr.fieldAt 30 t6_3 3)) w_4 fun t7_5 w_6 =>
 opK Tryd.prog E (xV (Instr.loadAt 28 t7_5)) w_6 fun t8_7 w_8 =>
 opK Tryd.prog E (xBuiltin .len #[28] 3 [false] [t8_7]) w_8 fun t9_9 w_10 =>
 opK Tryd.prog E (xV (Instr.loadAt 96 t1_1)) w_10 fun t11_11 w_12 =>
 opK Tryd.prog E (xV (Instr.makeInterface 96 t11_11)) w_12 fun t12_13 w_14 =>
 opK Tryd.prog E (xCall (Value.func (.func 114) #[] #[]) [t12_13]) w_14 fun t13_15 w_16 =>
 opK Tryd.prog E (xV (Instr.extract t13_15 0)) w_16 fun _t14_17 w_18 =>
 opK Tryd.prog E (xV (Instr.extract t13_15 1)) w_18 fun t15_19 w_20 =>
 opK Tryd.prog E (xV (Instr.fieldAt 96 t1_1 0)) w_20 fun t16_21 w_22 =>
 opK Tryd.prog E (xV (Instr.fieldAt 30 t16_21 0)) w_22 fun t17_23 w_24 =>
 opK Tryd.prog E (xV (Instr.loadAt 3 t17_23)) w_24 fun t18_25 w_26 =>
 opK Tryd.prog E (xBin .neq 3 (.tmp 18) (.const (Value.int .i64 1)) t18_25 (Value.int .i64 1)) w_26 fun t19_27 w_28 =>
 opK Tryd.prog E (gsem (asB t19_27) true (xV (Instr.fieldAt 96 t1_1 0))) w_28 fun t21_29 w_30 =>
 opK Tryd.prog E (gsem (asB t19_27) true (xV (Instr.fieldAt 30 t21_29 1))) w_30 fun t22_31 w_32 =>
 opK Tryd.prog E (gsem (asB t19_27) true (xV (Instr.loadAt 2 t22_31))) w_32 fun t23_33 w_34 =>
 opK Tryd.prog E (gsem (asB t19_27) true (xBin .neq 2 (.tmp 23) (.const (Value.int .i64 0)) t23_33 (Value.int .i64 0))) w_34 fun t24_35 w_36 =>
 opK Tryd.prog E (xPick t19_27 t24_35 (Value.bool false)) w_36 fun t25_37 w_38 =>
 opK Tryd.prog E (gsem (asB t25_37) false (xV (Op.unary .not (gval (asB t25_37) false t15_19)))) w_38 fun t28_39 w_40 =>
 opK Tryd.prog E (gsem (asB (gval (asB t25_37) false t28_39)) true (xV (Instr.fieldAt 96 t1_1 0))) w_40 fun t30_41 w_42 =>
 opK Tryd.prog E (gsem (asB (gval (asB t25_37) false t28_39)) true (xV (Instr.fieldAt 30 t30_41 2))) w_42 fun t31_43 w_44 =>
 opK Tryd.prog E (gsem (asB (gval (asB t25_37) false t28_39)) true (xV (Instr.loadAt 9 t31_43))) w_44 fun t32_45 w_46 =>
 opK Tryd.prog E (gsem (asB (gval (asB t25_37) false t28_39)) true (xBin .neq 9 (.tmp 32) (.const (Value.string ⟨#[]⟩)) t32_45 (Value.string ⟨#[]⟩))) w_46 fun t33_47 w_48 =>
 opK Tryd.prog E (gsem (asB t25_37) false (xPick (gval (asB t25_37) false t28_39) t33_47 (Value.bool false))) w_48 fun t34_49 w_50 =>
 opK Tryd.prog E (xPick t25_37 (Value.bool true) t34_49) w_50 fun t35_51 w_52 =>
 xcond t35_51
 (R (Value.bool false) w_52)
 (opK Tryd.prog E (xV (Instr.fieldAt 96 t1_1 0)) w_52 fun t36_53 w_54 =>
 opK Tryd.prog E (xV (Instr.fieldAt 30 t36_53 0)) w_54 fun t37_55 w_56 =>
 opK Tryd.prog E (xV (Instr.loadAt 3 t37_55)) w_56 fun t38_57 w_58 =>
 opK Tryd.prog E (xBin .eql 3 (.tmp 38) (.const (Value.int .i64 1)) t38_57 (Value.int .i64 1)) w_58 fun t40_59 w_60 =>
 xcond t40_59
 (opK Tryd.prog E (xV (Instr.fieldAt 96 t1_1 0)) w_60 fun t41_61 w_62 =>
 opK Tryd.prog E (xV (Instr.fieldAt 30 t41_61 1)) w_62 fun t42_63 w_64 =>
 opK Tryd.prog E (xV (Instr.loadAt 2 t42_63)) w_64 fun t43_65 w_66 =>
 opK Tryd.prog E (xBin .geq 2 (.tmp 43) (.const (Value.int .i64 0)) t43_65 (Value.int .i64 0)) w_66 fun t44_67 w_68 =>
 opK Tryd.prog E (gsem (asB t44_67) true (xBin .eql 3 (.tmp 46) (.const (Value.int .i64 0)) (gval (asB t44_67) true t9_9) (Value.int .i64 0))) w_68 fun t47_69 w_70 =>
 opK Tryd.prog E (xPick t44_67 t47_69 (Value.bool false)) w_70 fun t48_71 w_72 =>
 R t48_71 w_72)
 (xcut (fun l_97 w_98 => F148_j1 t9_9 t38_57 (nth l_97 0) w_98 R E) fun j1 =>
 opK Tryd.prog E (xBin .eql 3 (.tmp 38) (.const (Value.int .i64 2)) t38_57 (Value.int .i64 2)) w_60 fun t50_99 w_100 =>
 xcond t50_99
 (j1 [t50_99] w_100)
 (opK Tryd.prog E (xBin .eql 3 (.tmp 38) (.const (Value.int .i64 3)) t38_57 (Value.int .i64 3)) w_100 fun t51_101 w_102 =>
 j1 [t51_101] w_102)))
noncomputable def c148 : Code := Tryd.f148.body.getD .skip
def h148 : Hint := (.seq .none (.seq .none (.seq .none (.seq (.seq .none (.cond (.seq .none .none) .none)) (.seq (.seq .none (.block (.seq .none (.cond (.seq .none .none) (.cut [49] (.seq .none (.cond .none .none)) (.cond (.seq .none .none) (.cut [54] (.seq .none (.cond .none .none)) (.cond (.seq .none .none) (.cut [59] (.seq .none (.cond .none (.seq .none (.cond .none (.seq .none (.cond .none (.seq .none (.cond .none .none)))))))) (.cond (.seq .none .none) .none)))))))))) (.seq .none .none))))))
theorem F148_eq (x0 : Value) (w : World) (R : Value → World → Prop) (E : Pan) : F148 x0 w R E = callX Tryd.prog [.tmp 2] c148 h148 [x0] w R E := by kernel_rfl
theorem F148_ok {x0 : Value} {w : World} {R : Value → World → Prop} {E : Pan} (h : F148 x0 w R E) : Cv Tryd.prog 148 #[x0] w R E := by
 refine callX_sound (args := [x0]) (c := c148) (h := h148) (rs := [.tmp 2]) Tryd.func148 (by kernel_rfl) (by kernel_rfl) (Nat.le_of_ble_eq_true (by kernel_rfl)) (by kernel_rfl) (by kernel_rfl) (by kernel_rfl) ?_
 rw [← F148_eq]
 exact h

/- function 149: (gnomon/tree.expr).parts -/
def F149 (x0 : Value) (w : World) (R : Value → World → Prop) (E : Pan) : Prop :=
 opK Tryd.prog E (xV (Instr.box 96 x0)) w fun t1_1 w_2 =>
 opK Tryd.prog E (xV (Instr.fieldAt 96 t1_1 0)) w_2 fun t3_3 w_4 =>
 opK Tryd.prog E (xV (Instr.fieldAt 30 t3_3 3)) w_4 fun t4_5 w_6 =>
 opK Tryd.prog E (xV (Instr.loadAt 28 t4_5)) w_6 fun t5_7 w_8 =>
 opK Tryd.prog E (xCall (Value.func (.func 150) #[] #[]) [t5_7, (Value.func (.func 151) #[] #[])]) w_8 fun t6_9 w_10 =>
 R t6_9 w_10
noncomputable def c149 : Code := Tryd.f149.body.getD .skip
def h149 : Hint := (.seq .none (.seq .none .none))
theorem F149_eq (x0 : Value) (w : World) (R : Value → World → Prop) (E : Pan) : F149 x0 w R E = callX Tryd.prog [.tmp 2] c149 h149 [x0] w R E := by kernel_rfl
theorem F149_ok {x0 : Value} {w : World} {R : Value → World → Prop} {E : Pan} (h : F149 x0 w R E) : Cv Tryd.prog 149 #[x0] w R E := by
 refine callX_sound (args := [x0]) (c := c149) (h := h149) (rs := [.tmp 2]) Tryd.func149 (by kernel_rfl) (by kernel_rfl) (Nat.le_of_ble_eq_true (by kernel_rfl)) (by kernel_rfl) (by kernel_rfl) (by kernel_rfl) ?_
 rw [← F149_eq]
 exact h

/- function 150: gnomon/tree.each[gnomon/api.Expr] -/
def F150_j1 (x5 : Value) (w : World) (R : Value → World → Prop) (_E : Pan) : Prop :=
 ∀ _τ : Fr, (R x5 w)
def F150_l2 (x1 x5 x8 x9 x10 : Value) (w : World) (next2 : List Value → World → Prop) (j1 : List Value → World → Prop) (_R : Value → World → Prop) (E : Pan) : Prop :=
 opK Tryd.prog E (xBin .lss 3 (.tmp 10) (.tmp 9) x10 x9) w fun t11_5 w_6 =>
 xcond t11_5
 (opK Tryd.prog E (xV (Instr.indexAt 28 x8 x10)) w_6 fun t12_7 w_8 =>
 opK Tryd.prog E (xV (Instr.loadAt 30 t12_7)) w_8 fun t13_9 w_10 =>
 opK Tryd.prog E (xV (Instr.alloc 30 true (.tuple #[]))) w_10 fun t7_11 w_12 =>
 opK Tryd.prog E (xU (Instr.storeAt 30 t7_11 t13_9)) w_12 fun _z_13 w_14 =>
 opK Tryd.prog E (xV (Instr.loadAt 30 t7_11)) w_14 fun t16_15 w_16 =>
 opK Tryd.prog E (xCall x1 [t16_15]) w_16 fun t17_17 w_18 =>
 opK Tryd.prog E (xV (Instr.buildSlice 97 1 #[(0, t17_17)])) w_18 fun t18_19 w_20 =>
 opK Tryd.prog E (xBuiltin .append #[97, 97] 97 [false, false] [x5, t18_19]) w_20 fun t19_21 w_22 =>
 opK Tryd.prog E (xBin .add 3 (.tmp 10) (.const (Value.int .i64 1)) x10 (Value.int .i64 1)) w_22 fun t20_23 w_24 =>
 next2 [t19_21, t20_23] w_24)
 (j1 [x5] w_6)
def F150 (x0 x1 : Value) (w : World) (R : Value → World → Prop) (E : Pan) : Prop :=
 xcut (fun l_1 w_2 => F150_j1 (nth l_1 0) w_2 R E) fun j1 =>
 opK Tryd.prog E (xBuiltin .len #[28] 3 [false] [x0]) w fun t9_3 w_4 =>
 xloop [5, 10] [(Value.slice none 0 0), (Value.int .i64 0)] w_4 fun τ_25 w_26 next2 =>
 F150_l2 x1 (τ_25 5) x0 t9_3 (τ_25 10) w_26 next2 j1 R E
noncomputable def c150 : Code := Tryd.f150.body.getD .skip
def h150 : Hint := (.seq .none (.seq .none (.cut [5] (.seq .none (.block (.loop [5, 10] (.seq .none (.seq (.cond .none .none) (.seq (.block (.seq .none .none)) .none)))))) (.seq .none .none))))
theorem F150_eq (x0 x1 : Value) (w : World) (R : Value → World → Prop) (E : Pan) : F150 x0 x1 w R E = callX Tryd.prog [.tmp 4] c150 h150 [x0, x1] w R E := by kernel_rfl
theorem F150_ok {x0 x1 : Value} {w : World} {R : Value → World → Prop} {E : Pan} (h : F150 x0 x1 w R E) : Cv Tryd.prog 150 #[x0, x1] w R E := by
 refine callX_sound (args := [x0, x1]) (c := c150) (h := h150) (rs := [.tmp 4]) Tryd.func150 (by kernel_rfl) (by kernel_rfl) (Nat.le_of_ble_eq_true (by kernel_rfl)) (by kernel_rfl) (by kernel_rfl) (by kernel_rfl) ?_
 rw [← F150_eq]
 exact h

/- function 151: gnomon/tree.exprOf -/
def F151 (x0 : Value) (w : World) (R : Value → World → Prop) (E : Pan) : Prop :=
 opK Tryd.prog E (xV (Instr.box 30 x0)) w fun t1_1 w_2 =>
 opK Tryd.prog E (xV (Instr.loadAt 30 t1_1)) w_2 fun t3_3 w_4 =>
 opK Tryd.prog E (xV (Instr.build 96 #[(0, t3_3)])) w_4 fun t4_5 w_6 =>
 opK Tryd.prog E (xV (Instr.makeInterface 96 t4_5)) w_6 fun t5_7 w_8 =>
 R t5_7 w_8
noncomputable def c151 : Code := Tryd.f151.body.getD .skip
def h151 : Hint := (.seq .none (.seq .none .none))
theorem F151_eq (x0 : Value) (w : World) (R : Value → World → Prop) (E : Pan) : F151 x0 w R E = callX Tryd.prog [.tmp 2] c151 h151 [x0] w R E := by kernel_rfl
theorem F151_ok {x0 : Value} {w : World} {R : Value → World → Prop} {E : Pan} (h : F151 x0 w R E) : Cv Tryd.prog 151 #[x0] w R E := by
 refine callX_sound (args := [x0]) (c := c151) (h := h151) (rs := [.tmp 2]) Tryd.func151 (by kernel_rfl) (by kernel_rfl) (Nat.le_of_ble_eq_true (by kernel_rfl)) (by kernel_rfl) (by kernel_rfl) (by kernel_rfl) ?_
 rw [← F151_eq]
 exact h

/- function 152: (gnomon/tree.cond).form -/
def F152_j2 (x3 x50 : Value) (w : World) (R : Value → World → Prop) (E : Pan) : Prop :=
 ∀ _τ : Fr, (xcond x50
 (opK Tryd.prog E (xV (Instr.loadAt 209 x3)) w fun t53_87 w_88 =>
 opK Tryd.prog E (xV (Instr.build 209 #[(0, (Value.int .i64 0)), (1, (Value.int .i64 2))])) w_88 fun t54_89 w_90 =>
 opK Tryd.prog E (xBin .eql 209 (.tmp 53) (.tmp 54) t53_87 t54_89) w_90 fun t55_91 w_92 =>
 R t55_91 w_92)
 (R (Value.bool false) w))
def F152_j1 (x3 x38 x39 : Value) (w : World) (R : Value → World → Prop) (E : Pan) : Prop :=
 ∀ _τ : Fr, (xcond x39
 (opK Tryd.prog E (xV (Instr.loadAt 209 x3)) w fun t42_73 w_74 =>
 opK Tryd.prog E (xV (Instr.build 209 #[])) w_74 fun t43_75 w_76 =>
 opK Tryd.prog E (xBin .eql 209 (.tmp 42) (.tmp 43) t42_73 t43_75) w_76 fun t44_77 w_78 =>
 R t44_77 w_78)
 (opK Tryd.prog E (xBin .eql 3 (.tmp 38) (.const (Value.int .i64 4)) x38 (Value.int .i64 4)) w fun t46_79 w_80 =>
 xcond t46_79
 (opK Tryd.prog E (xV (Instr.loadAt 209 x3)) w_80 fun t47_81 w_82 =>
 opK Tryd.prog E (xV (Instr.build 209 #[(0, (Value.int .i64 0)), (1, (Value.int .i64 1))])) w_82 fun t48_83 w_84 =>
 opK Tryd.prog E (xBin .eql 209 (.tmp 47) (.tmp 48) t47_81 t48_83) w_84 fun t49_85 w_86 =>
 R t49_85 w_86)
 (xcut (fun l_93 w_94 => F152_j2 x3 (nth l_93 0) w_94 R E) fun j2 =>
 opK Tryd.prog E (xBin .eql 3 (.tmp 38) (.const (Value.int .i64 5)) x38 (Value.int .i64 5)) w_80 fun t51_95 w_96 =>
 xcond t51_95
 (j2 [t51_95] w_96)
 (opK Tryd.prog E (xBin .eql 3 (.tmp 38) (.const (Value.int .i64 6)) x38 (Value.int .i64 6)) w_96 fun t52_97 w_98 =>
 j2 [t52_97] w_98))))
def F152 (x0 : Value) (w : World) (R : Value → World → Prop) (E : Pan) : Prop :=
 opK Tryd.prog E (xV (Instr.box 106 x0)) w fun t1_1 w_2 =>
 opK Tryd.prog E (xV (Instr.fieldAt 106 t1_1 0)) w_2 fun t4_3 w_4 =>
 opK Tryd.prog E (xV (Instr.fieldAt 33 t4_3 2)) w_4 fun t5_5 w_6 =>
 opK Tryd.prog E (xV (Instr.loadAt 28 t5_5)) w_6 fun t6_7 w_8 =>
 opK Tryd.prog E (xBuiltin .len #[28] 3 [false] [t6_7]) w_8 fun t7_9 w_10 =>
 opK Tryd.prog E (xV (Instr.fieldAt 106 t1_1 0)) w_10 fun t8_11 w_12 =>
 opK Tryd.prog E (xV (Instr.fieldAt 33 t8_11 3)) w_12 fun t9_13 w_14 =>
 opK Tryd.prog E (xV (Instr.loadAt 31 t9_13)) w_14 fun t10_15 w_16 =>
 opK Tryd.prog E (xBuiltin .len #[31] 3 [false] [t10_15]) w_16 fun t11_17 w_18 =>
 opK Tryd.prog E (xV (Instr.build 209 #[(0, t7_9), (1, t11_17)])) w_18 fun t12_19 w_20 =>
 opK Tryd.prog E (xV (Instr.alloc 209 true (.tuple #[]))) w_20 fun t3_21 w_22 =>
 opK Tryd.prog E (xU (Instr.storeAt 209 t3_21 t12_19)) w_22 fun _z_23 w_24 =>
 opK Tryd.prog E (xV (Instr.fieldAt 106 t1_1 0)) w_24 fun t13_25 w_26 =>
 opK Tryd.prog E (xV (Instr.fieldAt 33 t13_25 0)) w_26 fun t14_27 w_28 =>
 opK Tryd.prog E (xV (Instr.loadAt 3 t14_27)) w_28 fun t15_29 w_30 =>
 opK Tryd.prog E (xBin .eql 3 (.tmp 15) (.const (Value.int .i64 3)) t15_29 (Value.int .i64 3)) w_30 fun t16_31 w_32 =>
 xcond t16_31
 (opK Tryd.prog E (xV (Instr.fieldAt 106 t1_1 0)) w_32 fun t17_33 w_34 =>
 opK Tryd.prog E (xV (Instr.fieldAt 33 t17_33 1)) w_34 fun t18_35 w_36 =>
 opK Tryd.prog E (xV (Instr.loadAt 3 t18_35)) w_36 fun t19_37 w_38 =>
 opK Tryd.prog E (xBin .geq 3 (.tmp 19) (.const (Value.int .i64 1)) t19_37 (Value.int .i64 1)) w_38 fun t20_39 w_40 =>
 opK Tryd.prog E (gsem (asB t20_39) true (xV (Instr.fieldAt 106 t1_1 0))) w_40 fun t22_41 w_42 =>
 opK Tryd.prog E (gsem (asB t20_39) true (xV (Instr.fieldAt 33 t22_41 1))) w_42 fun t23_43 w_44 =>
 opK Tryd.prog E (gsem (asB t20_39) true (xV (Instr.loadAt 3 t23_43))) w_44 fun t24_45 w_46 =>
 opK Tryd.prog E (gsem (asB t20_39) true (xBin .leq 3 (.tmp 24) (.const (Value.int .i64 6)) t24_45 (Value.int .i64 6))) w_46 fun t25_47 w_48 =>
 opK Tryd.prog E (xPick t20_39 t25_47 (Value.bool false)) w_48 fun t26_49 w_50 =>
 opK Tryd.prog E (gsem (asB t26_49) true (xV (Instr.loadAt 209 t3_21))) w_50 fun t28_51 w_52 =>
 opK Tryd.prog E (gsem (asB t26_49) true (xV (Instr.build 209 #[(0, (Value.int .i64 2)), (1, (Value.int .i64 0))]))) w_52 fun t29_53 w_54 =>
 opK Tryd.prog E (gsem (asB t26_49) true (xBin .eql 209 (.tmp 28) (.tmp 29) t28_51 t29_53)) w_54 fun t30_55 w_56 =>
 opK Tryd.prog E (xPick t26_49 t30_55 (Value.bool false)) w_56 fun t31_57 w_58 =>
 R t31_57 w_58)
 (opK Tryd.prog E (xV (Instr.fieldAt 106 t1_1 0)) w_32 fun t32_59 w_60 =>
 opK Tryd.prog E (xV (Instr.fieldAt 33 t32_59 1)) w_60 fun t33_61 w_62 =>
 opK Tryd.prog E (xV (Instr.loadAt 3 t33_61)) w_62 fun t34_63 w_64 =>
 opK Tryd.prog E (xBin .neq 3 (.tmp 34) (.const (Value.int .i64 0)) t34_63 (Value.int .i64 0)) w_64 fun t35_65 w_66 =>
 xcond t35_65
 (R (Value.bool false) w_66)
 (opK Tryd.prog E (xV (Instr.fieldAt 106 t1_1 0)) w_66 fun t36_67 w_68 =>
 opK Tryd.prog E (xV (Instr.fieldAt 33 t36_67 0)) w_68 fun t37_69 w_70 =>
 opK Tryd.prog E (xV (Instr.loadAt 3 t37_69)) w_70 fun t38_71 w_72 =>
 xcut (fun l_99 w_100 => F152_j1 t3_21 t38_71 (nth l_99 0) w_100 R E) fun j1 =>
 opK Tryd.prog E (xBin .eql 3 (.tmp 38) (.const (Value.int .i64 1)) t38_71 (Value.int .i64 1)) w_72 fun t40_101 w_102 =>
 xcond t40_101
 (j1 [t40_101] w_102)
 (opK Tryd.prog E (xBin .eql 3 (.tmp 38) (.const (Value.int .i64 2)) t38_71 (Value.int .i64 2)) w_102 fun t41_103 w_104 =>
 j1 [t41_103] w_104)))
noncomputable def c152 : Code := Tryd.f152.body.getD .skip
def h152 : Hint := (.seq .none (.seq .none (.seq (.seq .none (.cond (.seq .none .none) .none)) (.seq (.seq .none (.cond (.seq .none .none) .none)) (.seq (.seq .none (.block (.cut [39] (.seq .none (.cond .none .none)) (.cond (.seq .none .none) (.seq .none (.cond (.seq .none .none) (.cut [50] (.seq .none (.cond .none .none)) (.cond (.seq .none .none) .none)))))))) (.seq .none .none))))))
theorem F152_eq (x0 : Value) (w : World) (R : Value → World → Prop) (E : Pan) : F152 x0 w R E = callX Tryd.prog [.tmp 2] c152 h152 [x0] w R E := by kernel_rfl
theorem F152_ok {x0 : Value} {w : World} {R : Value → World → Prop} {E : Pan} (h : F152 x0 w R E) : Cv Tryd.prog 152 #[x0] w R E := by
 refine callX_sound (args := [x0]) (c := c152) (h := h152) (rs := [.tmp 2]) Tryd.func152 (by kernel_rfl) (by kernel_rfl) (Nat.le_of_ble_eq_true (by kernel_rfl)) (by kernel_rfl) (by kernel_rfl) (by kernel_rfl) ?_
 rw [← F152_eq]
 exact h

/- function 153: (gnomon/tree.cond).parts -/
def F153 (x0 : Value) (w : World) (R : Value → World → Prop) (E : Pan) : Prop :=
 opK Tryd.prog E (xV (Instr.box 106 x0)) w fun t1_1 w_2 =>
 dX w_2 fun w_3 =>
 qP Tryd.prog (xV (Instr.fieldAt 106 t1_1 0)) fun t3_4 =>
 qP Tryd.prog (xV (Instr.fieldAt 33 t3_4 2)) fun t4_5 =>
 qP Tryd.prog (xV (Instr.fieldAt 106 t1_1 0)) fun t7_6 =>
 qP Tryd.prog (xV (Instr.fieldAt 33 t7_6 3)) fun t8_7 =>
 qL Tryd.prog w_3 (blk t4_5) (xV (Instr.loadAt 28 t4_5)) fun t5_8 =>
 qL Tryd.prog w_3 (blk t8_7) (xV (Instr.loadAt 31 t8_7)) fun t9_9 =>
 opK Tryd.prog E (xCall (Value.func (.func 150) #[] #[]) [t5_8, (Value.func (.func 151) #[] #[])]) w_3 fun t6_10 w_11 =>
 keepX [(blk t8_7)] w_3 w_11 (opK Tryd.prog E (xCall (Value.func (.func 154) #[] #[]) [t9_9, (Value.func (.func 155) #[] #[])]) w_11 fun t10_12 w_13 =>
 keepX [] w_11 w_13 (opK Tryd.prog E (xV (Instr.buildSlice 172 2 #[(0, t6_10), (1, t10_12)])) w_13 fun t11_14 w_15 =>
 keepX [] w_13 w_15 (opK Tryd.prog E (xCall (Value.func (.func 94) #[] #[]) [t11_14]) w_15 fun t12_16 w_17 =>
 keepX [] w_15 w_17 (R t12_16 w_17))))
noncomputable def c153 : Code := Tryd.f153.body.getD .skip
def h153 : Hint := (.seq .none (.seq (.reg [(0, 8, 2), (1, 16, 8), (2, 32, 16), (4, 64, 32), (0, 128, 2), (16, 256, 128), (32, 512, 256), (72, 1024, 512), (136, 2048, 1088), (384, 4096, 2048), (1023, 4, 4096)] [68, 68, 64, 64, 68, 68, 4, 0, 0, 0, 68] (.early 0 (.early 1 (.early 4 (.early 5 (.load 2 (.load 6 (.step 3 (.step 7 (.step 8 (.step 9 (.early 10 .done)))))))))))) .none))
theorem F153_eq (x0 : Value) (w : World) (R : Value → World → Prop) (E : Pan) : F153 x0 w R E = callX Tryd.prog [.tmp 2] c153 h153 [x0] w R E := by kernel_rfl
theorem F153_ok {x0 : Value} {w : World} {R : Value → World → Prop} {E : Pan} (h : F153 x0 w R E) : Cv Tryd.prog 153 #[x0] w R E := by
 refine callX_sound (args := [x0]) (c := c153) (h := h153) (rs := [.tmp 2]) Tryd.func153 (by kernel_rfl) (by kernel_rfl) (Nat.le_of_ble_eq_true (by kernel_rfl)) (by kernel_rfl) (by kernel_rfl) (by kernel_rfl) ?_
 rw [← F153_eq]
 exact h

end Go.Proofs.YthldnpmfelniiaaDoor
