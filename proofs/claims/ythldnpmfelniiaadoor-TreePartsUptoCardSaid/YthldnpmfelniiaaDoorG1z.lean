/-
  The second reading of some of the program's functions, printed by gen2.py off the code; each is held against the code by the kernel.
-/
import Derived.Test.YthldnpmfelniiaaDoorGO
namespace Go.Proofs.YthldnpmfelniiaaDoor
open Go.RowKit
set_option maxRecDepth 100000

/- function 4: gnomon/gnomonlaw3.TreeParts -/
def F4 (x0 x1 : Value) (w : World) (R : Value → World → Prop) (E : Pan) : Prop :=
 opK Tryd.prog E (xV (Instr.box 30 x0)) w fun t2_1 w_2 =>
 opK Tryd.prog E (xV (Instr.box 33 x1)) w_2 fun t3_3 w_4 =>
 dX w_4 fun w_5 =>
 opK Tryd.prog E (xCall (Value.func (.func 14) #[] #[]) []) w_5 fun t5_6 w_7 =>
 keepX [] w_5 w_7 (qL Tryd.prog w_7 (blk t2_1) (gsem (asB t5_6) true (xV (Instr.loadAt 30 t2_1))) fun t7_8 =>
 qL Tryd.prog w_7 (blk t2_1) (gsem (asB t5_6) true (xV (Instr.loadAt 30 t2_1))) fun t9_9 =>
 opK Tryd.prog E (gsem (asB t5_6) true (xCall (Value.func (.func 17) #[] #[]) [t7_8])) w_7 fun t8_10 w_11 =>
 keepX [(blk t2_1)] w_7 w_11 (opK Tryd.prog E (gsem (asB t5_6) true (xCall (Value.func (.func 18) #[] #[]) [t9_9])) w_11 fun t10_12 w_13 =>
 keepX [] w_11 w_13 (qP Tryd.prog (gsem (asB t5_6) true (xBin .eql 3 (.tmp 8) (.tmp 10) t8_10 t10_12)) fun t11_14 =>
 qP Tryd.prog (xPick t5_6 t11_14 (Value.bool false)) fun t12_15 =>
 qL Tryd.prog w_13 (blk t3_3) (gsem (asB t12_15) true (xV (Instr.loadAt 33 t3_3))) fun t14_16 =>
 qL Tryd.prog w_13 (blk t3_3) (gsem (asB t12_15) true (xV (Instr.loadAt 33 t3_3))) fun t16_17 =>
 opK Tryd.prog E (gsem (asB t12_15) true (xCall (Value.func (.func 19) #[] #[]) [t14_16])) w_13 fun t15_18 w_19 =>
 keepX [(blk t3_3)] w_13 w_19 (opK Tryd.prog E (gsem (asB t12_15) true (xCall (Value.func (.func 20) #[] #[]) [t16_17])) w_19 fun t17_20 w_21 =>
 keepX [] w_19 w_21 (qP Tryd.prog (gsem (asB t12_15) true (xBin .eql 3 (.tmp 15) (.tmp 17) t15_18 t17_20)) fun t18_22 =>
 qP Tryd.prog (xPick t12_15 t18_22 (Value.bool false)) fun t19_23 =>
 R t19_23 w_21)))))
noncomputable def c4 : Code := Tryd.f4.body.getD .skip
def h4 : Hint := (.seq .none (.seq (.reg [(0, 32, 0), (1, 64, 32), (2, 128, 68), (6, 256, 192), (2, 512, 68), (26, 1024, 576), (42, 2048, 1344), (66, 4096, 2112), (160, 8192, 4096), (256, 16384, 8200), (768, 32768, 24576), (256, 65536, 8200), (3328, 131072, 73728), (5376, 262144, 172032), (8448, 524288, 270336), (32767, 16, 524288)] [0, 2580, 2576, 16, 2564, 0, 2580, 2580, 2580, 2068, 2048, 532, 0, 2580, 2580, 2580] (.step 0 (.early 1 (.load 2 (.load 4 (.step 3 (.step 5 (.early 6 (.early 7 (.early 8 (.load 9 (.load 11 (.step 10 (.step 12 (.early 13 (.early 14 (.early 15 .done))))))))))))))))) .none))
theorem F4_eq (x0 x1 : Value) (w : World) (R : Value → World → Prop) (E : Pan) : F4 x0 x1 w R E = callX Tryd.prog [.tmp 4] c4 h4 [x0, x1] w R E := by kernel_rfl
theorem F4_ok {x0 x1 : Value} {w : World} {R : Value → World → Prop} {E : Pan} (h : F4 x0 x1 w R E) : Cv Tryd.prog 4 #[x0, x1] w R E := by
 refine callX_sound (args := [x0, x1]) (c := c4) (h := h4) (rs := [.tmp 4]) Tryd.func4 (by kernel_rfl) (by kernel_rfl) (Nat.le_of_ble_eq_true (by kernel_rfl)) (by kernel_rfl) (by kernel_rfl) (by kernel_rfl) ?_
 rw [← F4_eq]
 exact h

/- function 18: gnomon/gnomonref3.Expr -/
def F18 (x0 : Value) (w : World) (R : Value → World → Prop) (E : Pan) : Prop :=
 opK Tryd.prog E (xV (Instr.box 30 x0)) w fun t1_1 w_2 =>
 opK Tryd.prog E (xV (Instr.build 99 #[])) w_2 fun t5_3 w_4 =>
 opK Tryd.prog E (xV (Instr.alloc 99 true (.tuple #[]))) w_4 fun t3_5 w_6 =>
 opK Tryd.prog E (xU (Instr.storeAt 99 t3_5 t5_3)) w_6 fun _z_7 w_8 =>
 opK Tryd.prog E (xV (Instr.loadAt 30 t1_1)) w_8 fun t6_9 w_10 =>
 opK Tryd.prog E (xCall (Value.func (.func 58) #[] #[]) [t3_5, t6_9, (Value.int .i64 1)]) w_10 fun _t7_11 w_12 =>
 opK Tryd.prog E (xV (Instr.fieldAt 99 t3_5 2)) w_12 fun t8_13 w_14 =>
 opK Tryd.prog E (xV (Instr.loadAt 3 t8_13)) w_14 fun t9_15 w_16 =>
 opK Tryd.prog E (xBin .neq 3 (.tmp 9) (.const (Value.int .i64 0)) t9_15 (Value.int .i64 0)) w_16 fun t10_17 w_18 =>
 xcond t10_17
 (opK Tryd.prog E (xV (Instr.fieldAt 99 t3_5 2)) w_18 fun t11_19 w_20 =>
 opK Tryd.prog E (xV (Instr.loadAt 3 t11_19)) w_20 fun t12_21 w_22 =>
 R t12_21 w_22)
 (opK Tryd.prog E (xV (Instr.build 102 #[(0, (Value.bool true)), (1, (Value.bool true))])) w_18 fun t13_23 w_24 =>
 opK Tryd.prog E (xV (Instr.alloc 102 true (.tuple #[]))) w_24 fun t4_25 w_26 =>
 opK Tryd.prog E (xU (Instr.storeAt 102 t4_25 t13_23)) w_26 fun _z_27 w_28 =>
 opK Tryd.prog E (xV (Instr.loadAt 30 t1_1)) w_28 fun t14_29 w_30 =>
 opK Tryd.prog E (xCall (Value.func (.func 59) #[] #[]) [t4_25, t14_29]) w_30 fun _t15_31 w_32 =>
 opK Tryd.prog E (xV (Instr.loadAt 102 t4_25)) w_32 fun t16_33 w_34 =>
 opK Tryd.prog E (xCall (Value.func (.func 60) #[] #[]) [t16_33]) w_34 fun t17_35 w_36 =>
 R t17_35 w_36)
noncomputable def c18 : Code := Tryd.f18.body.getD .skip
def h18 : Hint := (.seq .none (.seq .none (.seq .none (.seq (.seq .none (.cond (.seq .none .none) .none)) (.seq .none (.seq .none (.seq .none .none)))))))
theorem F18_eq (x0 : Value) (w : World) (R : Value → World → Prop) (E : Pan) : F18 x0 w R E = callX Tryd.prog [.tmp 2] c18 h18 [x0] w R E := by kernel_rfl
theorem F18_ok {x0 : Value} {w : World} {R : Value → World → Prop} {E : Pan} (h : F18 x0 w R E) : Cv Tryd.prog 18 #[x0] w R E := by
 refine callX_sound (args := [x0]) (c := c18) (h := h18) (rs := [.tmp 2]) Tryd.func18 (by kernel_rfl) (by kernel_rfl) (Nat.le_of_ble_eq_true (by kernel_rfl)) (by kernel_rfl) (by kernel_rfl) (by kernel_rfl) ?_
 rw [← F18_eq]
 exact h

/- function 19: gnomon/tree.Cond -/
def F19 (x0 : Value) (w : World) (R : Value → World → Prop) (E : Pan) : Prop :=
 opK Tryd.prog E (xV (Instr.box 33 x0)) w fun t1_1 w_2 =>
 opK Tryd.prog E (xV (Instr.loadAt 33 t1_1)) w_2 fun t3_3 w_4 =>
 opK Tryd.prog E (xV (Instr.build 106 #[(0, t3_3)])) w_4 fun t4_5 w_6 =>
 opK Tryd.prog E (xV (Instr.makeInterface 106 t4_5)) w_6 fun t5_7 w_8 =>
 opK Tryd.prog E (xV (Instr.buildSlice 97 1 #[(0, t5_7)])) w_8 fun t6_9 w_10 =>
 opK Tryd.prog E (xCall (Value.func (.func 57) #[] #[]) [t6_9]) w_10 fun t7_11 w_12 =>
 opK Tryd.prog E (xNil t7_11) w_12 fun t8_13 w_14 =>
 opK Tryd.prog E (xV (Instr.fieldAt 92 t8_13 2)) w_14 fun t9_15 w_16 =>
 opK Tryd.prog E (xV (Instr.loadAt 34 t9_15)) w_16 fun t10_17 w_18 =>
 R t10_17 w_18
noncomputable def c19 : Code := Tryd.f19.body.getD .skip
def h19 : Hint := (.seq .none (.seq .none .none))
theorem F19_eq (x0 : Value) (w : World) (R : Value → World → Prop) (E : Pan) : F19 x0 w R E = callX Tryd.prog [.tmp 2] c19 h19 [x0] w R E := by kernel_rfl
theorem F19_ok {x0 : Value} {w : World} {R : Value → World → Prop} {E : Pan} (h : F19 x0 w R E) : Cv Tryd.prog 19 #[x0] w R E := by
 refine callX_sound (args := [x0]) (c := c19) (h := h19) (rs := [.tmp 2]) Tryd.func19 (by kernel_rfl) (by kernel_rfl) (Nat.le_of_ble_eq_true (by kernel_rfl)) (by kernel_rfl) (by kernel_rfl) (by kernel_rfl) ?_
 rw [← F19_eq]
 exact h

/- function 20: gnomon/gnomonref3.Cond -/
def F20 (x0 : Value) (w : World) (R : Value → World → Prop) (E : Pan) : Prop :=
 opK Tryd.prog E (xV (Instr.box 33 x0)) w fun t1_1 w_2 =>
 opK Tryd.prog E (xV (Instr.build 99 #[])) w_2 fun t5_3 w_4 =>
 opK Tryd.prog E (xV (Instr.alloc 99 true (.tuple #[]))) w_4 fun t3_5 w_6 =>
 opK Tryd.prog E (xU (Instr.storeAt 99 t3_5 t5_3)) w_6 fun _z_7 w_8 =>
 opK Tryd.prog E (xV (Instr.loadAt 33 t1_1)) w_8 fun t6_9 w_10 =>
 opK Tryd.prog E (xCall (Value.func (.func 61) #[] #[]) [t3_5, t6_9, (Value.int .i64 1)]) w_10 fun _t7_11 w_12 =>
 opK Tryd.prog E (xV (Instr.fieldAt 99 t3_5 2)) w_12 fun t8_13 w_14 =>
 opK Tryd.prog E (xV (Instr.loadAt 3 t8_13)) w_14 fun t9_15 w_16 =>
 opK Tryd.prog E (xBin .neq 3 (.tmp 9) (.const (Value.int .i64 0)) t9_15 (Value.int .i64 0)) w_16 fun t10_17 w_18 =>
 xcond t10_17
 (opK Tryd.prog E (xV (Instr.fieldAt 99 t3_5 2)) w_18 fun t11_19 w_20 =>
 opK Tryd.prog E (xV (Instr.loadAt 3 t11_19)) w_20 fun t12_21 w_22 =>
 R t12_21 w_22)
 (opK Tryd.prog E (xV (Instr.build 102 #[(0, (Value.bool true)), (1, (Value.bool true))])) w_18 fun t13_23 w_24 =>
 opK Tryd.prog E (xV (Instr.alloc 102 true (.tuple #[]))) w_24 fun t4_25 w_26 =>
 opK Tryd.prog E (xU (Instr.storeAt 102 t4_25 t13_23)) w_26 fun _z_27 w_28 =>
 opK Tryd.prog E (xV (Instr.loadAt 33 t1_1)) w_28 fun t14_29 w_30 =>
 opK Tryd.prog E (xCall (Value.func (.func 62) #[] #[]) [t4_25, t14_29]) w_30 fun _t15_31 w_32 =>
 opK Tryd.prog E (xV (Instr.loadAt 102 t4_25)) w_32 fun t16_33 w_34 =>
 opK Tryd.prog E (xCall (Value.func (.func 60) #[] #[]) [t16_33]) w_34 fun t17_35 w_36 =>
 R t17_35 w_36)
noncomputable def c20 : Code := Tryd.f20.body.getD .skip
def h20 : Hint := (.seq .none (.seq .none (.seq .none (.seq (.seq .none (.cond (.seq .none .none) .none)) (.seq .none (.seq .none (.seq .none .none)))))))
theorem F20_eq (x0 : Value) (w : World) (R : Value → World → Prop) (E : Pan) : F20 x0 w R E = callX Tryd.prog [.tmp 2] c20 h20 [x0] w R E := by kernel_rfl
theorem F20_ok {x0 : Value} {w : World} {R : Value → World → Prop} {E : Pan} (h : F20 x0 w R E) : Cv Tryd.prog 20 #[x0] w R E := by
 refine callX_sound (args := [x0]) (c := c20) (h := h20) (rs := [.tmp 2]) Tryd.func20 (by kernel_rfl) (by kernel_rfl) (Nat.le_of_ble_eq_true (by kernel_rfl)) (by kernel_rfl) (by kernel_rfl) (by kernel_rfl) ?_
 rw [← F20_eq]
 exact h

/- function 23: gnomon/gnomonref3.Check -/
def F23_j2 (x4 : Value) (w : World) (R : Value → World → Prop) (E : Pan) : Prop :=
 ∀ _τ : Fr, (opK Tryd.prog E (xV (Instr.loadAt 102 x4)) w fun t67_27 w_28 =>
 opK Tryd.prog E (xCall (Value.func (.func 60) #[] #[]) [t67_27]) w_28 fun t68_29 w_30 =>
 R t68_29 w_30)
def F23_l3 (x1 x4 x6 : Value) (w : World) (next3 : List Value → World → Prop) (j2 : List Value → World → Prop) (_R : Value → World → Prop) (E : Pan) : Prop :=
 opK Tryd.prog E (xV (Instr.fieldAt 25 x1 1)) w fun t51_33 w_34 =>
 opK Tryd.prog E (xV (Instr.loadAt 23 t51_33)) w_34 fun t52_35 w_36 =>
 opK Tryd.prog E (xBuiltin .len #[23] 3 [false] [t52_35]) w_36 fun t53_37 w_38 =>
 opK Tryd.prog E (xBin .lss 3 (.tmp 50) (.tmp 53) x6 t53_37) w_38 fun t54_39 w_40 =>
 opK Tryd.prog E (gsem (asB t54_39) true (xV (Instr.fieldAt 102 x4 0))) w_40 fun t56_41 w_42 =>
 opK Tryd.prog E (gsem (asB t54_39) true (xV (Instr.loadAt 4 t56_41))) w_42 fun t57_43 w_44 =>
 opK Tryd.prog E (xPick t54_39 t57_43 (Value.bool false)) w_44 fun t58_45 w_46 =>
 xcond t58_45
 (opK Tryd.prog E (xV (Instr.fieldAt 25 x1 1)) w_46 fun t61_47 w_48 =>
 opK Tryd.prog E (xV (Instr.loadAt 23 t61_47)) w_48 fun t62_49 w_50 =>
 opK Tryd.prog E (xV (Instr.indexAt 23 t62_49 x6)) w_50 fun t64_51 w_52 =>
 opK Tryd.prog E (xV (Instr.loadAt 88 t64_51)) w_52 fun t65_53 w_54 =>
 opK Tryd.prog E (xCall (Value.func (.func 65) #[] #[]) [x4, t65_53]) w_54 fun _t66_55 w_56 =>
 opK Tryd.prog E (xBin .add 3 (.tmp 59) (.const (Value.int .i64 1)) x6 (Value.int .i64 1)) w_56 fun t60_57 w_58 =>
 next3 [t60_57] w_58)
 (j2 [] w_46)
def F23_j1 (x1 x4 : Value) (w : World) (R : Value → World → Prop) (E : Pan) : Prop :=
 ∀ _τ : Fr, (xcut (fun _ w_32 => F23_j2 x4 w_32 R E) fun j2 =>
 xloop [6] [(Value.int .i64 0)] w fun τ_59 w_60 next3 =>
 F23_l3 x1 x4 (τ_59 6) w_60 next3 j2 R E)
def F23_l4 (x1 x4 x5 : Value) (w : World) (next4 : List Value → World → Prop) (j1 : List Value → World → Prop) (_R : Value → World → Prop) (E : Pan) : Prop :=
 opK Tryd.prog E (xV (Instr.fieldAt 25 x1 0)) w fun t16_63 w_64 =>
 opK Tryd.prog E (xV (Instr.loadAt 22 t16_63)) w_64 fun t17_65 w_66 =>
 opK Tryd.prog E (xBuiltin .len #[22] 3 [false] [t17_65]) w_66 fun t18_67 w_68 =>
 opK Tryd.prog E (xBin .lss 3 (.tmp 15) (.tmp 18) x5 t18_67) w_68 fun t19_69 w_70 =>
 xcond t19_69
 (opK Tryd.prog E (xV (Instr.fieldAt 102 x4 0)) w_70 fun t22_71 w_72 =>
 opK Tryd.prog E (xV (Instr.loadAt 4 t22_71)) w_72 fun t23_73 w_74 =>
 opK Tryd.prog E (gsem (asB t23_73) true (xV (Instr.fieldAt 25 x1 0))) w_74 fun t25_75 w_76 =>
 opK Tryd.prog E (gsem (asB t23_73) true (xV (Instr.loadAt 22 t25_75))) w_76 fun t26_77 w_78 =>
 opK Tryd.prog E (gsem (asB t23_73) true (xV (Instr.indexAt 22 t26_77 (gval (asB t23_73) true x5)))) w_78 fun t28_79 w_80 =>
 opK Tryd.prog E (gsem (asB t23_73) true (xV (Instr.fieldAt 67 t28_79 1))) w_80 fun t29_81 w_82 =>
 opK Tryd.prog E (gsem (asB t23_73) true (xV (Instr.loadAt 3 t29_81))) w_82 fun t30_83 w_84 =>
 opK Tryd.prog E (gsem (asB t23_73) true (xBin .geq 3 (.tmp 30) (.const (Value.int .i64 0)) t30_83 (Value.int .i64 0))) w_84 fun t31_85 w_86 =>
 opK Tryd.prog E (xPick t23_73 t31_85 (Value.bool false)) w_86 fun t32_87 w_88 =>
 opK Tryd.prog E (gsem (asB t32_87) true (xV (Instr.fieldAt 25 x1 0))) w_88 fun t34_89 w_90 =>
 opK Tryd.prog E (gsem (asB t32_87) true (xV (Instr.loadAt 22 t34_89))) w_90 fun t35_91 w_92 =>
 opK Tryd.prog E (gsem (asB t32_87) true (xV (Instr.indexAt 22 t35_91 (gval (asB t32_87) true x5)))) w_92 fun t37_93 w_94 =>
 opK Tryd.prog E (gsem (asB t32_87) true (xV (Instr.fieldAt 67 t37_93 1))) w_94 fun t38_95 w_96 =>
 opK Tryd.prog E (gsem (asB t32_87) true (xV (Instr.loadAt 3 t38_95))) w_96 fun t39_97 w_98 =>
 opK Tryd.prog E (gsem (asB t32_87) true (xBin .leq 3 (.tmp 39) (.const (Value.int .i64 2147483647)) t39_97 (Value.int .i64 2147483647))) w_98 fun t40_99 w_100 =>
 opK Tryd.prog E (xPick t32_87 t40_99 (Value.bool false)) w_100 fun t41_101 w_102 =>
 opK Tryd.prog E (xV (Instr.fieldAt 102 x4 0)) w_102 fun t42_103 w_104 =>
 opK Tryd.prog E (xU (Instr.storeAt 4 t42_103 t41_101)) w_104 fun _z_105 w_106 =>
 opK Tryd.prog E (xV (Instr.fieldAt 25 x1 0)) w_106 fun t43_107 w_108 =>
 opK Tryd.prog E (xV (Instr.loadAt 22 t43_107)) w_108 fun t44_109 w_110 =>
 opK Tryd.prog E (xV (Instr.indexAt 22 t44_109 x5)) w_110 fun t46_111 w_112 =>
 opK Tryd.prog E (xV (Instr.fieldAt 67 t46_111 0)) w_112 fun t47_113 w_114 =>
 opK Tryd.prog E (xV (Instr.loadAt 9 t47_113)) w_114 fun t48_115 w_116 =>
 opK Tryd.prog E (xCall (Value.func (.func 64) #[] #[]) [x4, t48_115, (Value.bool true)]) w_116 fun _t49_117 w_118 =>
 opK Tryd.prog E (xBin .add 3 (.tmp 20) (.const (Value.int .i64 1)) x5 (Value.int .i64 1)) w_118 fun t21_119 w_120 =>
 next4 [t21_119] w_120)
 (j1 [] w_70)
def F23 (x0 : Value) (w : World) (R : Value → World → Prop) (E : Pan) : Prop :=
 opK Tryd.prog E (xV (Instr.box 25 x0)) w fun t1_1 w_2 =>
 opK Tryd.prog E (xV (Instr.loadAt 25 t1_1)) w_2 fun t7_3 w_4 =>
 opK Tryd.prog E (xCall (Value.func (.func 63) #[] #[]) [t7_3]) w_4 fun t8_5 w_6 =>
 opK Tryd.prog E (xV (Instr.alloc 99 true (.tuple #[]))) w_6 fun t3_7 w_8 =>
 opK Tryd.prog E (xU (Instr.storeAt 99 t3_7 t8_5)) w_8 fun _z_9 w_10 =>
 opK Tryd.prog E (xV (Instr.fieldAt 99 t3_7 2)) w_10 fun t9_11 w_12 =>
 opK Tryd.prog E (xV (Instr.loadAt 3 t9_11)) w_12 fun t10_13 w_14 =>
 opK Tryd.prog E (xBin .neq 3 (.tmp 10) (.const (Value.int .i64 0)) t10_13 (Value.int .i64 0)) w_14 fun t11_15 w_16 =>
 xcond t11_15
 (opK Tryd.prog E (xV (Instr.fieldAt 99 t3_7 2)) w_16 fun t12_17 w_18 =>
 opK Tryd.prog E (xV (Instr.loadAt 3 t12_17)) w_18 fun t13_19 w_20 =>
 R t13_19 w_20)
 (opK Tryd.prog E (xV (Instr.build 102 #[(0, (Value.bool true)), (1, (Value.bool true))])) w_16 fun t14_21 w_22 =>
 opK Tryd.prog E (xV (Instr.alloc 102 true (.tuple #[]))) w_22 fun t4_23 w_24 =>
 opK Tryd.prog E (xU (Instr.storeAt 102 t4_23 t14_21)) w_24 fun _z_25 w_26 =>
 xcut (fun _ w_62 => F23_j1 t1_1 t4_23 w_62 R E) fun j1 =>
 xloop [5] [(Value.int .i64 0)] w_26 fun τ_121 w_122 next4 =>
 F23_l4 t1_1 t4_23 (τ_121 5) w_122 next4 j1 R E)
noncomputable def c23 : Code := Tryd.f23.body.getD .skip
def h23 : Hint := (.seq .none (.seq .none (.seq (.seq .none (.cond (.seq .none .none) .none)) (.seq .none (.cut [] (.seq .none (.block (.loop [5] (.seq (.seq .none (.cond .none .none)) (.seq (.block (.seq .none .none)) .none))))) (.cut [] (.seq .none (.block (.loop [6] (.seq (.seq .none (.cond .none .none)) (.seq (.block .none) .none))))) (.seq .none .none)))))))
theorem F23_eq (x0 : Value) (w : World) (R : Value → World → Prop) (E : Pan) : F23 x0 w R E = callX Tryd.prog [.tmp 2] c23 h23 [x0] w R E := by kernel_rfl
theorem F23_ok {x0 : Value} {w : World} {R : Value → World → Prop} {E : Pan} (h : F23 x0 w R E) : Cv Tryd.prog 23 #[x0] w R E := by
 refine callX_sound (args := [x0]) (c := c23) (h := h23) (rs := [.tmp 2]) Tryd.func23 (by kernel_rfl) (by kernel_rfl) (Nat.le_of_ble_eq_true (by kernel_rfl)) (by kernel_rfl) (by kernel_rfl) (by kernel_rfl) ?_
 rw [← F23_eq]
 exact h

/- function 59: (*gnomon/gnomonref3.form).expr -/
def F59_l2 (x0 x3 x5 : Value) (w : World) (next2 : List Value → World → Prop) (R : Value → World → Prop) (E : Pan) : Prop :=
 opK Tryd.prog E (xV (Instr.fieldAt 30 x3 3)) w fun t66_69 w_70 =>
 opK Tryd.prog E (xV (Instr.loadAt 28 t66_69)) w_70 fun t67_71 w_72 =>
 opK Tryd.prog E (xBuiltin .len #[28] 3 [false] [t67_71]) w_72 fun t68_73 w_74 =>
 opK Tryd.prog E (xBin .lss 3 (.tmp 65) (.tmp 68) x5 t68_73) w_74 fun t69_75 w_76 =>
 opK Tryd.prog E (gsem (asB t69_75) true (xNil (gval (asB t69_75) true x0))) w_76 fun t72_77 w_78 =>
 opK Tryd.prog E (gsem (asB t69_75) true (xV (Instr.fieldAt 102 t72_77 0))) w_78 fun t73_79 w_80 =>
 opK Tryd.prog E (gsem (asB t69_75) true (xV (Instr.loadAt 4 t73_79))) w_80 fun t74_81 w_82 =>
 opK Tryd.prog E (xPick t69_75 t74_81 (Value.bool false)) w_82 fun t75_83 w_84 =>
 xcond t75_83
 (opK Tryd.prog E (xV (Instr.fieldAt 30 x3 3)) w_84 fun t79_85 w_86 =>
 opK Tryd.prog E (xV (Instr.loadAt 28 t79_85)) w_86 fun t80_87 w_88 =>
 opK Tryd.prog E (xV (Instr.indexAt 28 t80_87 x5)) w_88 fun t82_89 w_90 =>
 opK Tryd.prog E (xV (Instr.loadAt 30 t82_89)) w_90 fun t83_91 w_92 =>
 opK Tryd.prog E (xCall (Value.func (.func 59) #[] #[]) [x0, t83_91]) w_92 fun _t84_93 w_94 =>
 opK Tryd.prog E (xBin .add 3 (.tmp 76) (.const (Value.int .i64 1)) x5 (Value.int .i64 1)) w_94 fun t77_95 w_96 =>
 next2 [t77_95] w_96)
 (R (Value.tuple #[]) w_84)
def F59_j1 (x0 x3 x4 : Value) (w : World) (R : Value → World → Prop) (E : Pan) : Prop :=
 ∀ _τ : Fr, (opK Tryd.prog E (xV (Instr.fieldAt 30 x3 2)) w fun t25_3 w_4 =>
 opK Tryd.prog E (xV (Instr.loadAt 9 t25_3)) w_4 fun t26_5 w_6 =>
 opK Tryd.prog E (xV (Instr.fieldAt 30 x3 0)) w_6 fun t27_7 w_8 =>
 opK Tryd.prog E (xV (Instr.loadAt 3 t27_7)) w_8 fun t28_9 w_10 =>
 opK Tryd.prog E (xBin .eql 3 (.tmp 28) (.const (Value.int .i64 2)) t28_9 (Value.int .i64 2)) w_10 fun t29_11 w_12 =>
 opK Tryd.prog E (gsem (asB t29_11) false (xV (Instr.fieldAt 30 x3 0))) w_12 fun t31_13 w_14 =>
 opK Tryd.prog E (gsem (asB t29_11) false (xV (Instr.loadAt 3 t31_13))) w_14 fun t32_15 w_16 =>
 opK Tryd.prog E (gsem (asB t29_11) false (xBin .eql 3 (.tmp 32) (.const (Value.int .i64 4)) t32_15 (Value.int .i64 4))) w_16 fun t33_17 w_18 =>
 opK Tryd.prog E (xPick t29_11 (Value.bool true) t33_17) w_18 fun t34_19 w_20 =>
 opK Tryd.prog E (xCall (Value.func (.func 64) #[] #[]) [x0, t26_5, t34_19]) w_20 fun _t35_21 w_22 =>
 opK Tryd.prog E (xNil x0) w_22 fun t38_23 w_24 =>
 opK Tryd.prog E (xV (Instr.fieldAt 102 t38_23 0)) w_24 fun t39_25 w_26 =>
 opK Tryd.prog E (xV (Instr.loadAt 4 t39_25)) w_26 fun t40_27 w_28 =>
 opK Tryd.prog E (gsem (asB t40_27) true (xV (Instr.fieldAt 30 x3 3))) w_28 fun t42_29 w_30 =>
 opK Tryd.prog E (gsem (asB t40_27) true (xV (Instr.loadAt 28 t42_29))) w_30 fun t43_31 w_32 =>
 opK Tryd.prog E (gsem (asB t40_27) true (xBuiltin .len #[28] 3 [false] [t43_31])) w_32 fun t44_33 w_34 =>
 opK Tryd.prog E (gsem (asB t40_27) true (xBin .eql 3 (.tmp 44) (.tmp 45) t44_33 (gval (asB t40_27) true x4))) w_34 fun t46_35 w_36 =>
 opK Tryd.prog E (xPick t40_27 t46_35 (Value.bool false)) w_36 fun t47_37 w_38 =>
 opK Tryd.prog E (gsem (asB t47_37) true (xV (Instr.fieldAt 30 x3 1))) w_38 fun t49_39 w_40 =>
 opK Tryd.prog E (gsem (asB t47_37) true (xV (Instr.loadAt 2 t49_39))) w_40 fun t50_41 w_42 =>
 opK Tryd.prog E (gsem (asB t47_37) true (xBin .eql 2 (.tmp 50) (.const (Value.int .i64 0)) t50_41 (Value.int .i64 0))) w_42 fun t51_43 w_44 =>
 opK Tryd.prog E (gsem (asB (gval (asB t47_37) true t51_43)) false (xV (Instr.fieldAt 30 x3 0))) w_44 fun t53_45 w_46 =>
 opK Tryd.prog E (gsem (asB (gval (asB t47_37) true t51_43)) false (xV (Instr.loadAt 3 t53_45))) w_46 fun t54_47 w_48 =>
 opK Tryd.prog E (gsem (asB (gval (asB t47_37) true t51_43)) false (xBin .eql 3 (.tmp 54) (.const (Value.int .i64 1)) t54_47 (Value.int .i64 1))) w_48 fun t55_49 w_50 =>
 opK Tryd.prog E (gsem (asB (gval (asB (gval (asB t47_37) true t51_43)) false t55_49)) true (xV (Instr.fieldAt 30 x3 1))) w_50 fun t57_51 w_52 =>
 opK Tryd.prog E (gsem (asB (gval (asB (gval (asB t47_37) true t51_43)) false t55_49)) true (xV (Instr.loadAt 2 t57_51))) w_52 fun t58_53 w_54 =>
 opK Tryd.prog E (gsem (asB (gval (asB (gval (asB t47_37) true t51_43)) false t55_49)) true (xBin .gtr 2 (.tmp 58) (.const (Value.int .i64 0)) t58_53 (Value.int .i64 0))) w_54 fun t59_55 w_56 =>
 opK Tryd.prog E (gsem (asB (gval (asB t47_37) true t51_43)) false (xPick (gval (asB (gval (asB t47_37) true t51_43)) false t55_49) t59_55 (Value.bool false))) w_56 fun t60_57 w_58 =>
 opK Tryd.prog E (gsem (asB t47_37) true (xPick (gval (asB t47_37) true t51_43) (Value.bool true) t60_57)) w_58 fun t61_59 w_60 =>
 opK Tryd.prog E (xPick t47_37 t61_59 (Value.bool false)) w_60 fun t62_61 w_62 =>
 opK Tryd.prog E (xNil x0) w_62 fun t63_63 w_64 =>
 opK Tryd.prog E (xV (Instr.fieldAt 102 t63_63 0)) w_64 fun t64_65 w_66 =>
 opK Tryd.prog E (xU (Instr.storeAt 4 t64_65 t62_61)) w_66 fun _z_67 w_68 =>
 xloop [5] [(Value.int .i64 0)] w_68 fun τ_97 w_98 next2 =>
 F59_l2 x0 x3 (τ_97 5) w_98 next2 R E)
def F59_j5 (x0 _x3 x4 x18 : Value) (w : World) (j1 : List Value → World → Prop) (_R : Value → World → Prop) (E : Pan) : Prop :=
 ∀ _τ : Fr, (xcond x18
 (j1 [(Value.int .i64 2)] w)
 (opK Tryd.prog E (xNil x0) w fun t9_105 w_106 =>
 opK Tryd.prog E (xV (Instr.fieldAt 102 t9_105 0)) w_106 fun t10_107 w_108 =>
 opK Tryd.prog E (xU (Instr.storeAt 4 t10_107 (Value.bool false))) w_108 fun _z_109 w_110 =>
 j1 [x4] w_110))
def F59_j4 (x0 x3 x4 x7 x15 : Value) (w : World) (j1 : List Value → World → Prop) (R : Value → World → Prop) (E : Pan) : Prop :=
 ∀ _τ : Fr, (xcond x15
 (j1 [(Value.int .i64 1)] w)
 (xcut (fun l_111 w_112 => F59_j5 x0 x3 x4 (nth l_111 0) w_112 j1 R E) fun j5 =>
 opK Tryd.prog E (xBin .eql 3 (.tmp 7) (.const (Value.int .i64 6)) x7 (Value.int .i64 6)) w fun t19_113 w_114 =>
 xcond t19_113
 (j5 [t19_113] w_114)
 (opK Tryd.prog E (xBin .eql 3 (.tmp 7) (.const (Value.int .i64 7)) x7 (Value.int .i64 7)) w_114 fun t20_115 w_116 =>
 xcond t20_115
 (j5 [t20_115] w_116)
 (opK Tryd.prog E (xBin .eql 3 (.tmp 7) (.const (Value.int .i64 8)) x7 (Value.int .i64 8)) w_116 fun t21_117 w_118 =>
 xcond t21_117
 (j5 [t21_117] w_118)
 (opK Tryd.prog E (xBin .eql 3 (.tmp 7) (.const (Value.int .i64 9)) x7 (Value.int .i64 9)) w_118 fun t22_119 w_120 =>
 xcond t22_119
 (j5 [t22_119] w_120)
 (opK Tryd.prog E (xBin .eql 3 (.tmp 7) (.const (Value.int .i64 10)) x7 (Value.int .i64 10)) w_120 fun t23_121 w_122 =>
 j5 [t23_121] w_122))))))
def F59_j3 (x0 x3 x4 x7 x11 : Value) (w : World) (j1 : List Value → World → Prop) (R : Value → World → Prop) (E : Pan) : Prop :=
 ∀ _τ : Fr, (xcond x11
 (j1 [x4] w)
 (xcut (fun l_123 w_124 => F59_j4 x0 x3 x4 x7 (nth l_123 0) w_124 j1 R E) fun j4 =>
 opK Tryd.prog E (xBin .eql 3 (.tmp 7) (.const (Value.int .i64 4)) x7 (Value.int .i64 4)) w fun t16_125 w_126 =>
 xcond t16_125
 (j4 [t16_125] w_126)
 (opK Tryd.prog E (xBin .eql 3 (.tmp 7) (.const (Value.int .i64 5)) x7 (Value.int .i64 5)) w_126 fun t17_127 w_128 =>
 j4 [t17_127] w_128)))
def F59 (x0 x1 : Value) (w : World) (R : Value → World → Prop) (E : Pan) : Prop :=
 opK Tryd.prog E (xV (Instr.box 30 x1)) w fun t3_1 w_2 =>
 xcut (fun l_99 w_100 => F59_j1 x0 t3_1 (nth l_99 0) w_100 R E) fun j1 =>
 opK Tryd.prog E (xV (Instr.fieldAt 30 t3_1 0)) w_2 fun t6_101 w_102 =>
 opK Tryd.prog E (xV (Instr.loadAt 3 t6_101)) w_102 fun t7_103 w_104 =>
 xcut (fun l_129 w_130 => F59_j3 x0 t3_1 (Value.int .i64 0) t7_103 (nth l_129 0) w_130 j1 R E) fun j3 =>
 opK Tryd.prog E (xBin .eql 3 (.tmp 7) (.const (Value.int .i64 1)) t7_103 (Value.int .i64 1)) w_104 fun t12_131 w_132 =>
 xcond t12_131
 (j3 [t12_131] w_132)
 (opK Tryd.prog E (xBin .eql 3 (.tmp 7) (.const (Value.int .i64 2)) t7_103 (Value.int .i64 2)) w_132 fun t13_133 w_134 =>
 xcond t13_133
 (j3 [t13_133] w_134)
 (opK Tryd.prog E (xBin .eql 3 (.tmp 7) (.const (Value.int .i64 3)) t7_103 (Value.int .i64 3)) w_134 fun t14_135 w_136 =>
 j3 [t14_135] w_136))
noncomputable def c59 : Code := Tryd.f59.body.getD .skip
def h59 : Hint := (.seq .none (.seq .none (.cut [4] (.seq .none (.block (.cut [11] (.seq .none (.cond .none (.seq .none (.cond .none .none)))) (.cond .none (.cut [15] (.seq .none (.cond .none .none)) (.cond .none (.cut [18] (.seq .none (.cond .none (.seq .none (.cond .none (.seq .none (.cond .none (.seq .none (.cond .none .none)))))))) (.cond .none .none)))))))) (.seq .none (.seq .none (.seq .none (.block (.loop [5] (.seq (.seq .none (.cond .none .none)) (.seq (.block .none) .none))))))))))
theorem F59_eq (x0 x1 : Value) (w : World) (R : Value → World → Prop) (E : Pan) : F59 x0 x1 w R E = callX Tryd.prog [] c59 h59 [x0, x1] w R E := by kernel_rfl
theorem F59_ok {x0 x1 : Value} {w : World} {R : Value → World → Prop} {E : Pan} (h : F59 x0 x1 w R E) : Cv Tryd.prog 59 #[x0, x1] w R E := by
 refine callX_sound (args := [x0, x1]) (c := c59) (h := h59) (rs := []) Tryd.func59 (by kernel_rfl) (by kernel_rfl) (Nat.le_of_ble_eq_true (by kernel_rfl)) (by kernel_rfl) (by kernel_rfl) (by kernel_rfl) ?_
 rw [← F59_eq]
 exact h

/- function 60: (gnomon/gnomonref3.form).told -/
def F60 (x0 : Value) (w : World) (R : Value → World → Prop) (E : Pan) : Prop :=
 opK Tryd.prog E (xV (Instr.box 102 x0)) w fun t1_1 w_2 =>
 opK Tryd.prog E (xV (Instr.fieldAt 102 t1_1 0)) w_2 fun t3_3 w_4 =>
 opK Tryd.prog E (xV (Instr.loadAt 4 t3_3)) w_4 fun t4_5 w_6 =>
 opK Tryd.prog E (xV (Op.unary .not t4_5)) w_6 fun t5_7 w_8 =>
 xcond t5_7
 (R (Value.int .i64 30) w_8)
 (opK Tryd.prog E (xV (Instr.fieldAt 102 t1_1 1)) w_8 fun t6_9 w_10 =>
 opK Tryd.prog E (xV (Instr.loadAt 4 t6_9)) w_10 fun t7_11 w_12 =>
 opK Tryd.prog E (xV (Op.unary .not t7_11)) w_12 fun t8_13 w_14 =>
 xcond t8_13
 (R (Value.int .i64 31) w_14)
 (R (Value.int .i64 0) w_14))
noncomputable def c60 : Code := Tryd.f60.body.getD .skip
def h60 : Hint := (.seq .none (.seq (.seq .none (.cond (.seq .none .none) .none)) (.seq (.seq .none (.cond (.seq .none .none) .none)) (.seq .none .none))))
theorem F60_eq (x0 : Value) (w : World) (R : Value → World → Prop) (E : Pan) : F60 x0 w R E = callX Tryd.prog [.tmp 2] c60 h60 [x0] w R E := by kernel_rfl
theorem F60_ok {x0 : Value} {w : World} {R : Value → World → Prop} {E : Pan} (h : F60 x0 w R E) : Cv Tryd.prog 60 #[x0] w R E := by
 refine callX_sound (args := [x0]) (c := c60) (h := h60) (rs := [.tmp 2]) Tryd.func60 (by kernel_rfl) (by kernel_rfl) (Nat.le_of_ble_eq_true (by kernel_rfl)) (by kernel_rfl) (by kernel_rfl) (by kernel_rfl) ?_
 rw [← F60_eq]
 exact h

/- function 62: (*gnomon/gnomonref3.form).cond -/
def F62_l4 (x0 x3 x8 : Value) (w : World) (next4 : List Value → World → Prop) (R : Value → World → Prop) (E : Pan) : Prop :=
 opK Tryd.prog E (xV (Instr.fieldAt 33 x3 3)) w fun t83_43 w_44 =>
 opK Tryd.prog E (xV (Instr.loadAt 31 t83_43)) w_44 fun t84_45 w_46 =>
 opK Tryd.prog E (xBuiltin .len #[31] 3 [false] [t84_45]) w_46 fun t85_47 w_48 =>
 opK Tryd.prog E (xBin .lss 3 (.tmp 82) (.tmp 85) x8 t85_47) w_48 fun t86_49 w_50 =>
 opK Tryd.prog E (gsem (asB t86_49) true (xNil (gval (asB t86_49) true x0))) w_50 fun t89_51 w_52 =>
 opK Tryd.prog E (gsem (asB t86_49) true (xV (Instr.fieldAt 102 t89_51 0))) w_52 fun t90_53 w_54 =>
 opK Tryd.prog E (gsem (asB t86_49) true (xV (Instr.loadAt 4 t90_53))) w_54 fun t91_55 w_56 =>
 opK Tryd.prog E (xPick t86_49 t91_55 (Value.bool false)) w_56 fun t92_57 w_58 =>
 xcond t92_57
 (opK Tryd.prog E (xV (Instr.fieldAt 33 x3 3)) w_58 fun t96_59 w_60 =>
 opK Tryd.prog E (xV (Instr.loadAt 31 t96_59)) w_60 fun t97_61 w_62 =>
 opK Tryd.prog E (xV (Instr.indexAt 31 t97_61 x8)) w_62 fun t99_63 w_64 =>
 opK Tryd.prog E (xV (Instr.loadAt 33 t99_63)) w_64 fun t100_65 w_66 =>
 opK Tryd.prog E (xCall (Value.func (.func 62) #[] #[]) [x0, t100_65]) w_66 fun _t101_67 w_68 =>
 opK Tryd.prog E (xBin .add 3 (.tmp 93) (.const (Value.int .i64 1)) x8 (Value.int .i64 1)) w_68 fun t94_69 w_70 =>
 next4 [t94_69] w_70)
 (R (Value.tuple #[]) w_58)
def F62_j3 (x0 x3 : Value) (w : World) (R : Value → World → Prop) (E : Pan) : Prop :=
 ∀ _τ : Fr, (xloop [8] [(Value.int .i64 0)] w fun τ_71 w_72 next4 =>
 F62_l4 x0 x3 (τ_71 8) w_72 next4 R E)
def F62_l5 (x0 x3 x7 : Value) (w : World) (next5 : List Value → World → Prop) (j3 : List Value → World → Prop) (_R : Value → World → Prop) (E : Pan) : Prop :=
 opK Tryd.prog E (xV (Instr.fieldAt 33 x3 2)) w fun t63_75 w_76 =>
 opK Tryd.prog E (xV (Instr.loadAt 28 t63_75)) w_76 fun t64_77 w_78 =>
 opK Tryd.prog E (xBuiltin .len #[28] 3 [false] [t64_77]) w_78 fun t65_79 w_80 =>
 opK Tryd.prog E (xBin .lss 3 (.tmp 62) (.tmp 65) x7 t65_79) w_80 fun t66_81 w_82 =>
 opK Tryd.prog E (gsem (asB t66_81) true (xNil (gval (asB t66_81) true x0))) w_82 fun t69_83 w_84 =>
 opK Tryd.prog E (gsem (asB t66_81) true (xV (Instr.fieldAt 102 t69_83 0))) w_84 fun t70_85 w_86 =>
 opK Tryd.prog E (gsem (asB t66_81) true (xV (Instr.loadAt 4 t70_85))) w_86 fun t71_87 w_88 =>
 opK Tryd.prog E (xPick t66_81 t71_87 (Value.bool false)) w_88 fun t72_89 w_90 =>
 xcond t72_89
 (opK Tryd.prog E (xV (Instr.fieldAt 33 x3 2)) w_90 fun t76_91 w_92 =>
 opK Tryd.prog E (xV (Instr.loadAt 28 t76_91)) w_92 fun t77_93 w_94 =>
 opK Tryd.prog E (xV (Instr.indexAt 28 t77_93 x7)) w_94 fun t79_95 w_96 =>
 opK Tryd.prog E (xV (Instr.loadAt 30 t79_95)) w_96 fun t80_97 w_98 =>
 opK Tryd.prog E (xCall (Value.func (.func 59) #[] #[]) [x0, t80_97]) w_98 fun _t81_99 w_100 =>
 opK Tryd.prog E (xBin .add 3 (.tmp 73) (.const (Value.int .i64 1)) x7 (Value.int .i64 1)) w_100 fun t74_101 w_102 =>
 next5 [t74_101] w_102)
 (j3 [] w_90)
def F62_j2 (x0 x3 x4 x5 x6 : Value) (w : World) (R : Value → World → Prop) (E : Pan) : Prop :=
 ∀ _τ : Fr, (opK Tryd.prog E (xNil x0) w fun t40_9 w_10 =>
 opK Tryd.prog E (xV (Instr.fieldAt 102 t40_9 0)) w_10 fun t41_11 w_12 =>
 opK Tryd.prog E (xV (Instr.loadAt 4 t41_11)) w_12 fun t42_13 w_14 =>
 opK Tryd.prog E (xPick t42_13 (gval (asB t42_13) true x6) (Value.bool false)) w_14 fun t45_15 w_16 =>
 opK Tryd.prog E (gsem (asB t45_15) true (xV (Instr.fieldAt 33 x3 2))) w_16 fun t47_17 w_18 =>
 opK Tryd.prog E (gsem (asB t45_15) true (xV (Instr.loadAt 28 t47_17))) w_18 fun t48_19 w_20 =>
 opK Tryd.prog E (gsem (asB t45_15) true (xBuiltin .len #[28] 3 [false] [t48_19])) w_20 fun t49_21 w_22 =>
 opK Tryd.prog E (gsem (asB t45_15) true (xBin .eql 3 (.tmp 49) (.tmp 50) t49_21 (gval (asB t45_15) true x4))) w_22 fun t51_23 w_24 =>
 opK Tryd.prog E (xPick t45_15 t51_23 (Value.bool false)) w_24 fun t52_25 w_26 =>
 opK Tryd.prog E (gsem (asB t52_25) true (xV (Instr.fieldAt 33 x3 3))) w_26 fun t54_27 w_28 =>
 opK Tryd.prog E (gsem (asB t52_25) true (xV (Instr.loadAt 31 t54_27))) w_28 fun t55_29 w_30 =>
 opK Tryd.prog E (gsem (asB t52_25) true (xBuiltin .len #[31] 3 [false] [t55_29])) w_30 fun t56_31 w_32 =>
 opK Tryd.prog E (gsem (asB t52_25) true (xBin .eql 3 (.tmp 56) (.tmp 57) t56_31 (gval (asB t52_25) true x5))) w_32 fun t58_33 w_34 =>
 opK Tryd.prog E (xPick t52_25 t58_33 (Value.bool false)) w_34 fun t59_35 w_36 =>
 opK Tryd.prog E (xNil x0) w_36 fun t60_37 w_38 =>
 opK Tryd.prog E (xV (Instr.fieldAt 102 t60_37 0)) w_38 fun t61_39 w_40 =>
 opK Tryd.prog E (xU (Instr.storeAt 4 t61_39 t59_35)) w_40 fun _z_41 w_42 =>
 xcut (fun _ w_74 => F62_j3 x0 x3 w_74 R E) fun j3 =>
 xloop [7] [(Value.int .i64 0)] w_42 fun τ_103 w_104 next5 =>
 F62_l5 x0 x3 (τ_103 7) w_104 next5 j3 R E)
def F62_j1 (x0 x3 x4 x5 : Value) (w : World) (R : Value → World → Prop) (E : Pan) : Prop :=
 ∀ _τ : Fr, (opK Tryd.prog E (xV (Instr.fieldAt 33 x3 1)) w fun t24_3 w_4 =>
 opK Tryd.prog E (xV (Instr.loadAt 3 t24_3)) w_4 fun t25_5 w_6 =>
 opK Tryd.prog E (xBin .eql 3 (.tmp 25) (.const (Value.int .i64 0)) t25_5 (Value.int .i64 0)) w_6 fun t26_7 w_8 =>
 xcut (fun l_105 w_106 => F62_j2 x0 x3 x4 x5 (nth l_105 0) w_106 R E) fun j2 =>
 opK Tryd.prog E (xV (Instr.fieldAt 33 x3 0)) w_8 fun t27_107 w_108 =>
 opK Tryd.prog E (xV (Instr.loadAt 3 t27_107)) w_108 fun t28_109 w_110 =>
 opK Tryd.prog E (xBin .eql 3 (.tmp 28) (.const (Value.int .i64 3)) t28_109 (Value.int .i64 3)) w_110 fun t29_111 w_112 =>
 xcond t29_111
 (opK Tryd.prog E (xV (Instr.fieldAt 33 x3 1)) w_112 fun t30_113 w_114 =>
 opK Tryd.prog E (xV (Instr.loadAt 3 t30_113)) w_114 fun t31_115 w_116 =>
 opK Tryd.prog E (xBin .geq 3 (.tmp 31) (.const (Value.int .i64 1)) t31_115 (Value.int .i64 1)) w_116 fun t32_117 w_118 =>
 opK Tryd.prog E (gsem (asB t32_117) true (xV (Instr.fieldAt 33 x3 1))) w_118 fun t34_119 w_120 =>
 opK Tryd.prog E (gsem (asB t32_117) true (xV (Instr.loadAt 3 t34_119))) w_120 fun t35_121 w_122 =>
 opK Tryd.prog E (gsem (asB t32_117) true (xBin .leq 3 (.tmp 35) (.const (Value.int .i64 6)) t35_121 (Value.int .i64 6))) w_122 fun t36_123 w_124 =>
 opK Tryd.prog E (xPick t32_117 t36_123 (Value.bool false)) w_124 fun t37_125 w_126 =>
 j2 [t37_125] w_126)
 (j2 [t26_7] w_112))
def F62_j7 (x0 _x3 x4 x5 x21 : Value) (w : World) (j1 : List Value → World → Prop) (_R : Value → World → Prop) (E : Pan) : Prop :=
 ∀ _τ : Fr, (xcond x21
 (j1 [x4, (Value.int .i64 2)] w)
 (opK Tryd.prog E (xNil x0) w fun t12_137 w_138 =>
 opK Tryd.prog E (xV (Instr.fieldAt 102 t12_137 0)) w_138 fun t13_139 w_140 =>
 opK Tryd.prog E (xU (Instr.storeAt 4 t13_139 (Value.bool false))) w_140 fun _z_141 w_142 =>
 j1 [x4, x5] w_142))
def F62_j6 (x0 x3 x4 x5 x10 x14 : Value) (w : World) (j1 : List Value → World → Prop) (R : Value → World → Prop) (E : Pan) : Prop :=
 ∀ _τ : Fr, (xcond x14
 (j1 [x4, x5] w)
 (opK Tryd.prog E (xBin .eql 3 (.tmp 10) (.const (Value.int .i64 3)) x10 (Value.int .i64 3)) w fun t18_133 w_134 =>
 xcond t18_133
 (j1 [(Value.int .i64 2), x5] w_134)
 (opK Tryd.prog E (xBin .eql 3 (.tmp 10) (.const (Value.int .i64 4)) x10 (Value.int .i64 4)) w_134 fun t20_135 w_136 =>
 xcond t20_135
 (j1 [x4, (Value.int .i64 1)] w_136)
 (xcut (fun l_143 w_144 => F62_j7 x0 x3 x4 x5 (nth l_143 0) w_144 j1 R E) fun j7 =>
 opK Tryd.prog E (xBin .eql 3 (.tmp 10) (.const (Value.int .i64 5)) x10 (Value.int .i64 5)) w_136 fun t22_145 w_146 =>
 xcond t22_145
 (j7 [t22_145] w_146)
 (opK Tryd.prog E (xBin .eql 3 (.tmp 10) (.const (Value.int .i64 6)) x10 (Value.int .i64 6)) w_146 fun t23_147 w_148 =>
 j7 [t23_147] w_148)))))
def F62 (x0 x1 : Value) (w : World) (R : Value → World → Prop) (E : Pan) : Prop :=
 opK Tryd.prog E (xV (Instr.box 33 x1)) w fun t3_1 w_2 =>
 xcut (fun l_127 w_128 => F62_j1 x0 t3_1 (nth l_127 0) (nth l_127.tail 0) w_128 R E) fun j1 =>
 opK Tryd.prog E (xV (Instr.fieldAt 33 t3_1 0)) w_2 fun t9_129 w_130 =>
 opK Tryd.prog E (xV (Instr.loadAt 3 t9_129)) w_130 fun t10_131 w_132 =>
 xcut (fun l_149 w_150 => F62_j6 x0 t3_1 (Value.int .i64 0) (Value.int .i64 0) t10_131 (nth l_149 0) w_150 j1 R E) fun j6 =>
 opK Tryd.prog E (xBin .eql 3 (.tmp 10) (.const (Value.int .i64 1)) t10_131 (Value.int .i64 1)) w_132 fun t15_151 w_152 =>
 xcond t15_151
 (j6 [t15_151] w_152)
 (opK Tryd.prog E (xBin .eql 3 (.tmp 10) (.const (Value.int .i64 2)) t10_131 (Value.int .i64 2)) w_152 fun t16_153 w_154 =>
 j6 [t16_153] w_154)
noncomputable def c62 : Code := Tryd.f62.body.getD .skip
def h62 : Hint := (.seq .none (.seq .none (.cut [4, 5] (.seq .none (.block (.cut [14] (.seq .none (.cond .none .none)) (.cond .none (.seq .none (.cond .none (.seq .none (.cond .none (.cut [21] (.seq .none (.cond .none .none)) (.cond .none .none)))))))))) (.seq .none (.cut [6] (.seq .none (.cond .none .none)) (.seq .none (.cut [] (.seq .none (.block (.loop [7] (.seq (.seq .none (.cond .none .none)) (.seq (.block .none) .none))))) (.seq .none (.block (.loop [8] (.seq (.seq .none (.cond .none .none)) (.seq (.block .none) .none))))))))))))
theorem F62_eq (x0 x1 : Value) (w : World) (R : Value → World → Prop) (E : Pan) : F62 x0 x1 w R E = callX Tryd.prog [] c62 h62 [x0, x1] w R E := by kernel_rfl
theorem F62_ok {x0 x1 : Value} {w : World} {R : Value → World → Prop} {E : Pan} (h : F62 x0 x1 w R E) : Cv Tryd.prog 62 #[x0, x1] w R E := by
 refine callX_sound (args := [x0, x1]) (c := c62) (h := h62) (rs := []) Tryd.func62 (by kernel_rfl) (by kernel_rfl) (Nat.le_of_ble_eq_true (by kernel_rfl)) (by kernel_rfl) (by kernel_rfl) (by kernel_rfl) ?_
 rw [← F62_eq]
 exact h

/- function 64: (*gnomon/gnomonref3.form).name -/
def F64 (x0 x1 x2 : Value) (w : World) (R : Value → World → Prop) (E : Pan) : Prop :=
 opK Tryd.prog E (xV (Op.unary .not x2)) w fun t7_1 w_2 =>
 xcond t7_1
 (opK Tryd.prog E (xNil x0) w_2 fun t10_3 w_4 =>
 opK Tryd.prog E (xV (Instr.fieldAt 102 t10_3 0)) w_4 fun t11_5 w_6 =>
 opK Tryd.prog E (xV (Instr.loadAt 4 t11_5)) w_6 fun t12_7 w_8 =>
 opK Tryd.prog E (gsem (asB t12_7) true (xBin .eql 9 (.tmp 14) (.const (Value.string ⟨#[]⟩)) (gval (asB t12_7) true x1) (Value.string ⟨#[]⟩))) w_8 fun t15_9 w_10 =>
 opK Tryd.prog E (xPick t12_7 t15_9 (Value.bool false)) w_10 fun t16_11 w_12 =>
 opK Tryd.prog E (xNil x0) w_12 fun t17_13 w_14 =>
 opK Tryd.prog E (xV (Instr.fieldAt 102 t17_13 0)) w_14 fun t18_15 w_16 =>
 opK Tryd.prog E (xU (Instr.storeAt 4 t18_15 t16_11)) w_16 fun _z_17 w_18 =>
 R (Value.tuple #[]) w_18)
 (opK Tryd.prog E (xNil x0) w_2 fun t21_19 w_20 =>
 opK Tryd.prog E (xV (Instr.fieldAt 102 t21_19 1)) w_20 fun t22_21 w_22 =>
 opK Tryd.prog E (xV (Instr.loadAt 4 t22_21)) w_22 fun t23_23 w_24 =>
 opK Tryd.prog E (gsem (asB t23_23) true (xCall (Value.func (.func 93) #[] #[]) [(gval (asB t23_23) true x1)])) w_24 fun t26_25 w_26 =>
 opK Tryd.prog E (xPick t23_23 t26_25 (Value.bool false)) w_26 fun t27_27 w_28 =>
 opK Tryd.prog E (xNil x0) w_28 fun t28_29 w_30 =>
 opK Tryd.prog E (xV (Instr.fieldAt 102 t28_29 1)) w_30 fun t29_31 w_32 =>
 opK Tryd.prog E (xU (Instr.storeAt 4 t29_31 t27_27)) w_32 fun _z_33 w_34 =>
 R (Value.tuple #[]) w_34)
noncomputable def c64 : Code := Tryd.f64.body.getD .skip
def h64 : Hint := (.seq (.seq .none (.cond (.seq .none .none) .none)) .none)
theorem F64_eq (x0 x1 x2 : Value) (w : World) (R : Value → World → Prop) (E : Pan) : F64 x0 x1 x2 w R E = callX Tryd.prog [] c64 h64 [x0, x1, x2] w R E := by kernel_rfl
theorem F64_ok {x0 x1 x2 : Value} {w : World} {R : Value → World → Prop} {E : Pan} (h : F64 x0 x1 x2 w R E) : Cv Tryd.prog 64 #[x0, x1, x2] w R E := by
 refine callX_sound (args := [x0, x1, x2]) (c := c64) (h := h64) (rs := []) Tryd.func64 (by kernel_rfl) (by kernel_rfl) (Nat.le_of_ble_eq_true (by kernel_rfl)) (by kernel_rfl) (by kernel_rfl) (by kernel_rfl) ?_
 rw [← F64_eq]
 exact h

/- function 65: (*gnomon/gnomonref3.form).stmt -/
def F65_l5 (x0 x3 x9 : Value) (w : World) (next5 : List Value → World → Prop) (R : Value → World → Prop) (E : Pan) : Prop :=
 opK Tryd.prog E (xV (Instr.fieldAt 88 x3 5)) w fun t147_99 w_100 =>
 opK Tryd.prog E (xV (Instr.loadAt 23 t147_99)) w_100 fun t148_101 w_102 =>
 opK Tryd.prog E (xBuiltin .len #[23] 3 [false] [t148_101]) w_102 fun t149_103 w_104 =>
 opK Tryd.prog E (xBin .lss 3 (.tmp 146) (.tmp 149) x9 t149_103) w_104 fun t150_105 w_106 =>
 opK Tryd.prog E (gsem (asB t150_105) true (xNil (gval (asB t150_105) true x0))) w_106 fun t153_107 w_108 =>
 opK Tryd.prog E (gsem (asB t150_105) true (xV (Instr.fieldAt 102 t153_107 0))) w_108 fun t154_109 w_110 =>
 opK Tryd.prog E (gsem (asB t150_105) true (xV (Instr.loadAt 4 t154_109))) w_110 fun t155_111 w_112 =>
 opK Tryd.prog E (xPick t150_105 t155_111 (Value.bool false)) w_112 fun t156_113 w_114 =>
 xcond t156_113
 (opK Tryd.prog E (xV (Instr.fieldAt 88 x3 5)) w_114 fun t160_115 w_116 =>
 opK Tryd.prog E (xV (Instr.loadAt 23 t160_115)) w_116 fun t161_117 w_118 =>
 opK Tryd.prog E (xV (Instr.indexAt 23 t161_117 x9)) w_118 fun t163_119 w_120 =>
 opK Tryd.prog E (xV (Instr.loadAt 88 t163_119)) w_120 fun t164_121 w_122 =>
 opK Tryd.prog E (xCall (Value.func (.func 65) #[] #[]) [x0, t164_121]) w_122 fun _t165_123 w_124 =>
 opK Tryd.prog E (xBin .add 3 (.tmp 157) (.const (Value.int .i64 1)) x9 (Value.int .i64 1)) w_124 fun t158_125 w_126 =>
 next5 [t158_125] w_126)
 (R (Value.tuple #[]) w_114)
def F65_j4 (x0 x3 : Value) (w : World) (R : Value → World → Prop) (E : Pan) : Prop :=
 ∀ _τ : Fr, (xloop [9] [(Value.int .i64 0)] w fun τ_127 w_128 next5 =>
 F65_l5 x0 x3 (τ_127 9) w_128 next5 R E)
def F65_l6 (x0 x3 x8 : Value) (w : World) (next6 : List Value → World → Prop) (j4 : List Value → World → Prop) (_R : Value → World → Prop) (E : Pan) : Prop :=
 opK Tryd.prog E (xV (Instr.fieldAt 88 x3 4)) w fun t127_131 w_132 =>
 opK Tryd.prog E (xV (Instr.loadAt 23 t127_131)) w_132 fun t128_133 w_134 =>
 opK Tryd.prog E (xBuiltin .len #[23] 3 [false] [t128_133]) w_134 fun t129_135 w_136 =>
 opK Tryd.prog E (xBin .lss 3 (.tmp 126) (.tmp 129) x8 t129_135) w_136 fun t130_137 w_138 =>
 opK Tryd.prog E (gsem (asB t130_137) true (xNil (gval (asB t130_137) true x0))) w_138 fun t133_139 w_140 =>
 opK Tryd.prog E (gsem (asB t130_137) true (xV (Instr.fieldAt 102 t133_139 0))) w_140 fun t134_141 w_142 =>
 opK Tryd.prog E (gsem (asB t130_137) true (xV (Instr.loadAt 4 t134_141))) w_142 fun t135_143 w_144 =>
 opK Tryd.prog E (xPick t130_137 t135_143 (Value.bool false)) w_144 fun t136_145 w_146 =>
 xcond t136_145
 (opK Tryd.prog E (xV (Instr.fieldAt 88 x3 4)) w_146 fun t140_147 w_148 =>
 opK Tryd.prog E (xV (Instr.loadAt 23 t140_147)) w_148 fun t141_149 w_150 =>
 opK Tryd.prog E (xV (Instr.indexAt 23 t141_149 x8)) w_150 fun t143_151 w_152 =>
 opK Tryd.prog E (xV (Instr.loadAt 88 t143_151)) w_152 fun t144_153 w_154 =>
 opK Tryd.prog E (xCall (Value.func (.func 65) #[] #[]) [x0, t144_153]) w_154 fun _t145_155 w_156 =>
 opK Tryd.prog E (xBin .add 3 (.tmp 137) (.const (Value.int .i64 1)) x8 (Value.int .i64 1)) w_156 fun t138_157 w_158 =>
 next6 [t138_157] w_158)
 (j4 [] w_146)
def F65_j3 (x0 x3 : Value) (w : World) (R : Value → World → Prop) (E : Pan) : Prop :=
 ∀ _τ : Fr, (xcut (fun _ w_130 => F65_j4 x0 x3 w_130 R E) fun j4 =>
 xloop [8] [(Value.int .i64 0)] w fun τ_159 w_160 next6 =>
 F65_l6 x0 x3 (τ_159 8) w_160 next6 j4 R E)
def F65_l7 (x0 x3 x7 : Value) (w : World) (next7 : List Value → World → Prop) (j3 : List Value → World → Prop) (_R : Value → World → Prop) (E : Pan) : Prop :=
 opK Tryd.prog E (xV (Instr.fieldAt 88 x3 2)) w fun t107_163 w_164 =>
 opK Tryd.prog E (xV (Instr.loadAt 28 t107_163)) w_164 fun t108_165 w_166 =>
 opK Tryd.prog E (xBuiltin .len #[28] 3 [false] [t108_165]) w_166 fun t109_167 w_168 =>
 opK Tryd.prog E (xBin .lss 3 (.tmp 106) (.tmp 109) x7 t109_167) w_168 fun t110_169 w_170 =>
 opK Tryd.prog E (gsem (asB t110_169) true (xNil (gval (asB t110_169) true x0))) w_170 fun t113_171 w_172 =>
 opK Tryd.prog E (gsem (asB t110_169) true (xV (Instr.fieldAt 102 t113_171 0))) w_172 fun t114_173 w_174 =>
 opK Tryd.prog E (gsem (asB t110_169) true (xV (Instr.loadAt 4 t114_173))) w_174 fun t115_175 w_176 =>
 opK Tryd.prog E (xPick t110_169 t115_175 (Value.bool false)) w_176 fun t116_177 w_178 =>
 xcond t116_177
 (opK Tryd.prog E (xV (Instr.fieldAt 88 x3 2)) w_178 fun t120_179 w_180 =>
 opK Tryd.prog E (xV (Instr.loadAt 28 t120_179)) w_180 fun t121_181 w_182 =>
 opK Tryd.prog E (xV (Instr.indexAt 28 t121_181 x7)) w_182 fun t123_183 w_184 =>
 opK Tryd.prog E (xV (Instr.loadAt 30 t123_183)) w_184 fun t124_185 w_186 =>
 opK Tryd.prog E (xCall (Value.func (.func 59) #[] #[]) [x0, t124_185]) w_186 fun _t125_187 w_188 =>
 opK Tryd.prog E (xBin .add 3 (.tmp 117) (.const (Value.int .i64 1)) x7 (Value.int .i64 1)) w_188 fun t118_189 w_190 =>
 next7 [t118_189] w_190)
 (j3 [] w_178)
def F65_j2 (x0 x3 : Value) (w : World) (R : Value → World → Prop) (E : Pan) : Prop :=
 ∀ _τ : Fr, (xcut (fun _ w_162 => F65_j3 x0 x3 w_162 R E) fun j3 =>
 xloop [7] [(Value.int .i64 0)] w fun τ_191 w_192 next7 =>
 F65_l7 x0 x3 (τ_191 7) w_192 next7 j3 R E)
def F65_l8 (x0 x3 x6 : Value) (w : World) (next8 : List Value → World → Prop) (j2 : List Value → World → Prop) (_R : Value → World → Prop) (E : Pan) : Prop :=
 opK Tryd.prog E (xV (Instr.fieldAt 88 x3 3)) w fun t87_195 w_196 =>
 opK Tryd.prog E (xV (Instr.loadAt 31 t87_195)) w_196 fun t88_197 w_198 =>
 opK Tryd.prog E (xBuiltin .len #[31] 3 [false] [t88_197]) w_198 fun t89_199 w_200 =>
 opK Tryd.prog E (xBin .lss 3 (.tmp 86) (.tmp 89) x6 t89_199) w_200 fun t90_201 w_202 =>
 opK Tryd.prog E (gsem (asB t90_201) true (xNil (gval (asB t90_201) true x0))) w_202 fun t93_203 w_204 =>
 opK Tryd.prog E (gsem (asB t90_201) true (xV (Instr.fieldAt 102 t93_203 0))) w_204 fun t94_205 w_206 =>
 opK Tryd.prog E (gsem (asB t90_201) true (xV (Instr.loadAt 4 t94_205))) w_206 fun t95_207 w_208 =>
 opK Tryd.prog E (xPick t90_201 t95_207 (Value.bool false)) w_208 fun t96_209 w_210 =>
 xcond t96_209
 (opK Tryd.prog E (xV (Instr.fieldAt 88 x3 3)) w_210 fun t100_211 w_212 =>
 opK Tryd.prog E (xV (Instr.loadAt 31 t100_211)) w_212 fun t101_213 w_214 =>
 opK Tryd.prog E (xV (Instr.indexAt 31 t101_213 x6)) w_214 fun t103_215 w_216 =>
 opK Tryd.prog E (xV (Instr.loadAt 33 t103_215)) w_216 fun t104_217 w_218 =>
 opK Tryd.prog E (xCall (Value.func (.func 62) #[] #[]) [x0, t104_217]) w_218 fun _t105_219 w_220 =>
 opK Tryd.prog E (xBin .add 3 (.tmp 97) (.const (Value.int .i64 1)) x6 (Value.int .i64 1)) w_220 fun t98_221 w_222 =>
 next8 [t98_221] w_222)
 (j2 [] w_210)
def F65_j1 (x0 x3 x4 x5 : Value) (w : World) (R : Value → World → Prop) (E : Pan) : Prop :=
 ∀ _τ : Fr, (opK Tryd.prog E (xV (Instr.fieldAt 88 x3 1)) w fun t27_3 w_4 =>
 opK Tryd.prog E (xV (Instr.loadAt 9 t27_3)) w_4 fun t28_5 w_6 =>
 opK Tryd.prog E (xV (Instr.fieldAt 88 x3 0)) w_6 fun t29_7 w_8 =>
 opK Tryd.prog E (xV (Instr.loadAt 3 t29_7)) w_8 fun t30_9 w_10 =>
 opK Tryd.prog E (xBin .eql 3 (.tmp 30) (.const (Value.int .i64 1)) t30_9 (Value.int .i64 1)) w_10 fun t31_11 w_12 =>
 opK Tryd.prog E (gsem (asB t31_11) false (xV (Instr.fieldAt 88 x3 0))) w_12 fun t33_13 w_14 =>
 opK Tryd.prog E (gsem (asB t31_11) false (xV (Instr.loadAt 3 t33_13))) w_14 fun t34_15 w_16 =>
 opK Tryd.prog E (gsem (asB t31_11) false (xBin .eql 3 (.tmp 34) (.const (Value.int .i64 2)) t34_15 (Value.int .i64 2))) w_16 fun t35_17 w_18 =>
 opK Tryd.prog E (xPick t31_11 (Value.bool true) t35_17) w_18 fun t36_19 w_20 =>
 opK Tryd.prog E (xCall (Value.func (.func 64) #[] #[]) [x0, t28_5, t36_19]) w_20 fun _t37_21 w_22 =>
 opK Tryd.prog E (xNil x0) w_22 fun t40_23 w_24 =>
 opK Tryd.prog E (xV (Instr.fieldAt 102 t40_23 0)) w_24 fun t41_25 w_26 =>
 opK Tryd.prog E (xV (Instr.loadAt 4 t41_25)) w_26 fun t42_27 w_28 =>
 opK Tryd.prog E (gsem (asB t42_27) true (xV (Instr.fieldAt 88 x3 2))) w_28 fun t44_29 w_30 =>
 opK Tryd.prog E (gsem (asB t42_27) true (xV (Instr.loadAt 28 t44_29))) w_30 fun t45_31 w_32 =>
 opK Tryd.prog E (gsem (asB t42_27) true (xBuiltin .len #[28] 3 [false] [t45_31])) w_32 fun t46_33 w_34 =>
 opK Tryd.prog E (gsem (asB t42_27) true (xBin .eql 3 (.tmp 46) (.tmp 47) t46_33 (gval (asB t42_27) true x4))) w_34 fun t48_35 w_36 =>
 opK Tryd.prog E (xPick t42_27 t48_35 (Value.bool false)) w_36 fun t49_37 w_38 =>
 opK Tryd.prog E (gsem (asB t49_37) true (xV (Instr.fieldAt 88 x3 3))) w_38 fun t51_39 w_40 =>
 opK Tryd.prog E (gsem (asB t49_37) true (xV (Instr.loadAt 31 t51_39))) w_40 fun t52_41 w_42 =>
 opK Tryd.prog E (gsem (asB t49_37) true (xBuiltin .len #[31] 3 [false] [t52_41])) w_42 fun t53_43 w_44 =>
 opK Tryd.prog E (gsem (asB t49_37) true (xBin .eql 3 (.tmp 53) (.tmp 54) t53_43 (gval (asB t49_37) true x5))) w_44 fun t55_45 w_46 =>
 opK Tryd.prog E (xPick t49_37 t55_45 (Value.bool false)) w_46 fun t56_47 w_48 =>
 opK Tryd.prog E (gsem (asB t56_47) true (xV (Instr.fieldAt 88 x3 4))) w_48 fun t58_49 w_50 =>
 opK Tryd.prog E (gsem (asB t56_47) true (xV (Instr.loadAt 23 t58_49))) w_50 fun t59_51 w_52 =>
 opK Tryd.prog E (gsem (asB t56_47) true (xBuiltin .len #[23] 3 [false] [t59_51])) w_52 fun t60_53 w_54 =>
 opK Tryd.prog E (gsem (asB t56_47) true (xBin .eql 3 (.tmp 60) (.const (Value.int .i64 0)) t60_53 (Value.int .i64 0))) w_54 fun t61_55 w_56 =>
 opK Tryd.prog E (gsem (asB (gval (asB t56_47) true t61_55)) false (xV (Instr.fieldAt 88 x3 0))) w_56 fun t63_57 w_58 =>
 opK Tryd.prog E (gsem (asB (gval (asB t56_47) true t61_55)) false (xV (Instr.loadAt 3 t63_57))) w_58 fun t64_59 w_60 =>
 opK Tryd.prog E (gsem (asB (gval (asB t56_47) true t61_55)) false (xBin .eql 3 (.tmp 64) (.const (Value.int .i64 3)) t64_59 (Value.int .i64 3))) w_60 fun t65_61 w_62 =>
 opK Tryd.prog E (gsem (asB t56_47) true (xPick (gval (asB t56_47) true t61_55) (Value.bool true) t65_61)) w_62 fun t66_63 w_64 =>
 opK Tryd.prog E (gsem (asB (gval (asB t56_47) true t66_63)) false (xV (Instr.fieldAt 88 x3 0))) w_64 fun t68_65 w_66 =>
 opK Tryd.prog E (gsem (asB (gval (asB t56_47) true t66_63)) false (xV (Instr.loadAt 3 t68_65))) w_66 fun t69_67 w_68 =>
 opK Tryd.prog E (gsem (asB (gval (asB t56_47) true t66_63)) false (xBin .eql 3 (.tmp 69) (.const (Value.int .i64 4)) t69_67 (Value.int .i64 4))) w_68 fun t70_69 w_70 =>
 opK Tryd.prog E (gsem (asB t56_47) true (xPick (gval (asB t56_47) true t66_63) (Value.bool true) t70_69)) w_70 fun t71_71 w_72 =>
 opK Tryd.prog E (xPick t56_47 t71_71 (Value.bool false)) w_72 fun t72_73 w_74 =>
 opK Tryd.prog E (gsem (asB t72_73) true (xV (Instr.fieldAt 88 x3 5))) w_74 fun t74_75 w_76 =>
 opK Tryd.prog E (gsem (asB t72_73) true (xV (Instr.loadAt 23 t74_75))) w_76 fun t75_77 w_78 =>
 opK Tryd.prog E (gsem (asB t72_73) true (xBuiltin .len #[23] 3 [false] [t75_77])) w_78 fun t76_79 w_80 =>
 opK Tryd.prog E (gsem (asB t72_73) true (xBin .eql 3 (.tmp 76) (.const (Value.int .i64 0)) t76_79 (Value.int .i64 0))) w_80 fun t77_81 w_82 =>
 opK Tryd.prog E (gsem (asB (gval (asB t72_73) true t77_81)) false (xV (Instr.fieldAt 88 x3 0))) w_82 fun t79_83 w_84 =>
 opK Tryd.prog E (gsem (asB (gval (asB t72_73) true t77_81)) false (xV (Instr.loadAt 3 t79_83))) w_84 fun t80_85 w_86 =>
 opK Tryd.prog E (gsem (asB (gval (asB t72_73) true t77_81)) false (xBin .eql 3 (.tmp 80) (.const (Value.int .i64 3)) t80_85 (Value.int .i64 3))) w_86 fun t81_87 w_88 =>
 opK Tryd.prog E (gsem (asB t72_73) true (xPick (gval (asB t72_73) true t77_81) (Value.bool true) t81_87)) w_88 fun t82_89 w_90 =>
 opK Tryd.prog E (xPick t72_73 t82_89 (Value.bool false)) w_90 fun t83_91 w_92 =>
 opK Tryd.prog E (xNil x0) w_92 fun t84_93 w_94 =>
 opK Tryd.prog E (xV (Instr.fieldAt 102 t84_93 0)) w_94 fun t85_95 w_96 =>
 opK Tryd.prog E (xU (Instr.storeAt 4 t85_95 t83_91)) w_96 fun _z_97 w_98 =>
 xcut (fun _ w_194 => F65_j2 x0 x3 w_194 R E) fun j2 =>
 xloop [6] [(Value.int .i64 0)] w_98 fun τ_223 w_224 next8 =>
 F65_l8 x0 x3 (τ_223 6) w_224 next8 j2 R E)
def F65_j9 (x0 _x3 x4 x5 x11 x19 : Value) (w : World) (j1 : List Value → World → Prop) (_R : Value → World → Prop) (E : Pan) : Prop :=
 ∀ _τ : Fr, (xcond x19
 (j1 [x4, (Value.int .i64 1)] w)
 (opK Tryd.prog E (xBin .eql 3 (.tmp 11) (.const (Value.int .i64 7)) x11 (Value.int .i64 7)) w fun t25_235 w_236 =>
 xcond t25_235
 (j1 [x4, x5] w_236)
 (opK Tryd.prog E (xNil x0) w_236 fun t13_237 w_238 =>
 opK Tryd.prog E (xV (Instr.fieldAt 102 t13_237 0)) w_238 fun t14_239 w_240 =>
 opK Tryd.prog E (xU (Instr.storeAt 4 t14_239 (Value.bool false))) w_240 fun _z_241 w_242 =>
 j1 [x4, x5] w_242)))
def F65 (x0 x1 : Value) (w : World) (R : Value → World → Prop) (E : Pan) : Prop :=
 opK Tryd.prog E (xV (Instr.box 88 x1)) w fun t3_1 w_2 =>
 xcut (fun l_225 w_226 => F65_j1 x0 t3_1 (nth l_225 0) (nth l_225.tail 0) w_226 R E) fun j1 =>
 opK Tryd.prog E (xV (Instr.fieldAt 88 t3_1 0)) w_2 fun t10_227 w_228 =>
 opK Tryd.prog E (xV (Instr.loadAt 3 t10_227)) w_228 fun t11_229 w_230 =>
 opK Tryd.prog E (xBin .eql 3 (.tmp 11) (.const (Value.int .i64 1)) t11_229 (Value.int .i64 1)) w_230 fun t16_231 w_232 =>
 xcond t16_231
 (j1 [(Value.int .i64 1), (Value.int .i64 0)] w_232)
 (opK Tryd.prog E (xBin .eql 3 (.tmp 11) (.const (Value.int .i64 2)) t11_229 (Value.int .i64 2)) w_232 fun t18_233 w_234 =>
 xcond t18_233
 (j1 [(Value.int .i64 2), (Value.int .i64 0)] w_234)
 (xcut (fun l_243 w_244 => F65_j9 x0 t3_1 (Value.int .i64 0) (Value.int .i64 0) t11_229 (nth l_243 0) w_244 j1 R E) fun j9 =>
 opK Tryd.prog E (xBin .eql 3 (.tmp 11) (.const (Value.int .i64 3)) t11_229 (Value.int .i64 3)) w_234 fun t20_245 w_246 =>
 xcond t20_245
 (j9 [t20_245] w_246)
 (opK Tryd.prog E (xBin .eql 3 (.tmp 11) (.const (Value.int .i64 4)) t11_229 (Value.int .i64 4)) w_246 fun t21_247 w_248 =>
 xcond t21_247
 (j9 [t21_247] w_248)
 (opK Tryd.prog E (xBin .eql 3 (.tmp 11) (.const (Value.int .i64 5)) t11_229 (Value.int .i64 5)) w_248 fun t22_249 w_250 =>
 xcond t22_249
 (j9 [t22_249] w_250)
 (opK Tryd.prog E (xBin .eql 3 (.tmp 11) (.const (Value.int .i64 6)) t11_229 (Value.int .i64 6)) w_250 fun t23_251 w_252 =>
 j9 [t23_251] w_252)))))
noncomputable def c65 : Code := Tryd.f65.body.getD .skip
def h65 : Hint := (.seq .none (.seq .none (.cut [4, 5] (.seq .none (.block (.seq .none (.cond .none (.seq .none (.cond .none (.cut [19] (.seq .none (.cond .none (.seq .none (.cond .none (.seq .none (.cond .none .none)))))) (.cond .none (.seq .none (.cond .none .none)))))))))) (.seq .none (.seq .none (.cut [] (.seq .none (.block (.loop [6] (.seq (.seq .none (.cond .none .none)) (.seq (.block .none) .none))))) (.cut [] (.seq .none (.block (.loop [7] (.seq (.seq .none (.cond .none .none)) (.seq (.block .none) .none))))) (.cut [] (.seq .none (.block (.loop [8] (.seq (.seq .none (.cond .none .none)) (.seq (.block .none) .none))))) (.seq .none (.block (.loop [9] (.seq (.seq .none (.cond .none .none)) (.seq (.block .none) .none)))))))))))))
theorem F65_eq (x0 x1 : Value) (w : World) (R : Value → World → Prop) (E : Pan) : F65 x0 x1 w R E = callX Tryd.prog [] c65 h65 [x0, x1] w R E := by kernel_rfl
theorem F65_ok {x0 x1 : Value} {w : World} {R : Value → World → Prop} {E : Pan} (h : F65 x0 x1 w R E) : Cv Tryd.prog 65 #[x0, x1] w R E := by
 refine callX_sound (args := [x0, x1]) (c := c65) (h := h65) (rs := []) Tryd.func65 (by kernel_rfl) (by kernel_rfl) (Nat.le_of_ble_eq_true (by kernel_rfl)) (by kernel_rfl) (by kernel_rfl) (by kernel_rfl) ?_
 rw [← F65_eq]
 exact h

/- function 93: gnomon/gnomonref2.Name -/
def F93_j1 (x3 : Value) (w : World) (R : Value → World → Prop) (E : Pan) : Prop :=
 ∀ _τ : Fr, (opK Tryd.prog E (xBin .leq 3 (.tmp 52) (.const (Value.int .i64 32)) x3 (Value.int .i64 32)) w fun t53_13 w_14 =>
 R t53_13 w_14)
def F93_l2 (x0 x3 x4 : Value) (w : World) (next2 : List Value → World → Prop) (j1 : List Value → World → Prop) (R : Value → World → Prop) (E : Pan) : Prop :=
 opK Tryd.prog E (xBuiltin .len #[9] 3 [false] [x0]) w fun t22_17 w_18 =>
 opK Tryd.prog E (xBin .lss 3 (.tmp 20) (.tmp 22) x4 t22_17) w_18 fun t23_19 w_20 =>
 xcond t23_19
 (opK Tryd.prog E (xCall (Value.func (.func 118) #[] #[]) [x0, x4]) w_20 fun t27_21 w_22 =>
 opK Tryd.prog E (xV (Instr.extract t27_21 0)) w_22 fun t28_23 w_24 =>
 opK Tryd.prog E (xV (Instr.extract t27_21 1)) w_24 fun t29_25 w_26 =>
 opK Tryd.prog E (xV (Instr.extract t27_21 2)) w_26 fun t30_27 w_28 =>
 opK Tryd.prog E (xCall (Value.func (.func 119) #[] #[]) [t28_23]) w_28 fun t32_29 w_30 =>
 opK Tryd.prog E (xV (Op.unary .not t30_27)) w_30 fun t34_31 w_32 =>
 opK Tryd.prog E (gsem (asB t34_31) false (xBin .neq 3 (.tmp 36) (.const (Value.int .i64 3)) (gval (asB t34_31) false t32_29) (Value.int .i64 3))) w_32 fun t37_33 w_34 =>
 opK Tryd.prog E (gsem (asB (gval (asB t34_31) false t37_33)) true (xBin .neq 3 (.tmp 39) (.const (Value.int .i64 4)) (gval (asB (gval (asB t34_31) false t37_33)) true t32_29) (Value.int .i64 4))) w_34 fun t40_35 w_36 =>
 opK Tryd.prog E (gsem (asB (gval (asB (gval (asB t34_31) false t37_33)) true t40_35)) false (xBin .eql 3 (.tmp 42) (.const (Value.int .i64 0)) (gval (asB (gval (asB (gval (asB t34_31) false t37_33)) true t40_35)) false x3) (Value.int .i64 0))) w_36 fun t43_37 w_38 =>
 opK Tryd.prog E (gsem (asB (gval (asB t34_31) false t37_33)) true (xPick (gval (asB (gval (asB t34_31) false t37_33)) true t40_35) (Value.bool true) t43_37)) w_38 fun t44_39 w_40 =>
 opK Tryd.prog E (gsem (asB t34_31) false (xPick (gval (asB t34_31) false t37_33) t44_39 (Value.bool false))) w_40 fun t45_41 w_42 =>
 opK Tryd.prog E (xPick t34_31 (Value.bool true) t45_41) w_42 fun t46_43 w_44 =>
 xcond t46_43
 (R (Value.bool false) w_44)
 (opK Tryd.prog E (xBin .add 3 (.tmp 47) (.const (Value.int .i64 1)) x3 (Value.int .i64 1)) w_44 fun t48_45 w_46 =>
 opK Tryd.prog E (xBin .add 3 (.tmp 49) (.tmp 50) x4 t29_25) w_46 fun t51_47 w_48 =>
 next2 [t48_45, t51_47] w_48))
 (j1 [x3] w_20)
def F93 (x0 : Value) (w : World) (R : Value → World → Prop) (E : Pan) : Prop :=
 opK Tryd.prog E (xBin .eql 9 (.tmp 9) (.const (Value.string ⟨#[]⟩)) x0 (Value.string ⟨#[]⟩)) w fun t10_1 w_2 =>
 opK Tryd.prog E (gsem (asB t10_1) false (xBuiltin .len #[9] 3 [false] [(gval (asB t10_1) false x0)])) w_2 fun t13_3 w_4 =>
 opK Tryd.prog E (gsem (asB t10_1) false (xBin .gtr 3 (.tmp 13) (.const (Value.int .i64 128)) t13_3 (Value.int .i64 128))) w_4 fun t14_5 w_6 =>
 opK Tryd.prog E (xPick t10_1 (Value.bool true) t14_5) w_6 fun t15_7 w_8 =>
 opK Tryd.prog E (gsem (asB t15_7) false (xCall (Value.func (.func 117) #[] #[]) [(gval (asB t15_7) false x0)])) w_8 fun t18_9 w_10 =>
 opK Tryd.prog E (xPick t15_7 (Value.bool true) t18_9) w_10 fun t19_11 w_12 =>
 xcond t19_11
 (R (Value.bool false) w_12)
 (xcut (fun l_15 w_16 => F93_j1 (nth l_15 0) w_16 R E) fun j1 =>
 xloop [3, 4] [(Value.int .i64 0), (Value.int .i64 0)] w_12 fun τ_49 w_50 next2 =>
 F93_l2 x0 (τ_49 3) (τ_49 4) w_50 next2 j1 R E)
noncomputable def c93 : Code := Tryd.f93.body.getD .skip
def h93 : Hint := (.seq .none (.seq (.seq .none (.cond (.seq .none .none) .none)) (.seq .none (.cut [3] (.seq .none (.block (.loop [3, 4] (.seq (.seq .none (.cond .none .none)) (.block (.seq .none (.seq .none (.seq (.seq .none (.cond (.seq .none .none) .none)) (.seq .none .none))))))))) (.seq .none .none)))))
theorem F93_eq (x0 : Value) (w : World) (R : Value → World → Prop) (E : Pan) : F93 x0 w R E = callX Tryd.prog [.tmp 2] c93 h93 [x0] w R E := by kernel_rfl
theorem F93_ok {x0 : Value} {w : World} {R : Value → World → Prop} {E : Pan} (h : F93 x0 w R E) : Cv Tryd.prog 93 #[x0] w R E := by
 refine callX_sound (args := [x0]) (c := c93) (h := h93) (rs := [.tmp 2]) Tryd.func93 (by kernel_rfl) (by kernel_rfl) (Nat.le_of_ble_eq_true (by kernel_rfl)) (by kernel_rfl) (by kernel_rfl) (by kernel_rfl) ?_
 rw [← F93_eq]
 exact h

/- function 117: gnomon/gnomonref2.Word -/
def F117_j1 (x4 : Value) (w : World) (R : Value → World → Prop) (_E : Pan) : Prop :=
 ∀ _τ : Fr, (xcond x4
 (R (Value.bool true) w)
 (R (Value.bool false) w))
def F117 (x0 : Value) (w : World) (R : Value → World → Prop) (E : Pan) : Prop :=
 xcut (fun l_1 w_2 => F117_j1 (nth l_1 0) w_2 R E) fun j1 =>
 opK Tryd.prog E (xBin .eql 9 (.tmp 3) (.const (Value.string ⟨#[118, 97, 114]⟩)) x0 (Value.string ⟨#[118, 97, 114]⟩)) w fun t5_3 w_4 =>
 xcond t5_3
 (j1 [t5_3] w_4)
 (opK Tryd.prog E (xBin .eql 9 (.tmp 3) (.const (Value.string ⟨#[97, 114, 114, 97, 121]⟩)) x0 (Value.string ⟨#[97, 114, 114, 97, 121]⟩)) w_4 fun t6_5 w_6 =>
 xcond t6_5
 (j1 [t6_5] w_6)
 (opK Tryd.prog E (xBin .eql 9 (.tmp 3) (.const (Value.string ⟨#[105, 102]⟩)) x0 (Value.string ⟨#[105, 102]⟩)) w_6 fun t7_7 w_8 =>
 xcond t7_7
 (j1 [t7_7] w_8)
 (opK Tryd.prog E (xBin .eql 9 (.tmp 3) (.const (Value.string ⟨#[101, 108, 115, 101]⟩)) x0 (Value.string ⟨#[101, 108, 115, 101]⟩)) w_8 fun t8_9 w_10 =>
 xcond t8_9
 (j1 [t8_9] w_10)
 (opK Tryd.prog E (xBin .eql 9 (.tmp 3) (.const (Value.string ⟨#[119, 104, 105, 108, 101]⟩)) x0 (Value.string ⟨#[119, 104, 105, 108, 101]⟩)) w_10 fun t9_11 w_12 =>
 xcond t9_11
 (j1 [t9_11] w_12)
 (opK Tryd.prog E (xBin .eql 9 (.tmp 3) (.const (Value.string ⟨#[97, 115, 115, 101, 114, 116]⟩)) x0 (Value.string ⟨#[97, 115, 115, 101, 114, 116]⟩)) w_12 fun t10_13 w_14 =>
 xcond t10_13
 (j1 [t10_13] w_14)
 (opK Tryd.prog E (xBin .eql 9 (.tmp 3) (.const (Value.string ⟨#[97, 115, 115, 117, 109, 101]⟩)) x0 (Value.string ⟨#[97, 115, 115, 117, 109, 101]⟩)) w_14 fun t11_15 w_16 =>
 xcond t11_15
 (j1 [t11_15] w_16)
 (opK Tryd.prog E (xBin .eql 9 (.tmp 3) (.const (Value.string ⟨#[115, 107, 105, 112]⟩)) x0 (Value.string ⟨#[115, 107, 105, 112]⟩)) w_16 fun t12_17 w_18 =>
 xcond t12_17
 (j1 [t12_17] w_18)
 (opK Tryd.prog E (xBin .eql 9 (.tmp 3) (.const (Value.string ⟨#[105, 110, 112, 117, 116]⟩)) x0 (Value.string ⟨#[105, 110, 112, 117, 116]⟩)) w_18 fun t13_19 w_20 =>
 xcond t13_19
 (j1 [t13_19] w_20)
 (opK Tryd.prog E (xBin .eql 9 (.tmp 3) (.const (Value.string ⟨#[116, 114, 117, 101]⟩)) x0 (Value.string ⟨#[116, 114, 117, 101]⟩)) w_20 fun t14_21 w_22 =>
 xcond t14_21
 (j1 [t14_21] w_22)
 (opK Tryd.prog E (xBin .eql 9 (.tmp 3) (.const (Value.string ⟨#[102, 97, 108, 115, 101]⟩)) x0 (Value.string ⟨#[102, 97, 108, 115, 101]⟩)) w_22 fun t15_23 w_24 =>
 j1 [t15_23] w_24))))))))))
noncomputable def c117 : Code := Tryd.f117.body.getD .skip
def h117 : Hint := (.seq .none (.seq (.seq .none (.block (.cut [4] (.seq .none (.cond .none (.seq .none (.cond .none (.seq .none (.cond .none (.seq .none (.cond .none (.seq .none (.cond .none (.seq .none (.cond .none (.seq .none (.cond .none (.seq .none (.cond .none (.seq .none (.cond .none (.seq .none (.cond .none .none)))))))))))))))))))) (.cond (.seq .none .none) .none)))) (.seq .none .none)))
theorem F117_eq (x0 : Value) (w : World) (R : Value → World → Prop) (E : Pan) : F117 x0 w R E = callX Tryd.prog [.tmp 2] c117 h117 [x0] w R E := by kernel_rfl
theorem F117_ok {x0 : Value} {w : World} {R : Value → World → Prop} {E : Pan} (h : F117 x0 w R E) : Cv Tryd.prog 117 #[x0] w R E := by
 refine callX_sound (args := [x0]) (c := c117) (h := h117) (rs := [.tmp 2]) Tryd.func117 (by kernel_rfl) (by kernel_rfl) (Nat.le_of_ble_eq_true (by kernel_rfl)) (by kernel_rfl) (by kernel_rfl) (by kernel_rfl) ?_
 rw [← F117_eq]
 exact h

/- function 118: gnomon/gnomonref1.Rune -/
def F118_j2 (x8 x9 x10 : Value) (w : World) (R : Value → World → Prop) (E : Pan) : Prop :=
 ∀ _τ : Fr, (opK Tryd.prog E (xBin .lss 3 (.tmp 84) (.tmp 85) x10 x9) w fun t86_5 w_6 =>
 opK Tryd.prog E (gsem (asB t86_5) false (xBin .gtr 3 (.tmp 88) (.const (Value.int .i64 1114111)) (gval (asB t86_5) false x10) (Value.int .i64 1114111))) w_6 fun t89_7 w_8 =>
 opK Tryd.prog E (xPick t86_5 (Value.bool true) t89_7) w_8 fun t90_9 w_10 =>
 opK Tryd.prog E (gsem (asB t90_9) false (xBin .geq 3 (.tmp 92) (.const (Value.int .i64 55296)) (gval (asB t90_9) false x10) (Value.int .i64 55296))) w_10 fun t93_11 w_12 =>
 opK Tryd.prog E (gsem (asB (gval (asB t90_9) false t93_11)) true (xBin .lss 3 (.tmp 95) (.const (Value.int .i64 57344)) (gval (asB (gval (asB t90_9) false t93_11)) true x10) (Value.int .i64 57344))) w_12 fun t96_13 w_14 =>
 opK Tryd.prog E (gsem (asB t90_9) false (xPick (gval (asB t90_9) false t93_11) t96_13 (Value.bool false))) w_14 fun t97_15 w_16 =>
 opK Tryd.prog E (xPick t90_9 (Value.bool true) t97_15) w_16 fun t98_17 w_18 =>
 xcond t98_17
 (R (Value.tuple #[(Value.int .i64 65533), (Value.int .i64 1), (Value.bool false)]) w_18)
 (R (Value.tuple #[x10, x8, (Value.bool true)]) w_18))
def F118_l3 (x0 x1 x8 _x9 x10 x11 : Value) (w : World) (next3 : List Value → World → Prop) (j2 : List Value → World → Prop) (R : Value → World → Prop) (E : Pan) : Prop :=
 opK Tryd.prog E (xBin .lss 3 (.tmp 47) (.tmp 48) x11 x8) w fun t49_21 w_22 =>
 xcond t49_21
 (opK Tryd.prog E (xBin .add 3 (.tmp 52) (.tmp 53) x1 x11) w_22 fun t54_23 w_24 =>
 opK Tryd.prog E (xBuiltin .len #[9] 3 [false] [x0]) w_24 fun t56_25 w_26 =>
 opK Tryd.prog E (xBin .geq 3 (.tmp 54) (.tmp 56) t54_23 t56_25) w_26 fun t57_27 w_28 =>
 opK Tryd.prog E (gsem (asB t57_27) false (xBin .add 3 (.tmp 60) (.tmp 61) (gval (asB t57_27) false x1) (gval (asB t57_27) false x11))) w_28 fun t62_29 w_30 =>
 opK Tryd.prog E (gsem (asB t57_27) false (xV (Instr.index 9 (gval (asB t57_27) false x0) t62_29))) w_30 fun t63_31 w_32 =>
 opK Tryd.prog E (gsem (asB t57_27) false (xBin .lss 5 (.tmp 63) (.const (Value.int .u8 128)) t63_31 (Value.int .u8 128))) w_32 fun t64_33 w_34 =>
 opK Tryd.prog E (xPick t57_27 (Value.bool true) t64_33) w_34 fun t65_35 w_36 =>
 opK Tryd.prog E (gsem (asB t65_35) false (xBin .add 3 (.tmp 68) (.tmp 69) (gval (asB t65_35) false x1) (gval (asB t65_35) false x11))) w_36 fun t70_37 w_38 =>
 opK Tryd.prog E (gsem (asB t65_35) false (xV (Instr.index 9 (gval (asB t65_35) false x0) t70_37))) w_38 fun t71_39 w_40 =>
 opK Tryd.prog E (gsem (asB t65_35) false (xBin .geq 5 (.tmp 71) (.const (Value.int .u8 192)) t71_39 (Value.int .u8 192))) w_40 fun t72_41 w_42 =>
 opK Tryd.prog E (xPick t65_35 (Value.bool true) t72_41) w_42 fun t73_43 w_44 =>
 xcond t73_43
 (R (Value.tuple #[(Value.int .i64 65533), (Value.int .i64 1), (Value.bool false)]) w_44)
 (opK Tryd.prog E (xBin .mul 3 (.const (Value.int .i64 64)) (.tmp 74) (Value.int .i64 64) x10) w_44 fun t75_45 w_46 =>
 opK Tryd.prog E (xBin .add 3 (.tmp 77) (.tmp 78) x1 x11) w_46 fun t79_47 w_48 =>
 opK Tryd.prog E (xV (Instr.index 9 x0 t79_47)) w_48 fun t80_49 w_50 =>
 opK Tryd.prog E (xV (convert 5 3 t80_49)) w_50 fun t81_51 w_52 =>
 opK Tryd.prog E (xBin .add 3 (.tmp 75) (.tmp 81) t75_45 t81_51) w_52 fun t82_53 w_54 =>
 opK Tryd.prog E (xBin .sub 3 (.tmp 82) (.const (Value.int .i64 128)) t82_53 (Value.int .i64 128)) w_54 fun t83_55 w_56 =>
 opK Tryd.prog E (xBin .add 3 (.tmp 50) (.const (Value.int .i64 1)) x11 (Value.int .i64 1)) w_56 fun t51_57 w_58 =>
 next3 [t83_55, t51_57] w_58))
 (j2 [x10] w_22)
def F118_j1 (x0 x1 x8 x9 x10 : Value) (w : World) (R : Value → World → Prop) (E : Pan) : Prop :=
 ∀ _τ : Fr, (xcut (fun l_19 w_20 => F118_j2 x8 x9 (nth l_19 0) w_20 R E) fun j2 =>
 xloop [10, 11] [x10, (Value.int .i64 1)] w fun τ_59 w_60 next3 =>
 F118_l3 x0 x1 x8 x9 (τ_59 10) (τ_59 11) w_60 next3 j2 R E)
def F118 (x0 x1 : Value) (w : World) (R : Value → World → Prop) (E : Pan) : Prop :=
 opK Tryd.prog E (xV (Instr.index 9 x0 x1)) w fun t14_1 w_2 =>
 opK Tryd.prog E (xV (convert 5 3 t14_1)) w_2 fun t15_3 w_4 =>
 xcut (fun l_61 w_62 => F118_j1 x0 x1 (nth l_61 0) (nth l_61.tail 0) (nth l_61.tail.tail 0) w_62 R E) fun j1 =>
 opK Tryd.prog E (xBin .lss 3 (.tmp 17) (.const (Value.int .i64 128)) t15_3 (Value.int .i64 128)) w_4 fun t18_63 w_64 =>
 xcond t18_63
 (R (Value.tuple #[t15_3, (Value.int .i64 1), (Value.bool true)]) w_64)
 (opK Tryd.prog E (xBin .geq 3 (.tmp 21) (.const (Value.int .i64 194)) t15_3 (Value.int .i64 194)) w_64 fun t22_65 w_66 =>
 opK Tryd.prog E (gsem (asB t22_65) true (xBin .lss 3 (.tmp 24) (.const (Value.int .i64 224)) (gval (asB t22_65) true t15_3) (Value.int .i64 224))) w_66 fun t25_67 w_68 =>
 opK Tryd.prog E (xPick t22_65 t25_67 (Value.bool false)) w_68 fun t26_69 w_70 =>
 xcond t26_69
 (opK Tryd.prog E (xBin .sub 3 (.tmp 27) (.const (Value.int .i64 192)) t15_3 (Value.int .i64 192)) w_70 fun t28_71 w_72 =>
 j1 [(Value.int .i64 2), (Value.int .i64 128), t28_71] w_72)
 (opK Tryd.prog E (xBin .geq 3 (.tmp 30) (.const (Value.int .i64 224)) t15_3 (Value.int .i64 224)) w_70 fun t31_73 w_74 =>
 opK Tryd.prog E (gsem (asB t31_73) true (xBin .lss 3 (.tmp 33) (.const (Value.int .i64 240)) (gval (asB t31_73) true t15_3) (Value.int .i64 240))) w_74 fun t34_75 w_76 =>
 opK Tryd.prog E (xPick t31_73 t34_75 (Value.bool false)) w_76 fun t35_77 w_78 =>
 xcond t35_77
 (opK Tryd.prog E (xBin .sub 3 (.tmp 36) (.const (Value.int .i64 224)) t15_3 (Value.int .i64 224)) w_78 fun t37_79 w_80 =>
 j1 [(Value.int .i64 3), (Value.int .i64 2048), t37_79] w_80)
 (opK Tryd.prog E (xBin .geq 3 (.tmp 39) (.const (Value.int .i64 240)) t15_3 (Value.int .i64 240)) w_78 fun t40_81 w_82 =>
 opK Tryd.prog E (gsem (asB t40_81) true (xBin .lss 3 (.tmp 42) (.const (Value.int .i64 245)) (gval (asB t40_81) true t15_3) (Value.int .i64 245))) w_82 fun t43_83 w_84 =>
 opK Tryd.prog E (xPick t40_81 t43_83 (Value.bool false)) w_84 fun t44_85 w_86 =>
 xcond t44_85
 (opK Tryd.prog E (xBin .sub 3 (.tmp 45) (.const (Value.int .i64 240)) t15_3 (Value.int .i64 240)) w_86 fun t46_87 w_88 =>
 j1 [(Value.int .i64 4), (Value.int .i64 65536), t46_87] w_88)
 (R (Value.tuple #[(Value.int .i64 65533), (Value.int .i64 1), (Value.bool false)]) w_86))))
noncomputable def c118 : Code := Tryd.f118.body.getD .skip
def h118 : Hint := (.seq .none (.seq .none (.seq .none (.cut [8, 9, 10] (.block (.seq .none (.cond (.seq .none .none) (.seq .none (.cond .none (.seq .none (.cond .none (.seq .none (.cond .none (.seq .none .none)))))))))) (.cut [10] (.seq .none (.block (.loop [10, 11] (.seq (.seq .none (.cond .none .none)) (.seq (.block (.seq (.seq .none (.cond (.seq .none .none) .none)) .none)) .none))))) (.seq (.seq .none (.cond (.seq .none .none) .none)) (.seq .none .none)))))))
theorem F118_eq (x0 x1 : Value) (w : World) (R : Value → World → Prop) (E : Pan) : F118 x0 x1 w R E = callX Tryd.prog [.tmp 4, .tmp 5, .tmp 6] c118 h118 [x0, x1] w R E := by kernel_rfl
theorem F118_ok {x0 x1 : Value} {w : World} {R : Value → World → Prop} {E : Pan} (h : F118 x0 x1 w R E) : Cv Tryd.prog 118 #[x0, x1] w R E := by
 refine callX_sound (args := [x0, x1]) (c := c118) (h := h118) (rs := [.tmp 4, .tmp 5, .tmp 6]) Tryd.func118 (by kernel_rfl) (by kernel_rfl) (Nat.le_of_ble_eq_true (by kernel_rfl)) (by kernel_rfl) (by kernel_rfl) (by kernel_rfl) ?_
 rw [← F118_eq]
 exact h

/- function 119: gnomon/gnomonref1.Class -/
def F119_j1 (w : World) (R : Value → World → Prop) (_E : Pan) : Prop :=
 ∀ _τ : Fr, (R (Value.int .i64 6) w)
def F119_l2 (x0 x3 x4 : Value) (w : World) (next2 : List Value → World → Prop) (j1 : List Value → World → Prop) (R : Value → World → Prop) (E : Pan) : Prop :=
 opK Tryd.prog E (xBuiltin .len #[9] 3 [false] [x3]) w fun t55_51 w_52 =>
 opK Tryd.prog E (xBin .lss 3 (.tmp 53) (.tmp 55) x4 t55_51) w_52 fun t56_53 w_54 =>
 xcond t56_53
 (opK Tryd.prog E (xV (Instr.index 9 x3 x4)) w_54 fun t62_55 w_56 =>
 opK Tryd.prog E (xV (convert 5 3 t62_55)) w_56 fun t63_57 w_58 =>
 opK Tryd.prog E (xBin .eql 3 (.tmp 59) (.tmp 63) x0 t63_57) w_58 fun t64_59 w_60 =>
 xcond t64_59
 (R (Value.int .i64 5) w_60)
 (opK Tryd.prog E (xBin .add 3 (.tmp 57) (.const (Value.int .i64 1)) x4 (Value.int .i64 1)) w_60 fun t58_61 w_62 =>
 next2 [t58_61] w_62))
 (j1 [] w_54)
def F119 (x0 : Value) (w : World) (R : Value → World → Prop) (E : Pan) : Prop :=
 opK Tryd.prog E (xBin .eql 3 (.tmp 5) (.const (Value.int .i64 32)) x0 (Value.int .i64 32)) w fun t6_1 w_2 =>
 opK Tryd.prog E (gsem (asB t6_1) false (xBin .eql 3 (.tmp 8) (.const (Value.int .i64 9)) (gval (asB t6_1) false x0) (Value.int .i64 9))) w_2 fun t9_3 w_4 =>
 opK Tryd.prog E (xPick t6_1 (Value.bool true) t9_3) w_4 fun t10_5 w_6 =>
 opK Tryd.prog E (gsem (asB t10_5) false (xBin .eql 3 (.tmp 12) (.const (Value.int .i64 13)) (gval (asB t10_5) false x0) (Value.int .i64 13))) w_6 fun t13_7 w_8 =>
 opK Tryd.prog E (xPick t10_5 (Value.bool true) t13_7) w_8 fun t14_9 w_10 =>
 xcond t14_9
 (R (Value.int .i64 1) w_10)
 (opK Tryd.prog E (xBin .eql 3 (.tmp 15) (.const (Value.int .i64 10)) x0 (Value.int .i64 10)) w_10 fun t16_11 w_12 =>
 xcond t16_11
 (R (Value.int .i64 2) w_12)
 (opK Tryd.prog E (xCall (Value.func (.func 128) #[] #[]) [x0, (Value.int .i64 48), (Value.int .i64 57)]) w_12 fun t18_13 w_14 =>
 xcond t18_13
 (R (Value.int .i64 4) w_14)
 (opK Tryd.prog E (xCall (Value.func (.func 128) #[] #[]) [x0, (Value.int .i64 97), (Value.int .i64 122)]) w_14 fun t20_15 w_16 =>
 opK Tryd.prog E (gsem (asB t20_15) false (xCall (Value.func (.func 128) #[] #[]) [(gval (asB t20_15) false x0), (Value.int .i64 65), (Value.int .i64 90)])) w_16 fun t23_17 w_18 =>
 opK Tryd.prog E (xPick t20_15 (Value.bool true) t23_17) w_18 fun t24_19 w_20 =>
 opK Tryd.prog E (gsem (asB t24_19) false (xBin .eql 3 (.tmp 26) (.const (Value.int .i64 95)) (gval (asB t24_19) false x0) (Value.int .i64 95))) w_20 fun t27_21 w_22 =>
 opK Tryd.prog E (xPick t24_19 (Value.bool true) t27_21) w_22 fun t28_23 w_24 =>
 opK Tryd.prog E (gsem (asB t28_23) false (xCall (Value.func (.func 128) #[] #[]) [(gval (asB t28_23) false x0), (Value.int .i64 192), (Value.int .i64 591)])) w_24 fun t31_25 w_26 =>
 opK Tryd.prog E (gsem (asB (gval (asB t28_23) false t31_25)) true (xBin .neq 3 (.tmp 33) (.const (Value.int .i64 215)) (gval (asB (gval (asB t28_23) false t31_25)) true x0) (Value.int .i64 215))) w_26 fun t34_27 w_28 =>
 opK Tryd.prog E (gsem (asB t28_23) false (xPick (gval (asB t28_23) false t31_25) t34_27 (Value.bool false))) w_28 fun t35_29 w_30 =>
 opK Tryd.prog E (gsem (asB (gval (asB t28_23) false t35_29)) true (xBin .neq 3 (.tmp 37) (.const (Value.int .i64 247)) (gval (asB (gval (asB t28_23) false t35_29)) true x0) (Value.int .i64 247))) w_30 fun t38_31 w_32 =>
 opK Tryd.prog E (gsem (asB t28_23) false (xPick (gval (asB t28_23) false t35_29) t38_31 (Value.bool false))) w_32 fun t39_33 w_34 =>
 opK Tryd.prog E (xPick t28_23 (Value.bool true) t39_33) w_34 fun t40_35 w_36 =>
 opK Tryd.prog E (gsem (asB t40_35) false (xCall (Value.func (.func 128) #[] #[]) [(gval (asB t40_35) false x0), (Value.int .i64 913), (Value.int .i64 969)])) w_36 fun t43_37 w_38 =>
 opK Tryd.prog E (gsem (asB (gval (asB t40_35) false t43_37)) true (xBin .neq 3 (.tmp 45) (.const (Value.int .i64 930)) (gval (asB (gval (asB t40_35) false t43_37)) true x0) (Value.int .i64 930))) w_38 fun t46_39 w_40 =>
 opK Tryd.prog E (gsem (asB t40_35) false (xPick (gval (asB t40_35) false t43_37) t46_39 (Value.bool false))) w_40 fun t47_41 w_42 =>
 opK Tryd.prog E (xPick t40_35 (Value.bool true) t47_41) w_42 fun t48_43 w_44 =>
 opK Tryd.prog E (gsem (asB t48_43) false (xCall (Value.func (.func 128) #[] #[]) [(gval (asB t48_43) false x0), (Value.int .i64 1040), (Value.int .i64 1103)])) w_44 fun t51_45 w_46 =>
 opK Tryd.prog E (xPick t48_43 (Value.bool true) t51_45) w_46 fun t52_47 w_48 =>
 xcond t52_47
 (R (Value.int .i64 3) w_48)
 (xcut (fun _ w_50 => F119_j1 w_50 R E) fun j1 =>
 xloop [4] [(Value.int .i64 0)] w_48 fun τ_63 w_64 next2 =>
 F119_l2 x0 (Value.string ⟨#[59, 44, 123, 125, 40, 41, 91, 93, 61, 33, 60, 62, 43, 45, 42, 47, 37, 38, 124]⟩) (τ_63 4) w_64 next2 j1 R E))))
noncomputable def c119 : Code := Tryd.f119.body.getD .skip
def h119 : Hint := (.seq .none (.seq (.seq .none (.cond (.seq .none .none) .none)) (.seq (.seq .none (.cond (.seq .none .none) .none)) (.seq (.seq .none (.cond (.seq .none .none) .none)) (.seq (.seq .none (.cond (.seq .none .none) .none)) (.seq .none (.cut [] (.seq .none (.block (.loop [4] (.seq (.seq .none (.cond .none .none)) (.seq (.block (.seq .none (.cond (.seq .none .none) .none))) .none))))) (.seq .none .none))))))))
theorem F119_eq (x0 : Value) (w : World) (R : Value → World → Prop) (E : Pan) : F119 x0 w R E = callX Tryd.prog [.tmp 2] c119 h119 [x0] w R E := by kernel_rfl
theorem F119_ok {x0 : Value} {w : World} {R : Value → World → Prop} {E : Pan} (h : F119 x0 w R E) : Cv Tryd.prog 119 #[x0] w R E := by
 refine callX_sound (args := [x0]) (c := c119) (h := h119) (rs := [.tmp 2]) Tryd.func119 (by kernel_rfl) (by kernel_rfl) (Nat.le_of_ble_eq_true (by kernel_rfl)) (by kernel_rfl) (by kernel_rfl) (by kernel_rfl) ?_
 rw [← F119_eq]
 exact h

/- function 128: gnomon/gnomonref1.between -/
def F128 (x0 x1 x2 : Value) (w : World) (R : Value → World → Prop) (E : Pan) : Prop :=
 opK Tryd.prog E (xBin .geq 3 (.tmp 7) (.tmp 8) x0 x1) w fun t9_1 w_2 =>
 opK Tryd.prog E (gsem (asB t9_1) true (xBin .leq 3 (.tmp 11) (.tmp 12) (gval (asB t9_1) true x0) (gval (asB t9_1) true x2))) w_2 fun t13_3 w_4 =>
 opK Tryd.prog E (xPick t9_1 t13_3 (Value.bool false)) w_4 fun t14_5 w_6 =>
 R t14_5 w_6
noncomputable def c128 : Code := Tryd.f128.body.getD .skip
def h128 : Hint := (.seq .none (.seq .none .none))
theorem F128_eq (x0 x1 x2 : Value) (w : World) (R : Value → World → Prop) (E : Pan) : F128 x0 x1 x2 w R E = callX Tryd.prog [.tmp 6] c128 h128 [x0, x1, x2] w R E := by kernel_rfl
theorem F128_ok {x0 x1 x2 : Value} {w : World} {R : Value → World → Prop} {E : Pan} (h : F128 x0 x1 x2 w R E) : Cv Tryd.prog 128 #[x0, x1, x2] w R E := by
 refine callX_sound (args := [x0, x1, x2]) (c := c128) (h := h128) (rs := [.tmp 6]) Tryd.func128 (by kernel_rfl) (by kernel_rfl) (Nat.le_of_ble_eq_true (by kernel_rfl)) (by kernel_rfl) (by kernel_rfl) (by kernel_rfl) ?_
 rw [← F128_eq]
 exact h

end Go.Proofs.YthldnpmfelniiaaDoor
