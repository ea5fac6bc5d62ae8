/-
  The second reading of some of the program's functions, printed by gen2.py off the code; each is held against the code by the kernel.
-/
import Derived.Test.YtgapepdglhcglaaGO
namespace Go.Proofs.Ytgapepdglhcglaa
open Go.RowKit
set_option maxRecDepth 100000

/- function 4: gnomon/gnomonlaw10.StepOne -/
def F4_j2 (x1 x2 x3 x4 x5 x11 x14 x15 x16 : Value) (w : World) (R : Value → World → Prop) (E : Pan) : Prop :=
 ∀ _τ : Fr, (opK Try.prog E (xV (Instr.loadAt 26 x5)) w fun t67_19 w_20 =>
 opK Try.prog E (xCall (Value.func (.func 14) #[] #[]) [t67_19, x1, x2, x3, x4]) w_20 fun t72_21 w_22 =>
 opK Try.prog E (xV (Instr.extract t72_21 0)) w_22 fun t73_23 w_24 =>
 opK Try.prog E (xV (Instr.extract t72_21 1)) w_24 fun t74_25 w_26 =>
 opK Try.prog E (xV (Instr.extract t72_21 2)) w_26 fun _t75_27 w_28 =>
 opK Try.prog E (xV (Instr.extract t72_21 3)) w_28 fun t76_29 w_30 =>
 opK Try.prog E (xBin .eql 3 (.tmp 77) (.tmp 78) x16 t76_29) w_30 fun t79_31 w_32 =>
 opK Try.prog E (gsem (asB t79_31) true (xBin .eql 3 (.tmp 81) (.tmp 82) (gval (asB t79_31) true x14) (gval (asB t79_31) true t73_23))) w_32 fun t83_33 w_34 =>
 opK Try.prog E (xPick t79_31 t83_33 (Value.bool false)) w_34 fun t84_35 w_36 =>
 opK Try.prog E (gsem (asB t84_35) true (xBin .eql 3 (.tmp 86) (.tmp 87) (gval (asB t84_35) true x15) (gval (asB t84_35) true t74_25))) w_36 fun t88_37 w_38 =>
 opK Try.prog E (xPick t84_35 t88_37 (Value.bool false)) w_38 fun t89_39 w_40 =>
 opK Try.prog E (gsem (asB t89_39) true (xCall (Value.func (.func 12) #[] #[]) [(gval (asB t89_39) true x11), (gval (asB t89_39) true x1)])) w_40 fun t93_41 w_42 =>
 opK Try.prog E (xPick t89_39 t93_41 (Value.bool false)) w_42 fun t94_43 w_44 =>
 R t94_43 w_44)
def F4_l3 (_x1 x2 _x3 _x4 _x5 _x11 x12 _x14 _x15 _x16 x17 : Value) (w : World) (next3 : List Value → World → Prop) (j2 : List Value → World → Prop) (R : Value → World → Prop) (E : Pan) : Prop :=
 opK Try.prog E (xBuiltin .len #[32] 3 [false] [x2]) w fun t52_47 w_48 =>
 opK Try.prog E (xBin .lss 3 (.tmp 50) (.tmp 52) x17 t52_47) w_48 fun t53_49 w_50 =>
 xcond t53_49
 (dX w_50 fun w_51 =>
 qP Try.prog (xV (Instr.indexAt 32 x12 x17)) fun t58_52 =>
 qP Try.prog (xV (Instr.indexAt 32 x2 x17)) fun t62_53 =>
 qL Try.prog w_51 (blk t58_52) (xV (Instr.loadAt 27 t58_52)) fun t59_54 =>
 qL Try.prog w_51 (blk t62_53) (xV (Instr.loadAt 27 t62_53)) fun t63_55 =>
 opK Try.prog E (xCall (Value.func (.func 12) #[] #[]) [t59_54, t63_55]) w_51 fun t64_56 w_57 =>
 keepX [] w_51 w_57 (qP Try.prog (xV (Op.unary .not t64_56)) fun t65_58 =>
 xcond t65_58
 (R (Value.bool false) w_57)
 (opK Try.prog E (xBin .add 3 (.tmp 54) (.const (Value.int .i64 1)) x17 (Value.int .i64 1)) w_57 fun t55_59 w_60 =>
 next3 [t55_59] w_60)))
 (j2 [] w_50)
def F4_j1 (x1 x2 x3 x4 x5 x11 x12 : Value) (w : World) (R : Value → World → Prop) (E : Pan) : Prop :=
 ∀ _τ : Fr, (opK Try.prog E (xV (Instr.loadAt 26 x5)) w fun t41_9 w_10 =>
 opK Try.prog E (xCall (Value.func (.func 13) #[] #[]) [t41_9, x11, x12, x3, x4]) w_10 fun t46_11 w_12 =>
 opK Try.prog E (xV (Instr.extract t46_11 0)) w_12 fun t47_13 w_14 =>
 opK Try.prog E (xV (Instr.extract t46_11 1)) w_14 fun t48_15 w_16 =>
 opK Try.prog E (xV (Instr.extract t46_11 2)) w_16 fun t49_17 w_18 =>
 xcut (fun _ w_46 => F4_j2 x1 x2 x3 x4 x5 x11 t47_13 t48_15 t49_17 w_46 R E) fun j2 =>
 xloop [17] [(Value.int .i64 0)] w_18 fun τ_61 w_62 next3 =>
 F4_l3 x1 x2 x3 x4 x5 x11 x12 t47_13 t48_15 t49_17 (τ_61 17) w_62 next3 j2 R E)
def F4_l4 (_x1 x2 _x3 _x4 _x5 _x11 x12 x13 : Value) (w : World) (next4 : List Value → World → Prop) (j1 : List Value → World → Prop) (_R : Value → World → Prop) (E : Pan) : Prop :=
 opK Try.prog E (xBuiltin .len #[32] 3 [false] [x2]) w fun t28_65 w_66 =>
 opK Try.prog E (xBin .lss 3 (.tmp 26) (.tmp 28) x13 t28_65) w_66 fun t29_67 w_68 =>
 xcond t29_67
 (opK Try.prog E (xV (Instr.indexAt 32 x2 x13)) w_68 fun t35_69 w_70 =>
 opK Try.prog E (xV (Instr.loadAt 27 t35_69)) w_70 fun t36_71 w_72 =>
 opK Try.prog E (xBuiltin .append #[27, 27] 27 [true, false] [(Value.slice none 0 0), t36_71]) w_72 fun t37_73 w_74 =>
 opK Try.prog E (xV (Instr.buildSlice 32 1 #[(0, t37_73)])) w_74 fun t38_75 w_76 =>
 opK Try.prog E (xBuiltin .append #[32, 32] 32 [false, false] [x12, t38_75]) w_76 fun t39_77 w_78 =>
 opK Try.prog E (xBin .add 3 (.tmp 30) (.const (Value.int .i64 1)) x13 (Value.int .i64 1)) w_78 fun t31_79 w_80 =>
 next4 [t39_77, t31_79] w_80)
 (j1 [x12] w_68)
def F4 (x0 x1 x2 x3 x4 : Value) (w : World) (R : Value → World → Prop) (E : Pan) : Prop :=
 opK Try.prog E (xV (Instr.box 26 x0)) w fun t5_1 w_2 =>
 opK Try.prog E (xCall (Value.func (.func 5) #[] #[]) []) w_2 fun t22_3 w_4 =>
 opK Try.prog E (xV (Op.unary .not t22_3)) w_4 fun t23_5 w_6 =>
 xcond t23_5
 (R (Value.bool false) w_6)
 (opK Try.prog E (xBuiltin .append #[27, 27] 27 [true, false] [(Value.slice none 0 0), x1]) w_6 fun t25_7 w_8 =>
 xcut (fun l_63 w_64 => F4_j1 x1 x2 x3 x4 t5_1 t25_7 (nth l_63 0) w_64 R E) fun j1 =>
 xloop [12, 13] [(Value.slice none 0 0), (Value.int .i64 0)] w_8 fun τ_81 w_82 next4 =>
 F4_l4 x1 x2 x3 x4 t5_1 t25_7 (τ_81 12) (τ_81 13) w_82 next4 j1 R E)
noncomputable def c4 : Code := Try.f4.body.getD .skip
def h4 : Hint := (.seq .none (.seq (.seq .none (.cond (.seq .none .none) .none)) (.seq .none (.seq .none (.cut [12] (.seq .none (.block (.loop [12, 13] (.seq (.seq .none (.cond .none .none)) (.seq (.block .none) .none))))) (.seq .none (.cut [] (.seq .none (.block (.loop [17] (.seq (.seq .none (.cond .none .none)) (.seq (.block (.seq (.reg [(0, 72057594037927936, 4096), (0, 144115188075855872, 131072), (3, 288230376151711744, 216172782113783808), (4, 576460752303423488, 288230376151711744), (0, 1152921504606846976, 4), (0, 2305843009213693952, 131072), (48, 4611686018427387904, 3458764513820540928), (64, 9223372036854775808, 4611686018427387904), (136, 18446744073709551616, 9799832789158199296), (256, 36893488147419103232, 18446744073709551616)] [136, 136, 136, 128, 136, 136, 136, 8, 0, 136] (.early 0 (.early 1 (.early 2 (.early 4 (.early 5 (.early 6 (.load 3 (.load 7 (.step 8 (.early 9 .done))))))))))) (.cond (.seq .none .none) .none))) .none))))) (.seq .none (.seq .none .none)))))))))
theorem F4_eq (x0 x1 x2 x3 x4 : Value) (w : World) (R : Value → World → Prop) (E : Pan) : F4 x0 x1 x2 x3 x4 w R E = callX Try.prog [.tmp 10] c4 h4 [x0, x1, x2, x3, x4] w R E := by kernel_rfl
theorem F4_ok {x0 x1 x2 x3 x4 : Value} {w : World} {R : Value → World → Prop} {E : Pan} (h : F4 x0 x1 x2 x3 x4 w R E) : Cv Try.prog 4 #[x0, x1, x2, x3, x4] w R E := by
 refine callX_sound (args := [x0, x1, x2, x3, x4]) (c := c4) (h := h4) (rs := [.tmp 10]) Try.func4 (by kernel_rfl) (by kernel_rfl) (Nat.le_of_ble_eq_true (by kernel_rfl)) (by kernel_rfl) (by kernel_rfl) (by kernel_rfl) ?_
 rw [← F4_eq]
 exact h

/- function 13: gnomon/step.One -/
def F13_j2 (x5 x14 : Value) (w : World) (R : Value → World → Prop) (E : Pan) : Prop :=
 ∀ _τ : Fr, (opK Try.prog E (xCall (Value.func (.func 18) #[] #[]) [x14]) w fun t70_27 w_28 =>
 opK Try.prog E (xV (Instr.extract t70_27 0)) w_28 fun t71_29 w_30 =>
 opK Try.prog E (xV (Instr.extract t70_27 1)) w_30 fun t72_31 w_32 =>
 opK Try.prog E (xV (Op.unary .not t72_31)) w_32 fun t74_33 w_34 =>
 xcond t74_33
 (R (Value.tuple #[(Value.int .i64 (-1)), (Value.int .i64 0), (Value.int .i64 0)]) w_34)
 (opK Try.prog E (xV (Instr.fieldAt 26 x5 5)) w_34 fun t75_35 w_36 =>
 opK Try.prog E (xV (Instr.loadAt 24 t75_35)) w_36 fun t76_37 w_38 =>
 opK Try.prog E (xV (Instr.indexAt 24 t76_37 t71_29)) w_38 fun t78_39 w_40 =>
 opK Try.prog E (xV (Instr.loadAt 52 t78_39)) w_40 fun t79_41 w_42 =>
 opK Try.prog E (xV (Instr.alloc 52 true (.tuple #[]))) w_42 fun t19_43 w_44 =>
 opK Try.prog E (xU (Instr.storeAt 52 t19_43 t79_41)) w_44 fun _z_45 w_46 =>
 dX w_46 fun w_47 =>
 qP Try.prog (xV (Instr.fieldAt 52 t19_43 2)) fun t82_48 =>
 qL Try.prog w_47 (blk t82_48) (xV (Instr.loadAt 3 t82_48)) fun t83_49 =>
 qL Try.prog w_47 (blk t19_43) (xV (Instr.loadAt 52 t19_43)) fun t86_50 =>
 opK Try.prog E (xCall (Value.func (.func 17) #[] #[]) []) w_47 fun t81_51 w_52 =>
 keepX [(blk t19_43), (blk t82_48)] w_47 w_52 (qP Try.prog (xV (Instr.index 63 t81_51 t83_49)) fun t84_53 =>
 opK Try.prog E (xCall t84_53 [x14, t86_50]) w_52 fun t87_54 w_55 =>
 keepX [] w_52 w_55 (R (Value.tuple #[t71_29, t87_54, (Value.int .i64 0)]) w_55))))
def F13_l3 (_x5 x14 x50 x51 x52 : Value) (w : World) (next3 : List Value → World → Prop) (j2 : List Value → World → Prop) (_R : Value → World → Prop) (E : Pan) : Prop :=
 opK Try.prog E (xBin .lss 3 (.tmp 52) (.tmp 51) x52 x51) w fun t53_60 w_61 =>
 xcond t53_60
 (opK Try.prog E (xV (Instr.indexAt 32 x50 x52)) w_61 fun t54_62 w_63 =>
 opK Try.prog E (xV (Instr.loadAt 27 t54_62)) w_63 fun t55_64 w_65 =>
 dX w_65 fun w_66 =>
 qP Try.prog (xNil x14) fun t58_67 =>
 qP Try.prog (xV (Instr.fieldAt 58 t58_67 4)) fun t59_68 =>
 qL Try.prog w_66 (blk t59_68) (xV (Instr.loadAt 32 t59_68)) fun t60_69 =>
 opK Try.prog E (xBuiltin .append #[27, 27] 27 [true, false] [(Value.slice none 0 0), t55_64]) w_66 fun t62_70 w_71 =>
 keepX [(blk t59_68)] w_66 w_71 (opK Try.prog E (xV (Instr.buildSlice 32 1 #[(0, t62_70)])) w_71 fun t63_72 w_73 =>
 keepX [(blk t59_68)] w_71 w_73 (opK Try.prog E (xBuiltin .append #[32, 32] 32 [false, false] [t60_69, t63_72]) w_73 fun t64_74 w_75 =>
 keepX [] w_73 w_75 (qP Try.prog (xNil x14) fun t65_76 =>
 qP Try.prog (xV (Instr.fieldAt 58 t65_76 4)) fun t66_77 =>
 opK Try.prog E (xU (Instr.storeAt 32 t66_77 t64_74)) w_75 fun _z_78 w_79 =>
 keepX [] w_75 w_79 (opK Try.prog E (xBin .add 3 (.tmp 52) (.const (Value.int .i64 1)) x52 (Value.int .i64 1)) w_79 fun t67_80 w_81 =>
 next3 [t67_80] w_81)))))
 (j2 [] w_61)
def F13_j1 (x2 x5 x14 : Value) (w : World) (R : Value → World → Prop) (E : Pan) : Prop :=
 ∀ _τ : Fr, (xcut (fun _ w_57 => F13_j2 x5 x14 w_57 R E) fun j2 =>
 opK Try.prog E (xBuiltin .len #[32] 3 [false] [x2]) w fun t51_58 w_59 =>
 xloop [52] [(Value.int .i64 0)] w_59 fun τ_82 w_83 next3 =>
 F13_l3 x5 x14 x2 t51_58 (τ_82 52) w_83 next3 j2 R E)
def F13 (x0 x1 x2 x3 x4 : Value) (w : World) (R : Value → World → Prop) (E : Pan) : Prop :=
 opK Try.prog E (xV (Instr.box 26 x0)) w fun t5_1 w_2 =>
 opK Try.prog E (xV (Instr.loadAt 26 t5_1)) w_2 fun t20_3 w_4 =>
 opK Try.prog E (xCall (Value.func (.func 15) #[] #[]) [t20_3]) w_4 fun t21_5 w_6 =>
 opK Try.prog E (xBin .neq 35 (.tmp 22) (.const (Value.int .i64 0)) t21_5 (Value.int .i64 0)) w_6 fun t23_7 w_8 =>
 xcond t23_7
 (R (Value.tuple #[(Value.int .i64 0), (Value.int .i64 0), t21_5]) w_8)
 (opK Try.prog E (xBin .lss 3 (.tmp 25) (.const (Value.int .i64 0)) x4 (Value.int .i64 0)) w_8 fun t26_9 w_10 =>
 opK Try.prog E (gsem (asB t26_9) false (xV (Instr.fieldAt 26 t5_1 3))) w_10 fun t29_11 w_12 =>
 opK Try.prog E (gsem (asB t26_9) false (xV (Instr.loadAt 3 t29_11))) w_12 fun t30_13 w_14 =>
 opK Try.prog E (gsem (asB t26_9) false (xBin .geq 3 (.tmp 28) (.tmp 30) (gval (asB t26_9) false x4) t30_13)) w_14 fun t31_15 w_16 =>
 opK Try.prog E (xPick t26_9 (Value.bool true) t31_15) w_16 fun t32_17 w_18 =>
 opK Try.prog E (gsem (asB t32_17) false (xV (Instr.loadAt 26 t5_1))) w_18 fun t34_19 w_20 =>
 opK Try.prog E (gsem (asB t32_17) false (xCall (Value.func (.func 25) #[] #[]) [t34_19, (gval (asB t32_17) false x1), (gval (asB t32_17) false x2)])) w_20 fun t37_21 w_22 =>
 opK Try.prog E (gsem (asB t32_17) false (xV (Op.unary .not t37_21))) w_22 fun t38_23 w_24 =>
 opK Try.prog E (xPick t32_17 (Value.bool true) t38_23) w_24 fun t39_25 w_26 =>
 xcond t39_25
 (R (Value.tuple #[(Value.int .i64 0), (Value.int .i64 0), (Value.int .i64 92)]) w_26)
 (xcut (fun l_84 w_85 => F13_j1 x2 t5_1 (nth l_84 0) w_85 R E) fun j1 =>
 dX w_26 fun w_86 =>
 qL Try.prog w_86 (blk t5_1) (xV (Instr.loadAt 26 t5_1)) fun t40_87 =>
 qL Try.prog w_86 (blk t5_1) (xV (Instr.loadAt 26 t5_1)) fun t41_88 =>
 (opK Try.prog E (xCall (Value.func (.func 16) #[] #[]) [t41_88]) w_86 fun t42_89 w_90 =>
 keepX [(blk t5_1)] w_86 w_90 ((opK Try.prog E (xBuiltin .append #[27, 27] 27 [true, false] [(Value.slice none 0 0), x1]) w_90 fun t45_91 w_92 =>
 keepX [(blk t5_1)] w_90 w_92 (opK Try.prog E (xV (Instr.buildSlice 27 1 #[(0, x3)])) w_92 fun t47_93 w_94 =>
 keepX [(blk t5_1), (blk t5_1)] w_92 w_94 (qP Try.prog (xV (Instr.build 58 #[(0, t40_87), (1, t42_89), (2, x4), (3, t45_91), (5, t47_93)])) fun t48_95 =>
 opK Try.prog E (xV (Instr.box 58 t48_95)) w_94 fun t49_96 w_97 =>
 keepX [] w_94 w_97 (j1 [t49_96] w_97)))) ∧
 (opK Try.prog E (xV (Instr.buildSlice 27 1 #[(0, x3)])) w_90 fun t47_98 w_99 =>
 keepX [(blk t5_1), (blk t5_1)] w_90 w_99 (opK Try.prog E (xBuiltin .append #[27, 27] 27 [true, false] [(Value.slice none 0 0), x1]) w_99 fun t45_100 w_101 =>
 keepX [(blk t5_1)] w_99 w_101 (qP Try.prog (xV (Instr.build 58 #[(0, t40_87), (1, t42_89), (2, x4), (3, t45_100), (5, t47_98)])) fun t48_102 =>
 opK Try.prog E (xV (Instr.box 58 t48_102)) w_101 fun t49_103 w_104 =>
 keepX [] w_101 w_104 (j1 [t49_103] w_104)))))) ∧
 (opK Try.prog E (xV (Instr.buildSlice 27 1 #[(0, x3)])) w_86 fun t47_105 w_106 =>
 keepX [(blk t5_1), (blk t5_1)] w_86 w_106 (opK Try.prog E (xCall (Value.func (.func 16) #[] #[]) [t41_88]) w_106 fun t42_107 w_108 =>
 keepX [(blk t5_1)] w_106 w_108 (opK Try.prog E (xBuiltin .append #[27, 27] 27 [true, false] [(Value.slice none 0 0), x1]) w_108 fun t45_109 w_110 =>
 keepX [(blk t5_1)] w_108 w_110 (qP Try.prog (xV (Instr.build 58 #[(0, t40_87), (1, t42_107), (2, x4), (3, t45_109), (5, t47_105)])) fun t48_111 =>
 opK Try.prog E (xV (Instr.box 58 t48_111)) w_110 fun t49_112 w_113 =>
 keepX [] w_110 w_113 (j1 [t49_112] w_113)))))))
noncomputable def c13 : Code := Try.f13.body.getD .skip
def h13 : Hint := (.seq .none (.seq (.seq .none (.seq .none (.cond (.seq .none .none) .none))) (.seq (.seq .none (.cond (.seq .none .none) .none)) (.cut [14] (.reg [(0, 1099511627776, 32), (0, 2199023255552, 32), (2, 4398046511104, 2199023255552), (0, 8796093022208, 16), (0, 17592186044416, 2), (20, 35184372088832, 17592186044416), (0, 70368744177664, 8), (64, 140737488355328, 70368744177664), (173, 281474976710656, 190215511605248), (256, 562949953421312, 281474976710656), (1023, 16384, 562949953421312)] [2, 1, 1, 3, 3, 1, 3, 3, 3, 0, 3] (.early 3 (.early 4 (.early 6 (.load 0 (.load 1 (.alt 2 (.alt 5 (.step 7 (.early 8 (.step 9 (.early 10 .done)))) (.step 7 (.step 5 (.early 8 (.step 9 (.early 10 .done)))))) (.step 7 (.step 2 (.step 5 (.early 8 (.step 9 (.early 10 .done))))))))))))) (.cut [] (.seq .none (.block (.loop [52] (.seq .none (.seq (.cond .none .none) (.seq (.block (.seq .none (.reg [(0, 72057594037927936, 16384), (0, 144115188075855872, 16384), (2, 288230376151711744, 144115188075855872), (4, 576460752303423488, 288230376151711744), (8, 1152921504606846976, 576460752303423488), (0, 2305843009213693952, 65536), (32, 4611686018427387904, 2305843009213693952), (64, 9223372036854775808, 4611686018427387904), (208, 18446744073709551616, 10376293541461622784), (511, 36893488147419103232, 72057594037927936), (1023, 73786976294838206464, 36893488147419103232), (1535, 0, 92233720368547758080)] [16, 16, 16, 16, 0, 16, 16, 16, 0, 16, 16, 0] (.early 0 (.early 1 (.early 2 (.early 3 (.early 5 (.load 4 (.step 6 (.step 7 (.step 8 (.early 9 (.early 10 (.step 11 .done))))))))))))))) .none)))))) (.seq .none (.seq (.seq .none (.cond (.seq .none .none) .none)) (.seq .none (.seq (.reg [(0, 1208925819614629174706176, 131072), (0, 2417851639229258349412352, 0), (0, 4835703278458516698824704, 524288), (4, 9671406556917033397649408, 4835703278458516698824704), (10, 19342813113834066795298816, 12089258196146291747061760), (0, 38685626227668133590597632, 16384), (0, 77371252455336267181195264, 524288), (114, 154742504910672534362390528, 135399691796838467567091712), (129, 1024, 1208925819614629174706176), (511, 2048, 154742504910672534362390528), (1023, 4096, 0)] [72, 72, 72, 64, 72, 72, 8, 0, 72, 72, 72] (.early 0 (.early 2 (.early 5 (.load 3 (.load 6 (.step 1 (.early 4 (.step 7 (.early 8 (.early 9 (.early 10 .done)))))))))))) .none)))))))))
theorem F13_eq (x0 x1 x2 x3 x4 : Value) (w : World) (R : Value → World → Prop) (E : Pan) : F13 x0 x1 x2 x3 x4 w R E = callX Try.prog [.tmp 10, .tmp 11, .tmp 12] c13 h13 [x0, x1, x2, x3, x4] w R E := by kernel_rfl
theorem F13_ok {x0 x1 x2 x3 x4 : Value} {w : World} {R : Value → World → Prop} {E : Pan} (h : F13 x0 x1 x2 x3 x4 w R E) : Cv Try.prog 13 #[x0, x1, x2, x3, x4] w R E := by
 refine callX_sound (args := [x0, x1, x2, x3, x4]) (c := c13) (h := h13) (rs := [.tmp 10, .tmp 11, .tmp 12]) Try.func13 (by kernel_rfl) (by kernel_rfl) (Nat.le_of_ble_eq_true (by kernel_rfl)) (by kernel_rfl) (by kernel_rfl) (by kernel_rfl) ?_
 rw [← F13_eq]
 exact h

/- function 14: gnomon/gnomonref10.One -/
def F14_j1 (x3 x4 x5 x15 : Value) (w : World) (R : Value → World → Prop) (E : Pan) : Prop :=
 ∀ _τ : Fr, (dX w fun w_47 =>
 qL Try.prog w_47 (blk x5) (xV (Instr.loadAt 26 x5)) fun t82_48 =>
 qL Try.prog w_47 (blk x5) (xV (Instr.loadAt 26 x5)) fun t84_49 =>
 opK Try.prog E (xCall (Value.func (.func 26) #[] #[]) [t84_49, x4]) w_47 fun t86_50 w_51 =>
 keepX [(blk x5)] w_47 w_51 (opK Try.prog E (xCall (Value.func (.func 21) #[] #[]) [t82_48, x15, t86_50]) w_51 fun t87_52 w_53 =>
 keepX [] w_51 w_53 (opK Try.prog E (xBin .lss 3 (.tmp 88) (.const (Value.int .i64 0)) t87_52 (Value.int .i64 0)) w_53 fun t89_54 w_55 =>
 xcond t89_54
 (dX w_55 fun w_56 =>
 qP Try.prog (xNil x15) fun t91_57 =>
 qP Try.prog (xV (Instr.fieldAt 71 t91_57 0)) fun t92_58 =>
 qL Try.prog w_56 (blk t92_58) (xV (Instr.loadAt 27 t92_58)) fun t93_59 =>
 R (Value.tuple #[(Value.int .i64 (-1)), (Value.int .i64 0), t93_59, (Value.int .i64 0)]) w_56)
 (dX w_55 fun w_60 =>
 qP Try.prog (xV (Instr.fieldAt 26 x5 5)) fun t96_61 =>
 qP Try.prog (xNil x15) fun t104_62 =>
 qP Try.prog (xV (Instr.fieldAt 71 t104_62 0)) fun t105_63 =>
 qL Try.prog w_60 (blk t96_61) (xV (Instr.loadAt 24 t96_61)) fun t97_64 =>
 qP Try.prog (xV (Instr.indexAt 24 t97_64 t87_52)) fun t99_65 =>
 qL Try.prog w_60 (blk t99_65) (xV (Instr.loadAt 52 t99_65)) fun t100_66 =>
 qL Try.prog w_60 (blk t105_63) (xV (Instr.loadAt 27 t105_63)) fun t106_67 =>
 opK Try.prog E (xCall (Value.func (.func 22) #[] #[]) [x15, t100_66, x3]) w_60 fun t102_68 w_69 =>
 keepX [(blk t105_63)] w_60 w_69 (R (Value.tuple #[t87_52, t102_68, t106_67, (Value.int .i64 0)]) w_69)))))
def F14_l2 (x2 _x3 _x4 x5 x15 x16 : Value) (w : World) (next2 : List Value → World → Prop) (j1 : List Value → World → Prop) (R : Value → World → Prop) (E : Pan) : Prop :=
 opK Try.prog E (xBuiltin .len #[32] 3 [false] [x2]) w fun t52_72 w_73 =>
 opK Try.prog E (xBin .lss 3 (.tmp 50) (.tmp 52) x16 t52_72) w_73 fun t53_74 w_75 =>
 xcond t53_74
 (dX w_75 fun w_76 =>
 qP Try.prog (xV (Instr.indexAt 32 x2 x16)) fun t58_77 =>
 qP Try.prog (xV (Instr.fieldAt 26 x5 2)) fun t61_78 =>
 qL Try.prog w_76 (blk t58_77) (xV (Instr.loadAt 27 t58_77)) fun t59_79 =>
 qP Try.prog (xBuiltin .len #[27] 3 [false] [t59_79]) fun t60_80 =>
 qL Try.prog w_76 (blk t61_78) (xV (Instr.loadAt 23 t61_78)) fun t62_81 =>
 qP Try.prog (xV (Instr.indexAt 23 t62_81 x16)) fun t64_82 =>
 qP Try.prog (xV (Instr.fieldAt 60 t64_82 1)) fun t65_83 =>
 qL Try.prog w_76 (blk t65_83) (xV (Instr.loadAt 3 t65_83)) fun t66_84 =>
 qP Try.prog (xBin .neq 3 (.tmp 60) (.tmp 66) t60_80 t66_84) fun t67_85 =>
 xcond t67_85
 (R (Value.tuple #[(Value.int .i64 0), (Value.int .i64 0), (Value.slice none 0 0), (Value.int .i64 92)]) w_76)
 (dX w_76 fun w_86 =>
 qP Try.prog (xNil x15) fun t70_87 =>
 qP Try.prog (xV (Instr.fieldAt 71 t70_87 1)) fun t71_88 =>
 qP Try.prog (xV (Instr.indexAt 32 x2 x16)) fun t75_89 =>
 qL Try.prog w_86 (blk t71_88) (xV (Instr.loadAt 32 t71_88)) fun t72_90 =>
 qL Try.prog w_86 (blk t75_89) (xV (Instr.loadAt 27 t75_89)) fun t76_91 =>
 opK Try.prog E (xBuiltin .append #[27, 27] 27 [true, false] [(Value.slice none 0 0), t76_91]) w_86 fun t77_92 w_93 =>
 keepX [(blk t71_88)] w_86 w_93 (opK Try.prog E (xV (Instr.buildSlice 32 1 #[(0, t77_92)])) w_93 fun t78_94 w_95 =>
 keepX [(blk t71_88)] w_93 w_95 (opK Try.prog E (xBuiltin .append #[32, 32] 32 [false, false] [t72_90, t78_94]) w_95 fun t79_96 w_97 =>
 keepX [] w_95 w_97 (qP Try.prog (xNil x15) fun t80_98 =>
 qP Try.prog (xV (Instr.fieldAt 71 t80_98 1)) fun t81_99 =>
 opK Try.prog E (xU (Instr.storeAt 32 t81_99 t79_96)) w_97 fun _z_100 w_101 =>
 keepX [] w_97 w_101 (opK Try.prog E (xBin .add 3 (.tmp 54) (.const (Value.int .i64 1)) x16 (Value.int .i64 1)) w_101 fun t55_102 w_103 =>
 next2 [t55_102] w_103))))))
 (j1 [] w_75)
def F14 (x0 x1 x2 x3 x4 : Value) (w : World) (R : Value → World → Prop) (E : Pan) : Prop :=
 opK Try.prog E (xV (Instr.box 26 x0)) w fun t5_1 w_2 =>
 opK Try.prog E (xV (Instr.loadAt 26 t5_1)) w_2 fun t18_3 w_4 =>
 opK Try.prog E (xCall (Value.func (.func 19) #[] #[]) [t18_3]) w_4 fun t19_5 w_6 =>
 opK Try.prog E (xBin .neq 3 (.tmp 20) (.const (Value.int .i64 0)) t19_5 (Value.int .i64 0)) w_6 fun t21_7 w_8 =>
 xcond t21_7
 (R (Value.tuple #[(Value.int .i64 0), (Value.int .i64 0), (Value.slice none 0 0), t19_5]) w_8)
 (opK Try.prog E (xBin .lss 3 (.tmp 23) (.const (Value.int .i64 0)) x4 (Value.int .i64 0)) w_8 fun t24_9 w_10 =>
 opK Try.prog E (gsem (asB t24_9) false (xV (Instr.fieldAt 26 t5_1 3))) w_10 fun t27_11 w_12 =>
 opK Try.prog E (gsem (asB t24_9) false (xV (Instr.loadAt 3 t27_11))) w_12 fun t28_13 w_14 =>
 opK Try.prog E (gsem (asB t24_9) false (xBin .geq 3 (.tmp 26) (.tmp 28) (gval (asB t24_9) false x4) t28_13)) w_14 fun t29_15 w_16 =>
 opK Try.prog E (xPick t24_9 (Value.bool true) t29_15) w_16 fun t30_17 w_18 =>
 opK Try.prog E (gsem (asB t30_17) false (xBuiltin .len #[27] 3 [false] [(gval (asB t30_17) false x1)])) w_18 fun t33_19 w_20 =>
 opK Try.prog E (gsem (asB t30_17) false (xV (Instr.loadAt 26 t5_1))) w_20 fun t34_21 w_22 =>
 opK Try.prog E (gsem (asB t30_17) false (xCall (Value.func (.func 20) #[] #[]) [t34_21])) w_22 fun t35_23 w_24 =>
 opK Try.prog E (gsem (asB t30_17) false (xBin .neq 3 (.tmp 33) (.tmp 35) t33_19 t35_23)) w_24 fun t36_25 w_26 =>
 opK Try.prog E (xPick t30_17 (Value.bool true) t36_25) w_26 fun t37_27 w_28 =>
 opK Try.prog E (gsem (asB t37_27) false (xBuiltin .len #[32] 3 [false] [(gval (asB t37_27) false x2)])) w_28 fun t40_29 w_30 =>
 opK Try.prog E (gsem (asB t37_27) false (xV (Instr.fieldAt 26 t5_1 2))) w_30 fun t41_31 w_32 =>
 opK Try.prog E (gsem (asB t37_27) false (xV (Instr.loadAt 23 t41_31))) w_32 fun t42_33 w_34 =>
 opK Try.prog E (gsem (asB t37_27) false (xBuiltin .len #[23] 3 [false] [t42_33])) w_34 fun t43_35 w_36 =>
 opK Try.prog E (gsem (asB t37_27) false (xBin .neq 3 (.tmp 40) (.tmp 43) t40_29 t43_35)) w_36 fun t44_37 w_38 =>
 opK Try.prog E (xPick t37_27 (Value.bool true) t44_37) w_38 fun t45_39 w_40 =>
 xcond t45_39
 (R (Value.tuple #[(Value.int .i64 0), (Value.int .i64 0), (Value.slice none 0 0), (Value.int .i64 92)]) w_40)
 (opK Try.prog E (xBuiltin .append #[27, 27] 27 [true, false] [(Value.slice none 0 0), x1]) w_40 fun t47_41 w_42 =>
 opK Try.prog E (xV (Instr.build 71 #[(0, t47_41)])) w_42 fun t48_43 w_44 =>
 opK Try.prog E (xV (Instr.box 71 t48_43)) w_44 fun t49_45 w_46 =>
 xcut (fun _ w_71 => F14_j1 x3 x4 t5_1 t49_45 w_71 R E) fun j1 =>
 xloop [16] [(Value.int .i64 0)] w_46 fun τ_104 w_105 next2 =>
 F14_l2 x2 x3 x4 t5_1 t49_45 (τ_104 16) w_105 next2 j1 R E))
noncomputable def c14 : Code := Try.f14.body.getD .skip
def h14 : Hint := (.seq .none (.seq .none (.seq (.seq .none (.cond (.seq .none .none) .none)) (.seq (.seq .none (.cond (.seq .none .none) .none)) (.seq .none (.cut [] (.seq .none (.block (.loop [16] (.seq (.seq .none (.cond .none .none)) (.seq (.block (.seq (.seq (.reg [(0, 72057594037927936, 4), (0, 144115188075855872, 65536), (3, 288230376151711744, 216172782113783808), (4, 576460752303423488, 288230376151711744), (8, 1152921504606846976, 576460752303423488), (0, 2305843009213693952, 32), (32, 4611686018427387904, 2305843009213693952), (0, 9223372036854775808, 65536), (192, 18446744073709551616, 13835058055282163712), (256, 36893488147419103232, 18446744073709551616), (512, 73786976294838206464, 36893488147419103232), (1040, 147573952589676412928, 74939897799445053440)] [1096, 1096, 1096, 1088, 1096, 1096, 1032, 1096, 1096, 1096, 72, 1096] (.early 0 (.early 1 (.early 2 (.early 5 (.early 7 (.load 3 (.early 4 (.load 6 (.early 8 (.early 9 (.load 10 (.early 11 .done))))))))))))) (.cond (.seq .none .none) .none)) (.reg [(0, 295147905179352825856, 32768), (0, 590295810358705651712, 32768), (2, 1180591620717411303424, 590295810358705651712), (4, 2361183241434822606848, 1180591620717411303424), (8, 4722366482869645213696, 2361183241434822606848), (0, 9444732965739290427392, 4), (0, 18889465931478580854784, 65536), (96, 37778931862957161709568, 28334198897217871282176), (128, 75557863725914323419136, 37778931862957161709568), (256, 151115727451828646838272, 75557863725914323419136), (512, 302231454903657293676544, 151115727451828646838272), (1552, 604462909807314587353088, 306953821386526938890240), (4095, 1208925819614629174706176, 295147905179352825856), (8191, 2417851639229258349412352, 1208925819614629174706176), (12287, 0, 3022314549036572936765440)] [272, 272, 272, 272, 256, 272, 272, 272, 16, 16, 16, 0, 272, 272, 0] (.early 0 (.early 1 (.early 2 (.early 3 (.early 5 (.early 6 (.early 7 (.load 4 (.load 8 (.step 9 (.step 10 (.step 11 (.early 12 (.early 13 (.step 14 .done)))))))))))))))))) .none))))) (.seq (.reg [(0, 4835703278458516698824704, 32), (0, 9671406556917033397649408, 32768), (0, 19342813113834066795298816, 32), (0, 38685626227668133590597632, 16), (12, 77371252455336267181195264, 58028439341502200385896448), (19, 154742504910672534362390528, 91878362290711817277669376), (63, 131072, 154742504910672534362390528)] [4, 5, 1, 5, 1, 0, 5] (.early 1 (.early 3 (.load 0 (.load 2 (.step 4 (.step 5 (.early 6 .done)))))))) (.seq (.seq .none (.cond (.seq (.reg [(0, 1237940039285380274899124224, 32768), (1, 2475880078570760549798248448, 1237940039285380274899124224), (2, 4951760157141521099596496896, 2475880078570760549798248448), (4, 9903520314283042199192993792, 4951760157141521099596496896), (0, 1024, 0), (16, 2048, 0), (63, 4096, 9903520314283042199192993792), (127, 8192, 0)] [8, 8, 8, 0, 8, 8, 8, 8] (.early 0 (.early 1 (.early 2 (.early 4 (.early 5 (.load 3 (.early 6 (.early 7 .done))))))))) .none) .none)) (.seq (.reg [(0, 19807040628566084398385987584, 131072), (0, 39614081257132168796771975168, 32768), (0, 79228162514264337593543950336, 32), (4, 158456325028528675187087900672, 79228162514264337593543950336), (0, 316912650057057350374175801344, 131072), (24, 633825300114114700748351602688, 475368975085586025561263702016), (32, 1267650600228229401496703205376, 633825300114114700748351602688), (0, 2535301200456458802993406410752, 8), (194, 5070602400912917605986812821504, 3842565881941820373286881591296), (0, 10141204801825835211973625643008, 32768), (512, 20282409603651670423947251286016, 10141204801825835211973625643008), (1024, 40564819207303340847894502572032, 20282409603651670423947251286016), (2048, 81129638414606681695789005144064, 40564819207303340847894502572032), (257, 1024, 19807040628566084398385987584), (8703, 2048, 5070602400912917605986812821504), (32767, 4096, 81129638414606681695789005144064), (65535, 8192, 0)] [4168, 4168, 4168, 4160, 4168, 4168, 4104, 4168, 4096, 4168, 4168, 4168, 72, 4168, 4168, 4168, 4168] (.early 0 (.early 1 (.early 2 (.early 4 (.early 7 (.early 9 (.early 10 (.early 11 (.load 3 (.early 5 (.load 6 (.load 12 (.step 8 (.early 13 (.early 14 (.early 15 (.early 16 .done)))))))))))))))))) .none)))))))))
theorem F14_eq (x0 x1 x2 x3 x4 : Value) (w : World) (R : Value → World → Prop) (E : Pan) : F14 x0 x1 x2 x3 x4 w R E = callX Try.prog [.tmp 10, .tmp 11, .tmp 12, .tmp 13] c14 h14 [x0, x1, x2, x3, x4] w R E := by kernel_rfl
theorem F14_ok {x0 x1 x2 x3 x4 : Value} {w : World} {R : Value → World → Prop} {E : Pan} (h : F14 x0 x1 x2 x3 x4 w R E) : Cv Try.prog 14 #[x0, x1, x2, x3, x4] w R E := by
 refine callX_sound (args := [x0, x1, x2, x3, x4]) (c := c14) (h := h14) (rs := [.tmp 10, .tmp 11, .tmp 12, .tmp 13]) Try.func14 (by kernel_rfl) (by kernel_rfl) (Nat.le_of_ble_eq_true (by kernel_rfl)) (by kernel_rfl) (by kernel_rfl) (by kernel_rfl) ?_
 rw [← F14_eq]
 exact h

/- function 25: gnomon/step.fits -/
def F25_j1 (w : World) (R : Value → World → Prop) (_E : Pan) : Prop :=
 ∀ _τ : Fr, (R (Value.bool true) w)
def F25_l2 (x3 x26 x27 x28 : Value) (w : World) (next2 : List Value → World → Prop) (j1 : List Value → World → Prop) (R : Value → World → Prop) (E : Pan) : Prop :=
 opK Try.prog E (xBin .lss 3 (.tmp 28) (.tmp 27) x28 x27) w fun t29_35 w_36 =>
 xcond t29_35
 (opK Try.prog E (xV (Instr.indexAt 32 x26 x28)) w_36 fun t31_37 w_38 =>
 opK Try.prog E (xV (Instr.loadAt 27 t31_37)) w_38 fun t32_39 w_40 =>
 opK Try.prog E (xBuiltin .len #[27] 3 [false] [t32_39]) w_40 fun t34_41 w_42 =>
 opK Try.prog E (xV (Instr.fieldAt 26 x3 2)) w_42 fun t35_43 w_44 =>
 opK Try.prog E (xV (Instr.loadAt 23 t35_43)) w_44 fun t36_45 w_46 =>
 opK Try.prog E (xV (Instr.indexAt 23 t36_45 x28)) w_46 fun t38_47 w_48 =>
 opK Try.prog E (xV (Instr.fieldAt 60 t38_47 1)) w_48 fun t39_49 w_50 =>
 opK Try.prog E (xV (Instr.loadAt 3 t39_49)) w_50 fun t40_51 w_52 =>
 opK Try.prog E (xBin .neq 3 (.tmp 34) (.tmp 40) t34_41 t40_51) w_52 fun t41_53 w_54 =>
 xcond t41_53
 (R (Value.bool false) w_54)
 (opK Try.prog E (xBin .add 3 (.tmp 28) (.const (Value.int .i64 1)) x28 (Value.int .i64 1)) w_54 fun t42_55 w_56 =>
 next2 [t42_55] w_56))
 (j1 [] w_36)
def F25 (x0 x1 x2 : Value) (w : World) (R : Value → World → Prop) (E : Pan) : Prop :=
 opK Try.prog E (xV (Instr.box 26 x0)) w fun t3_1 w_2 =>
 opK Try.prog E (xBuiltin .len #[27] 3 [false] [x1]) w_2 fun t10_3 w_4 =>
 opK Try.prog E (xV (Instr.fieldAt 26 t3_1 0)) w_4 fun t11_5 w_6 =>
 opK Try.prog E (xV (Instr.loadAt 22 t11_5)) w_6 fun t12_7 w_8 =>
 opK Try.prog E (xBuiltin .len #[22] 3 [false] [t12_7]) w_8 fun t13_9 w_10 =>
 opK Try.prog E (xV (Instr.fieldAt 26 t3_1 1)) w_10 fun t14_11 w_12 =>
 opK Try.prog E (xV (Instr.loadAt 3 t14_11)) w_12 fun t15_13 w_14 =>
 opK Try.prog E (xBin .add 3 (.tmp 13) (.tmp 15) t13_9 t15_13) w_14 fun t16_15 w_16 =>
 opK Try.prog E (xBin .neq 3 (.tmp 10) (.tmp 16) t10_3 t16_15) w_16 fun t17_17 w_18 =>
 opK Try.prog E (gsem (asB t17_17) false (xBuiltin .len #[32] 3 [false] [(gval (asB t17_17) false x2)])) w_18 fun t20_19 w_20 =>
 opK Try.prog E (gsem (asB t17_17) false (xV (Instr.fieldAt 26 t3_1 2))) w_20 fun t21_21 w_22 =>
 opK Try.prog E (gsem (asB t17_17) false (xV (Instr.loadAt 23 t21_21))) w_22 fun t22_23 w_24 =>
 opK Try.prog E (gsem (asB t17_17) false (xBuiltin .len #[23] 3 [false] [t22_23])) w_24 fun t23_25 w_26 =>
 opK Try.prog E (gsem (asB t17_17) false (xBin .neq 3 (.tmp 20) (.tmp 23) t20_19 t23_25)) w_26 fun t24_27 w_28 =>
 opK Try.prog E (xPick t17_17 (Value.bool true) t24_27) w_28 fun t25_29 w_30 =>
 xcond t25_29
 (R (Value.bool false) w_30)
 (xcut (fun _ w_32 => F25_j1 w_32 R E) fun j1 =>
 opK Try.prog E (xBuiltin .len #[32] 3 [false] [x2]) w_30 fun t27_33 w_34 =>
 xloop [28] [(Value.int .i64 0)] w_34 fun τ_57 w_58 next2 =>
 F25_l2 t3_1 x2 t27_33 (τ_57 28) w_58 next2 j1 R E)
noncomputable def c25 : Code := Try.f25.body.getD .skip
def h25 : Hint := (.seq .none (.seq (.seq .none (.cond (.seq .none .none) .none)) (.cut [] (.seq .none (.block (.loop [28] (.seq .none (.seq (.cond .none .none) (.seq (.block (.seq .none (.seq .none (.cond (.seq .none .none) .none)))) .none)))))) (.seq .none .none))))
theorem F25_eq (x0 x1 x2 : Value) (w : World) (R : Value → World → Prop) (E : Pan) : F25 x0 x1 x2 w R E = callX Try.prog [.tmp 6] c25 h25 [x0, x1, x2] w R E := by kernel_rfl
theorem F25_ok {x0 x1 x2 : Value} {w : World} {R : Value → World → Prop} {E : Pan} (h : F25 x0 x1 x2 w R E) : Cv Try.prog 25 #[x0, x1, x2] w R E := by
 refine callX_sound (args := [x0, x1, x2]) (c := c25) (h := h25) (rs := [.tmp 6]) Try.func25 (by kernel_rfl) (by kernel_rfl) (Nat.le_of_ble_eq_true (by kernel_rfl)) (by kernel_rfl) (by kernel_rfl) (by kernel_rfl) ?_
 rw [← F25_eq]
 exact h

/- function 26: gnomon/gnomonref9.Out -/
def F26_j1 (x5 : Value) (w : World) (R : Value → World → Prop) (_E : Pan) : Prop :=
 ∀ _τ : Fr, (R x5 w)
def F26_j3 (_x1 _x2 x5 x6 : Value) (w : World) (next2 : List Value → World → Prop) (_R : Value → World → Prop) (E : Pan) : Prop :=
 ∀ _τ : Fr, (opK Try.prog E (xBin .add 3 (.tmp 12) (.const (Value.int .i64 1)) x6 (Value.int .i64 1)) w fun t13_13 w_14 =>
 next2 [x5, t13_13] w_14)
def F26_l2 (x1 x2 x5 x6 : Value) (w : World) (next2 : List Value → World → Prop) (j1 : List Value → World → Prop) (R : Value → World → Prop) (E : Pan) : Prop :=
 opK Try.prog E (xV (Instr.fieldAt 26 x2 5)) w fun t8_5 w_6 =>
 opK Try.prog E (xV (Instr.loadAt 24 t8_5)) w_6 fun t9_7 w_8 =>
 opK Try.prog E (xBuiltin .len #[24] 3 [false] [t9_7]) w_8 fun t10_9 w_10 =>
 opK Try.prog E (xBin .lss 3 (.tmp 7) (.tmp 10) x6 t10_9) w_10 fun t11_11 w_12 =>
 xcond t11_11
 (xcut (fun l_15 w_16 => F26_j3 x1 x2 (nth l_15 0) x6 w_16 next2 R E) fun j3 =>
 opK Try.prog E (xV (Instr.fieldAt 26 x2 5)) w_12 fun t14_17 w_18 =>
 opK Try.prog E (xV (Instr.loadAt 24 t14_17)) w_18 fun t15_19 w_20 =>
 opK Try.prog E (xV (Instr.indexAt 24 t15_19 x6)) w_20 fun t17_21 w_22 =>
 opK Try.prog E (xV (Instr.fieldAt 52 t17_21 0)) w_22 fun t18_23 w_24 =>
 opK Try.prog E (xV (Instr.loadAt 3 t18_23)) w_24 fun t19_25 w_26 =>
 opK Try.prog E (xBin .eql 3 (.tmp 19) (.tmp 20) t19_25 x1) w_26 fun t21_27 w_28 =>
 xcond t21_27
 (opK Try.prog E (xV (Instr.buildSlice 68 1 #[(0, x6)])) w_28 fun t24_29 w_30 =>
 opK Try.prog E (xBuiltin .append #[68, 68] 68 [false, false] [x5, t24_29]) w_30 fun t25_31 w_32 =>
 j3 [t25_31] w_32)
 (j3 [x5] w_28))
 (j1 [x5] w_12)
def F26 (x0 x1 : Value) (w : World) (R : Value → World → Prop) (E : Pan) : Prop :=
 opK Try.prog E (xV (Instr.box 26 x0)) w fun t2_1 w_2 =>
 xcut (fun l_3 w_4 => F26_j1 (nth l_3 0) w_4 R E) fun j1 =>
 xloop [5, 6] [(Value.slice none 0 0), (Value.int .i64 0)] w_2 fun τ_33 w_34 next2 =>
 F26_l2 x1 t2_1 (τ_33 5) (τ_33 6) w_34 next2 j1 R E
noncomputable def c26 : Code := Try.f26.body.getD .skip
def h26 : Hint := (.seq .none (.seq .none (.cut [5] (.seq .none (.block (.loop [5, 6] (.seq (.seq .none (.cond .none .none)) (.cut [5] (.block (.seq .none (.cond .none .none))) .none))))) (.seq .none .none))))
theorem F26_eq (x0 x1 : Value) (w : World) (R : Value → World → Prop) (E : Pan) : F26 x0 x1 w R E = callX Try.prog [.tmp 4] c26 h26 [x0, x1] w R E := by kernel_rfl
theorem F26_ok {x0 x1 : Value} {w : World} {R : Value → World → Prop} {E : Pan} (h : F26 x0 x1 w R E) : Cv Try.prog 26 #[x0, x1] w R E := by
 refine callX_sound (args := [x0, x1]) (c := c26) (h := h26) (rs := [.tmp 4]) Try.func26 (by kernel_rfl) (by kernel_rfl) (Nat.le_of_ble_eq_true (by kernel_rfl)) (by kernel_rfl) (by kernel_rfl) (by kernel_rfl) ?_
 rw [← F26_eq]
 exact h

end Go.Proofs.Ytgapepdglhcglaa
