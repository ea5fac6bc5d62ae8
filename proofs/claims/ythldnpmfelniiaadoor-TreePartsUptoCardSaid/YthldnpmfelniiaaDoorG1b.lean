/-
  The second reading of some of the program's functions, printed by gen2.py off the code; each is held against the code by the kernel.
-/
import Derived.Test.YthldnpmfelniiaaDoorGO
namespace Go.Proofs.YthldnpmfelniiaaDoor
open Go.RowKit
set_option maxRecDepth 100000

/- function 154: gnomon/tree.each[gnomon/api.Cond] -/
def F154_j1 (x5 : Value) (w : World) (R : Value → World → Prop) (_E : Pan) : Prop :=
 ∀ _τ : Fr, (R x5 w)
def F154_l2 (x1 x5 x8 x9 x10 : Value) (w : World) (next2 : List Value → World → Prop) (j1 : List Value → World → Prop) (_R : Value → World → Prop) (E : Pan) : Prop :=
 opK Tryd.prog E (xBin .lss 3 (.tmp 10) (.tmp 9) x10 x9) w fun t11_5 w_6 =>
 xcond t11_5
 (opK Tryd.prog E (xV (Instr.indexAt 31 x8 x10)) w_6 fun t12_7 w_8 =>
 opK Tryd.prog E (xV (Instr.loadAt 33 t12_7)) w_8 fun t13_9 w_10 =>
 opK Tryd.prog E (xV (Instr.alloc 33 true (.tuple #[]))) w_10 fun t7_11 w_12 =>
 opK Tryd.prog E (xU (Instr.storeAt 33 t7_11 t13_9)) w_12 fun _z_13 w_14 =>
 opK Tryd.prog E (xV (Instr.loadAt 33 t7_11)) w_14 fun t16_15 w_16 =>
 opK Tryd.prog E (xCall x1 [t16_15]) w_16 fun t17_17 w_18 =>
 opK Tryd.prog E (xV (Instr.buildSlice 97 1 #[(0, t17_17)])) w_18 fun t18_19 w_20 =>
 opK Tryd.prog E (xBuiltin .append #[97, 97] 97 [false, false] [x5, t18_19]) w_20 fun t19_21 w_22 =>
 opK Tryd.prog E (xBin .add 3 (.tmp 10) (.const (Value.int .i64 1)) x10 (Value.int .i64 1)) w_22 fun t20_23 w_24 =>
 next2 [t19_21, t20_23] w_24)
 (j1 [x5] w_6)
def F154 (x0 x1 : Value) (w : World) (R : Value → World → Prop) (E : Pan) : Prop :=
 xcut (fun l_1 w_2 => F154_j1 (nth l_1 0) w_2 R E) fun j1 =>
 opK Tryd.prog E (xBuiltin .len #[31] 3 [false] [x0]) w fun t9_3 w_4 =>
 xloop [5, 10] [(Value.slice none 0 0), (Value.int .i64 0)] w_4 fun τ_25 w_26 next2 =>
 F154_l2 x1 (τ_25 5) x0 t9_3 (τ_25 10) w_26 next2 j1 R E
noncomputable def c154 : Code := Tryd.f154.body.getD .skip
def h154 : Hint := (.seq .none (.seq .none (.cut [5] (.seq .none (.block (.loop [5, 10] (.seq .none (.seq (.cond .none .none) (.seq (.block (.seq .none .none)) .none)))))) (.seq .none .none))))
theorem F154_eq (x0 x1 : Value) (w : World) (R : Value → World → Prop) (E : Pan) : F154 x0 x1 w R E = callX Tryd.prog [.tmp 4] c154 h154 [x0, x1] w R E := by kernel_rfl
theorem F154_ok {x0 x1 : Value} {w : World} {R : Value → World → Prop} {E : Pan} (h : F154 x0 x1 w R E) : Cv Tryd.prog 154 #[x0, x1] w R E := by
 refine callX_sound (args := [x0, x1]) (c := c154) (h := h154) (rs := [.tmp 4]) Tryd.func154 (by kernel_rfl) (by kernel_rfl) (Nat.le_of_ble_eq_true (by kernel_rfl)) (by kernel_rfl) (by kernel_rfl) (by kernel_rfl) ?_
 rw [← F154_eq]
 exact h

/- function 155: gnomon/tree.condOf -/
def F155 (x0 : Value) (w : World) (R : Value → World → Prop) (E : Pan) : Prop :=
 opK Tryd.prog E (xV (Instr.box 33 x0)) w fun t1_1 w_2 =>
 opK Tryd.prog E (xV (Instr.loadAt 33 t1_1)) w_2 fun t3_3 w_4 =>
 opK Tryd.prog E (xV (Instr.build 106 #[(0, t3_3)])) w_4 fun t4_5 w_6 =>
 opK Tryd.prog E (xV (Instr.makeInterface 106 t4_5)) w_6 fun t5_7 w_8 =>
 R t5_7 w_8
noncomputable def c155 : Code := Tryd.f155.body.getD .skip
def h155 : Hint := (.seq .none (.seq .none .none))
theorem F155_eq (x0 : Value) (w : World) (R : Value → World → Prop) (E : Pan) : F155 x0 w R E = callX Tryd.prog [.tmp 2] c155 h155 [x0] w R E := by kernel_rfl
theorem F155_ok {x0 : Value} {w : World} {R : Value → World → Prop} {E : Pan} (h : F155 x0 w R E) : Cv Tryd.prog 155 #[x0] w R E := by
 refine callX_sound (args := [x0]) (c := c155) (h := h155) (rs := [.tmp 2]) Tryd.func155 (by kernel_rfl) (by kernel_rfl) (Nat.le_of_ble_eq_true (by kernel_rfl)) (by kernel_rfl) (by kernel_rfl) (by kernel_rfl) ?_
 rw [← F155_eq]
 exact h

/- function 156: (gnomon/tree.decl).form -/
def F156 (x0 : Value) (w : World) (R : Value → World → Prop) (E : Pan) : Prop :=
 opK Tryd.prog E (xV (Instr.box 175 x0)) w fun t1_1 w_2 =>
 opK Tryd.prog E (xV (Instr.fieldAt 175 t1_1 0)) w_2 fun t3_3 w_4 =>
 opK Tryd.prog E (xV (Instr.fieldAt 67 t3_3 1)) w_4 fun t4_5 w_6 =>
 opK Tryd.prog E (xV (Instr.loadAt 3 t4_5)) w_6 fun t5_7 w_8 =>
 opK Tryd.prog E (xBin .geq 3 (.tmp 5) (.const (Value.int .i64 0)) t5_7 (Value.int .i64 0)) w_8 fun t6_9 w_10 =>
 opK Tryd.prog E (gsem (asB t6_9) true (xV (Instr.fieldAt 175 t1_1 0))) w_10 fun t8_11 w_12 =>
 opK Tryd.prog E (gsem (asB t6_9) true (xV (Instr.fieldAt 67 t8_11 1))) w_12 fun t9_13 w_14 =>
 opK Tryd.prog E (gsem (asB t6_9) true (xV (Instr.loadAt 3 t9_13))) w_14 fun t10_15 w_16 =>
 opK Tryd.prog E (gsem (asB t6_9) true (xBin .leq 3 (.tmp 10) (.const (Value.int .i64 2147483647)) t10_15 (Value.int .i64 2147483647))) w_16 fun t11_17 w_18 =>
 opK Tryd.prog E (xPick t6_9 t11_17 (Value.bool false)) w_18 fun t12_19 w_20 =>
 R t12_19 w_20
noncomputable def c156 : Code := Tryd.f156.body.getD .skip
def h156 : Hint := (.seq .none (.seq .none .none))
theorem F156_eq (x0 : Value) (w : World) (R : Value → World → Prop) (E : Pan) : F156 x0 w R E = callX Tryd.prog [.tmp 2] c156 h156 [x0] w R E := by kernel_rfl
theorem F156_ok {x0 : Value} {w : World} {R : Value → World → Prop} {E : Pan} (h : F156 x0 w R E) : Cv Tryd.prog 156 #[x0] w R E := by
 refine callX_sound (args := [x0]) (c := c156) (h := h156) (rs := [.tmp 2]) Tryd.func156 (by kernel_rfl) (by kernel_rfl) (Nat.le_of_ble_eq_true (by kernel_rfl)) (by kernel_rfl) (by kernel_rfl) (by kernel_rfl) ?_
 rw [← F156_eq]
 exact h

/- function 157: (gnomon/tree.decl).parts -/
def F157 (x0 : Value) (w : World) (R : Value → World → Prop) (E : Pan) : Prop :=
 opK Tryd.prog E (xV (Instr.box 175 x0)) w fun _t1_1 w_2 =>
 R (Value.slice none 0 0) w_2
noncomputable def c157 : Code := Tryd.f157.body.getD .skip
def h157 : Hint := (.seq .none (.seq .none .none))
theorem F157_eq (x0 : Value) (w : World) (R : Value → World → Prop) (E : Pan) : F157 x0 w R E = callX Tryd.prog [.tmp 2] c157 h157 [x0] w R E := by kernel_rfl
theorem F157_ok {x0 : Value} {w : World} {R : Value → World → Prop} {E : Pan} (h : F157 x0 w R E) : Cv Tryd.prog 157 #[x0] w R E := by
 refine callX_sound (args := [x0]) (c := c157) (h := h157) (rs := [.tmp 2]) Tryd.func157 (by kernel_rfl) (by kernel_rfl) (Nat.le_of_ble_eq_true (by kernel_rfl)) (by kernel_rfl) (by kernel_rfl) (by kernel_rfl) ?_
 rw [← F157_eq]
 exact h

/- function 158: (gnomon/tree.stmt).form -/
def F158_j1 (x4 x5 x35 x83 : Value) (w : World) (R : Value → World → Prop) (E : Pan) : Prop :=
 ∀ _τ : Fr, (xcond x83
 (opK Tryd.prog E (gsem (asB x5) true (xV (Instr.loadAt 213 x4))) w fun t88_135 w_136 =>
 opK Tryd.prog E (gsem (asB x5) true (xV (Instr.build 213 #[(0, (Value.int .i64 0)), (1, (Value.int .i64 1))]))) w_136 fun t89_137 w_138 =>
 opK Tryd.prog E (gsem (asB x5) true (xBin .eql 213 (.tmp 88) (.tmp 89) t88_135 t89_137)) w_138 fun t90_139 w_140 =>
 opK Tryd.prog E (xPick x5 t90_139 (Value.bool false)) w_140 fun t91_141 w_142 =>
 R t91_141 w_142)
 (opK Tryd.prog E (xBin .eql 3 (.tmp 35) (.const (Value.int .i64 7)) x35 (Value.int .i64 7)) w fun t93_143 w_144 =>
 xcond t93_143
 (opK Tryd.prog E (gsem (asB x5) true (xV (Instr.loadAt 213 x4))) w_144 fun t96_145 w_146 =>
 opK Tryd.prog E (gsem (asB x5) true (xV (Instr.build 213 #[]))) w_146 fun t97_147 w_148 =>
 opK Tryd.prog E (gsem (asB x5) true (xBin .eql 213 (.tmp 96) (.tmp 97) t96_145 t97_147)) w_148 fun t98_149 w_150 =>
 opK Tryd.prog E (xPick x5 t98_149 (Value.bool false)) w_150 fun t99_151 w_152 =>
 R t99_151 w_152)
 (R (Value.bool false) w_144)))
def F158 (x0 : Value) (w : World) (R : Value → World → Prop) (E : Pan) : Prop :=
 opK Tryd.prog E (xV (Instr.box 177 x0)) w fun t1_1 w_2 =>
 opK Tryd.prog E (xV (Instr.fieldAt 177 t1_1 0)) w_2 fun t6_3 w_4 =>
 opK Tryd.prog E (xV (Instr.fieldAt 88 t6_3 4)) w_4 fun t7_5 w_6 =>
 opK Tryd.prog E (xV (Instr.loadAt 23 t7_5)) w_6 fun t8_7 w_8 =>
 opK Tryd.prog E (xBuiltin .len #[23] 3 [false] [t8_7]) w_8 fun t9_9 w_10 =>
 opK Tryd.prog E (xV (Instr.fieldAt 177 t1_1 0)) w_10 fun t10_11 w_12 =>
 opK Tryd.prog E (xV (Instr.fieldAt 88 t10_11 5)) w_12 fun t11_13 w_14 =>
 opK Tryd.prog E (xV (Instr.loadAt 23 t11_13)) w_14 fun t12_15 w_16 =>
 opK Tryd.prog E (xBuiltin .len #[23] 3 [false] [t12_15]) w_16 fun t13_17 w_18 =>
 opK Tryd.prog E (xBin .add 3 (.tmp 9) (.tmp 13) t9_9 t13_17) w_18 fun t14_19 w_20 =>
 opK Tryd.prog E (xBin .gtr 3 (.tmp 14) (.const (Value.int .i64 0)) t14_19 (Value.int .i64 0)) w_20 fun t15_21 w_22 =>
 opK Tryd.prog E (xV (Instr.fieldAt 177 t1_1 0)) w_22 fun t16_23 w_24 =>
 opK Tryd.prog E (xV (Instr.fieldAt 88 t16_23 2)) w_24 fun t17_25 w_26 =>
 opK Tryd.prog E (xV (Instr.loadAt 28 t17_25)) w_26 fun t18_27 w_28 =>
 opK Tryd.prog E (xBuiltin .len #[28] 3 [false] [t18_27]) w_28 fun t19_29 w_30 =>
 opK Tryd.prog E (xV (Instr.fieldAt 177 t1_1 0)) w_30 fun t20_31 w_32 =>
 opK Tryd.prog E (xV (Instr.fieldAt 88 t20_31 3)) w_32 fun t21_33 w_34 =>
 opK Tryd.prog E (xV (Instr.loadAt 31 t21_33)) w_34 fun t22_35 w_36 =>
 opK Tryd.prog E (xBuiltin .len #[31] 3 [false] [t22_35]) w_36 fun t23_37 w_38 =>
 opK Tryd.prog E (xV (Instr.build 213 #[(0, t19_29), (1, t23_37)])) w_38 fun t24_39 w_40 =>
 opK Tryd.prog E (xV (Instr.alloc 213 true (.tuple #[]))) w_40 fun t4_41 w_42 =>
 opK Tryd.prog E (xU (Instr.storeAt 213 t4_41 t24_39)) w_42 fun _z_43 w_44 =>
 opK Tryd.prog E (xV (Instr.fieldAt 177 t1_1 0)) w_44 fun t25_45 w_46 =>
 opK Tryd.prog E (xV (Instr.fieldAt 88 t25_45 1)) w_46 fun t26_47 w_48 =>
 opK Tryd.prog E (xV (Instr.loadAt 9 t26_47)) w_48 fun t27_49 w_50 =>
 opK Tryd.prog E (xBin .eql 9 (.tmp 27) (.const (Value.string ⟨#[]⟩)) t27_49 (Value.string ⟨#[]⟩)) w_50 fun t28_51 w_52 =>
 opK Tryd.prog E (gsem (asB t28_51) true (xV (Op.unary .not (gval (asB t28_51) true t15_21)))) w_52 fun t31_53 w_54 =>
 opK Tryd.prog E (xPick t28_51 t31_53 (Value.bool false)) w_54 fun t32_55 w_56 =>
 opK Tryd.prog E (xV (Instr.fieldAt 177 t1_1 0)) w_56 fun t33_57 w_58 =>
 opK Tryd.prog E (xV (Instr.fieldAt 88 t33_57 0)) w_58 fun t34_59 w_60 =>
 opK Tryd.prog E (xV (Instr.loadAt 3 t34_59)) w_60 fun t35_61 w_62 =>
 opK Tryd.prog E (xBin .eql 3 (.tmp 35) (.const (Value.int .i64 1)) t35_61 (Value.int .i64 1)) w_62 fun t37_63 w_64 =>
 xcond t37_63
 (opK Tryd.prog E (xV (Op.unary .not t15_21)) w_64 fun t39_65 w_66 =>
 opK Tryd.prog E (gsem (asB t39_65) true (xV (Instr.loadAt 213 t4_41))) w_66 fun t41_67 w_68 =>
 opK Tryd.prog E (gsem (asB t39_65) true (xV (Instr.build 213 #[(0, (Value.int .i64 1)), (1, (Value.int .i64 0))]))) w_68 fun t42_69 w_70 =>
 opK Tryd.prog E (gsem (asB t39_65) true (xBin .eql 213 (.tmp 41) (.tmp 42) t41_67 t42_69)) w_70 fun t43_71 w_72 =>
 opK Tryd.prog E (xPick t39_65 t43_71 (Value.bool false)) w_72 fun t44_73 w_74 =>
 R t44_73 w_74)
 (opK Tryd.prog E (xBin .eql 3 (.tmp 35) (.const (Value.int .i64 2)) t35_61 (Value.int .i64 2)) w_64 fun t46_75 w_76 =>
 xcond t46_75
 (opK Tryd.prog E (xV (Op.unary .not t15_21)) w_76 fun t48_77 w_78 =>
 opK Tryd.prog E (gsem (asB t48_77) true (xV (Instr.loadAt 213 t4_41))) w_78 fun t50_79 w_80 =>
 opK Tryd.prog E (gsem (asB t48_77) true (xV (Instr.build 213 #[(0, (Value.int .i64 2)), (1, (Value.int .i64 0))]))) w_80 fun t51_81 w_82 =>
 opK Tryd.prog E (gsem (asB t48_77) true (xBin .eql 213 (.tmp 50) (.tmp 51) t50_79 t51_81)) w_82 fun t52_83 w_84 =>
 opK Tryd.prog E (xPick t48_77 t52_83 (Value.bool false)) w_84 fun t53_85 w_86 =>
 R t53_85 w_86)
 (opK Tryd.prog E (xBin .eql 3 (.tmp 35) (.const (Value.int .i64 3)) t35_61 (Value.int .i64 3)) w_76 fun t55_87 w_88 =>
 xcond t55_87
 (opK Tryd.prog E (xV (Instr.fieldAt 177 t1_1 0)) w_88 fun t56_89 w_90 =>
 opK Tryd.prog E (xV (Instr.fieldAt 88 t56_89 1)) w_90 fun t57_91 w_92 =>
 opK Tryd.prog E (xV (Instr.loadAt 9 t57_91)) w_92 fun t58_93 w_94 =>
 opK Tryd.prog E (xBin .eql 9 (.tmp 58) (.const (Value.string ⟨#[]⟩)) t58_93 (Value.string ⟨#[]⟩)) w_94 fun t59_95 w_96 =>
 opK Tryd.prog E (gsem (asB t59_95) true (xV (Instr.loadAt 213 t4_41))) w_96 fun t61_97 w_98 =>
 opK Tryd.prog E (gsem (asB t59_95) true (xV (Instr.build 213 #[(0, (Value.int .i64 0)), (1, (Value.int .i64 1))]))) w_98 fun t62_99 w_100 =>
 opK Tryd.prog E (gsem (asB t59_95) true (xBin .eql 213 (.tmp 61) (.tmp 62) t61_97 t62_99)) w_100 fun t63_101 w_102 =>
 opK Tryd.prog E (xPick t59_95 t63_101 (Value.bool false)) w_102 fun t64_103 w_104 =>
 R t64_103 w_104)
 (opK Tryd.prog E (xBin .eql 3 (.tmp 35) (.const (Value.int .i64 4)) t35_61 (Value.int .i64 4)) w_88 fun t66_105 w_106 =>
 xcond t66_105
 (opK Tryd.prog E (xV (Instr.fieldAt 177 t1_1 0)) w_106 fun t67_107 w_108 =>
 opK Tryd.prog E (xV (Instr.fieldAt 88 t67_107 1)) w_108 fun t68_109 w_110 =>
 opK Tryd.prog E (xV (Instr.loadAt 9 t68_109)) w_110 fun t69_111 w_112 =>
 opK Tryd.prog E (xBin .eql 9 (.tmp 69) (.const (Value.string ⟨#[]⟩)) t69_111 (Value.string ⟨#[]⟩)) w_112 fun t70_113 w_114 =>
 opK Tryd.prog E (gsem (asB t70_113) true (xV (Instr.fieldAt 177 t1_1 0))) w_114 fun t72_115 w_116 =>
 opK Tryd.prog E (gsem (asB t70_113) true (xV (Instr.fieldAt 88 t72_115 5))) w_116 fun t73_117 w_118 =>
 opK Tryd.prog E (gsem (asB t70_113) true (xV (Instr.loadAt 23 t73_117))) w_118 fun t74_119 w_120 =>
 opK Tryd.prog E (gsem (asB t70_113) true (xBuiltin .len #[23] 3 [false] [t74_119])) w_120 fun t75_121 w_122 =>
 opK Tryd.prog E (gsem (asB t70_113) true (xBin .eql 3 (.tmp 75) (.const (Value.int .i64 0)) t75_121 (Value.int .i64 0))) w_122 fun t76_123 w_124 =>
 opK Tryd.prog E (xPick t70_113 t76_123 (Value.bool false)) w_124 fun t77_125 w_126 =>
 opK Tryd.prog E (gsem (asB t77_125) true (xV (Instr.loadAt 213 t4_41))) w_126 fun t79_127 w_128 =>
 opK Tryd.prog E (gsem (asB t77_125) true (xV (Instr.build 213 #[(0, (Value.int .i64 0)), (1, (Value.int .i64 1))]))) w_128 fun t80_129 w_130 =>
 opK Tryd.prog E (gsem (asB t77_125) true (xBin .eql 213 (.tmp 79) (.tmp 80) t79_127 t80_129)) w_130 fun t81_131 w_132 =>
 opK Tryd.prog E (xPick t77_125 t81_131 (Value.bool false)) w_132 fun t82_133 w_134 =>
 R t82_133 w_134)
 (xcut (fun l_153 w_154 => F158_j1 t4_41 t32_55 t35_61 (nth l_153 0) w_154 R E) fun j1 =>
 opK Tryd.prog E (xBin .eql 3 (.tmp 35) (.const (Value.int .i64 5)) t35_61 (Value.int .i64 5)) w_106 fun t84_155 w_156 =>
 xcond t84_155
 (j1 [t84_155] w_156)
 (opK Tryd.prog E (xBin .eql 3 (.tmp 35) (.const (Value.int .i64 6)) t35_61 (Value.int .i64 6)) w_156 fun t85_157 w_158 =>
 j1 [t85_157] w_158)))))
noncomputable def c158 : Code := Tryd.f158.body.getD .skip
def h158 : Hint := (.seq .none (.seq .none (.seq .none (.seq .none (.seq (.seq .none (.block (.seq .none (.cond (.seq .none .none) (.seq .none (.cond (.seq .none .none) (.seq .none (.cond (.seq .none .none) (.seq .none (.cond (.seq .none .none) (.cut [83] (.seq .none (.cond .none .none)) (.cond (.seq .none .none) (.seq .none (.cond (.seq .none .none) .none)))))))))))))) (.seq .none .none))))))
theorem F158_eq (x0 : Value) (w : World) (R : Value → World → Prop) (E : Pan) : F158 x0 w R E = callX Tryd.prog [.tmp 2] c158 h158 [x0] w R E := by kernel_rfl
theorem F158_ok {x0 : Value} {w : World} {R : Value → World → Prop} {E : Pan} (h : F158 x0 w R E) : Cv Tryd.prog 158 #[x0] w R E := by
 refine callX_sound (args := [x0]) (c := c158) (h := h158) (rs := [.tmp 2]) Tryd.func158 (by kernel_rfl) (by kernel_rfl) (Nat.le_of_ble_eq_true (by kernel_rfl)) (by kernel_rfl) (by kernel_rfl) (by kernel_rfl) ?_
 rw [← F158_eq]
 exact h

/- function 159: (gnomon/tree.stmt).parts -/
def F159 (x0 : Value) (w : World) (R : Value → World → Prop) (E : Pan) : Prop :=
 opK Tryd.prog E (xV (Instr.box 177 x0)) w fun t1_1 w_2 =>
 dX w_2 fun w_3 =>
 qP Tryd.prog (xV (Instr.fieldAt 177 t1_1 0)) fun t3_4 =>
 qP Tryd.prog (xV (Instr.fieldAt 88 t3_4 3)) fun t4_5 =>
 qP Tryd.prog (xV (Instr.fieldAt 177 t1_1 0)) fun t7_6 =>
 qP Tryd.prog (xV (Instr.fieldAt 88 t7_6 2)) fun t8_7 =>
 qP Tryd.prog (xV (Instr.fieldAt 177 t1_1 0)) fun t11_8 =>
 qP Tryd.prog (xV (Instr.fieldAt 88 t11_8 4)) fun t12_9 =>
 qP Tryd.prog (xV (Instr.fieldAt 177 t1_1 0)) fun t15_10 =>
 qP Tryd.prog (xV (Instr.fieldAt 88 t15_10 5)) fun t16_11 =>
 qL Tryd.prog w_3 (blk t4_5) (xV (Instr.loadAt 31 t4_5)) fun t5_12 =>
 qL Tryd.prog w_3 (blk t8_7) (xV (Instr.loadAt 28 t8_7)) fun t9_13 =>
 qL Tryd.prog w_3 (blk t12_9) (xV (Instr.loadAt 23 t12_9)) fun t13_14 =>
 qL Tryd.prog w_3 (blk t16_11) (xV (Instr.loadAt 23 t16_11)) fun t17_15 =>
 opK Tryd.prog E (xCall (Value.func (.func 154) #[] #[]) [t5_12, (Value.func (.func 155) #[] #[])]) w_3 fun t6_16 w_17 =>
 keepX [(blk t16_11), (blk t12_9), (blk t8_7)] w_3 w_17 (opK Tryd.prog E (xCall (Value.func (.func 150) #[] #[]) [t9_13, (Value.func (.func 151) #[] #[])]) w_17 fun t10_18 w_19 =>
 keepX [(blk t16_11), (blk t12_9)] w_17 w_19 (opK Tryd.prog E (xCall (Value.func (.func 97) #[] #[]) [t13_14, (Value.func (.func 98) #[] #[])]) w_19 fun t14_20 w_21 =>
 keepX [(blk t16_11)] w_19 w_21 (opK Tryd.prog E (xCall (Value.func (.func 97) #[] #[]) [t17_15, (Value.func (.func 98) #[] #[])]) w_21 fun t18_22 w_23 =>
 keepX [] w_21 w_23 (opK Tryd.prog E (xV (Instr.buildSlice 172 4 #[(0, t6_16), (1, t10_18), (2, t14_20), (3, t18_22)])) w_23 fun t19_24 w_25 =>
 keepX [] w_23 w_25 (opK Tryd.prog E (xCall (Value.func (.func 94) #[] #[]) [t19_24]) w_25 fun t20_26 w_27 =>
 keepX [] w_25 w_27 (R t20_26 w_27))))))
noncomputable def c159 : Code := Tryd.f159.body.getD .skip
def h159 : Hint := (.seq .none (.seq (.reg [(0, 8, 2), (1, 16, 8), (2, 32, 16), (4, 64, 32), (0, 128, 2), (16, 256, 128), (32, 512, 256), (72, 1024, 512), (0, 2048, 2), (256, 4096, 2048), (512, 8192, 4096), (1152, 16384, 8192), (0, 32768, 2), (4096, 65536, 32768), (8192, 131072, 65536), (18432, 262144, 131072), (34952, 524288, 279616), (98304, 1048576, 524288), (262143, 4, 1048576)] [17476, 17476, 17472, 17472, 17476, 17476, 17412, 17408, 17476, 17476, 16452, 16384, 17476, 17476, 1092, 0, 0, 0, 17476] (.early 0 (.early 1 (.early 4 (.early 5 (.early 8 (.early 9 (.early 12 (.early 13 (.load 2 (.load 6 (.load 10 (.load 14 (.step 3 (.step 7 (.step 11 (.step 15 (.step 16 (.step 17 (.early 18 .done)))))))))))))))))))) .none))
theorem F159_eq (x0 : Value) (w : World) (R : Value → World → Prop) (E : Pan) : F159 x0 w R E = callX Tryd.prog [.tmp 2] c159 h159 [x0] w R E := by kernel_rfl
theorem F159_ok {x0 : Value} {w : World} {R : Value → World → Prop} {E : Pan} (h : F159 x0 w R E) : Cv Tryd.prog 159 #[x0] w R E := by
 refine callX_sound (args := [x0]) (c := c159) (h := h159) (rs := [.tmp 2]) Tryd.func159 (by kernel_rfl) (by kernel_rfl) (Nat.le_of_ble_eq_true (by kernel_rfl)) (by kernel_rfl) (by kernel_rfl) (by kernel_rfl) ?_
 rw [← F159_eq]
 exact h

end Go.Proofs.YthldnpmfelniiaaDoor
