/-
  The second reading of some of the program's functions, printed by gen2.py off the code; each is held against the code by the kernel.
-/
import Derived.Test.YtgapepdglhcglaaGO
namespace Go.Proofs.Ytgapepdglhcglaa
open Go.RowKit
set_option maxRecDepth 100000

/- function 3: gnomon/gnomonlaw10.StepExact -/
def F3 (x0 x1 x2 : Value) (w : World) (R : Value → World → Prop) (E : Pan) : Prop :=
 opK Try.prog E (xV (Instr.box 26 x0)) w fun t3_1 w_2 =>
 opK Try.prog E (xCall (Value.func (.func 5) #[] #[]) []) w_2 fun t15_3 w_4 =>
 opK Try.prog E (xV (Op.unary .not t15_3)) w_4 fun t16_5 w_6 =>
 xcond t16_5
 (R (Value.bool false) w_6)
 (opK Try.prog E (xCall (Value.func (.func 6) #[] #[]) [x1, x2]) w_6 fun t19_7 w_8 =>
 opK Try.prog E (xV (Op.unary .not t19_7)) w_8 fun t20_9 w_10 =>
 xcond t20_9
 (R (Value.bool true) w_10)
 (opK Try.prog E (xV (Instr.loadAt 26 t3_1)) w_10 fun t21_11 w_12 =>
 opK Try.prog E (xCall (Value.func (.func 7) #[] #[]) [t21_11]) w_12 fun t22_13 w_14 =>
 opK Try.prog E (xBuiltin .append #[27, 27] 27 [true, false] [(Value.slice none 0 0), x1]) w_14 fun t24_15 w_16 =>
 opK Try.prog E (xV (Instr.alloc 26 true (.tuple #[]))) w_16 fun t7_17 w_18 =>
 opK Try.prog E (xU (Instr.storeAt 26 t7_17 t22_13)) w_18 fun _z_19 w_20 =>
 opK Try.prog E (xV (Instr.loadAt 26 t7_17)) w_20 fun t26_21 w_22 =>
 opK Try.prog E (xCall (Value.func (.func 8) #[] #[]) [t26_21, t24_15, x2]) w_22 fun t29_23 w_24 =>
 opK Try.prog E (xV (Instr.extract t29_23 0)) w_24 fun t30_25 w_26 =>
 opK Try.prog E (xV (Instr.extract t29_23 1)) w_26 fun t31_27 w_28 =>
 opK Try.prog E (xV (Instr.extract t29_23 2)) w_28 fun t32_29 w_30 =>
 opK Try.prog E (xV (Instr.alloc 34 true (.tuple #[]))) w_30 fun t9_31 w_32 =>
 opK Try.prog E (xU (Instr.storeAt 34 t9_31 t30_25)) w_32 fun _z_33 w_34 =>
 opK Try.prog E (xV (Instr.loadAt 26 t3_1)) w_34 fun t34_35 w_36 =>
 opK Try.prog E (xCall (Value.func (.func 9) #[] #[]) [t34_35, x1, x2]) w_36 fun t37_37 w_38 =>
 opK Try.prog E (xV (Instr.extract t37_37 0)) w_38 fun t38_39 w_40 =>
 opK Try.prog E (xV (Instr.extract t37_37 1)) w_40 fun t39_41 w_42 =>
 opK Try.prog E (xV (Instr.extract t37_37 2)) w_42 fun t40_43 w_44 =>
 opK Try.prog E (xV (Instr.alloc 34 true (.tuple #[]))) w_44 fun t12_45 w_46 =>
 opK Try.prog E (xU (Instr.storeAt 34 t12_45 t38_39)) w_46 fun _z_47 w_48 =>
 opK Try.prog E (xBin .eql 3 (.tmp 41) (.tmp 42) t32_29 t40_43) w_48 fun t43_49 w_50 =>
 opK Try.prog E (gsem (asB t43_49) true (xBin .eql 3 (.tmp 45) (.tmp 46) (gval (asB t43_49) true t31_27) (gval (asB t43_49) true t39_41))) w_50 fun t47_51 w_52 =>
 opK Try.prog E (xPick t43_49 t47_51 (Value.bool false)) w_52 fun t48_53 w_54 =>
 opK Try.prog E (gsem (asB t48_53) true (xV (Instr.loadAt 34 t9_31))) w_54 fun t50_55 w_56 =>
 opK Try.prog E (gsem (asB t48_53) true (xV (Instr.loadAt 34 t12_45))) w_56 fun t51_57 w_58 =>
 opK Try.prog E (gsem (asB t48_53) true (xCall (Value.func (.func 10) #[] #[]) [t50_55, t51_57])) w_58 fun t52_59 w_60 =>
 opK Try.prog E (xPick t48_53 t52_59 (Value.bool false)) w_60 fun t53_61 w_62 =>
 opK Try.prog E (gsem (asB t53_61) true (xV (Instr.loadAt 26 t7_17))) w_62 fun t55_63 w_64 =>
 opK Try.prog E (gsem (asB t53_61) true (xV (Instr.loadAt 26 t3_1))) w_64 fun t56_65 w_66 =>
 opK Try.prog E (gsem (asB t53_61) true (xCall (Value.func (.func 11) #[] #[]) [t55_63, t56_65])) w_66 fun t57_67 w_68 =>
 opK Try.prog E (xPick t53_61 t57_67 (Value.bool false)) w_68 fun t58_69 w_70 =>
 opK Try.prog E (gsem (asB t58_69) true (xCall (Value.func (.func 12) #[] #[]) [(gval (asB t58_69) true t24_15), (gval (asB t58_69) true x1)])) w_70 fun t62_71 w_72 =>
 opK Try.prog E (xPick t58_69 t62_71 (Value.bool false)) w_72 fun t63_73 w_74 =>
 R t63_73 w_74))
noncomputable def c3 : Code := Try.f3.body.getD .skip
def h3 : Hint := (.seq .none (.seq (.seq .none (.cond (.seq .none .none) .none)) (.seq (.seq .none (.cond (.seq .none .none) .none)) (.seq .none (.seq .none (.seq .none (.seq .none .none)))))))
theorem F3_eq (x0 x1 x2 : Value) (w : World) (R : Value → World → Prop) (E : Pan) : F3 x0 x1 x2 w R E = callX Try.prog [.tmp 6] c3 h3 [x0, x1, x2] w R E := by kernel_rfl
theorem F3_ok {x0 x1 x2 : Value} {w : World} {R : Value → World → Prop} {E : Pan} (h : F3 x0 x1 x2 w R E) : Cv Try.prog 3 #[x0, x1, x2] w R E := by
 refine callX_sound (args := [x0, x1, x2]) (c := c3) (h := h3) (rs := [.tmp 6]) Try.func3 (by kernel_rfl) (by kernel_rfl) (Nat.le_of_ble_eq_true (by kernel_rfl)) (by kernel_rfl) (by kernel_rfl) (by kernel_rfl) ?_
 rw [← F3_eq]
 exact h

/- function 6: gnomon/gnomonlaw10.few -/
def F6 (x0 x1 : Value) (w : World) (R : Value → World → Prop) (E : Pan) : Prop :=
 opK Try.prog E (xBuiltin .len #[27] 3 [false] [x0]) w fun t6_1 w_2 =>
 opK Try.prog E (xBin .leq 3 (.tmp 6) (.const (Value.int .i64 3000)) t6_1 (Value.int .i64 3000)) w_2 fun t7_3 w_4 =>
 opK Try.prog E (gsem (asB t7_3) true (xBin .leq 3 (.tmp 9) (.const (Value.int .i64 3000)) (gval (asB t7_3) true x1) (Value.int .i64 3000))) w_4 fun t10_5 w_6 =>
 opK Try.prog E (gsem (asB (gval (asB t7_3) true t10_5)) false (xBin .gtr 3 (.tmp 12) (.const (Value.int .i64 65536)) (gval (asB (gval (asB t7_3) true t10_5)) false x1) (Value.int .i64 65536))) w_6 fun t13_7 w_8 =>
 opK Try.prog E (gsem (asB t7_3) true (xPick (gval (asB t7_3) true t10_5) (Value.bool true) t13_7)) w_8 fun t14_9 w_10 =>
 opK Try.prog E (xPick t7_3 t14_9 (Value.bool false)) w_10 fun t15_11 w_12 =>
 R t15_11 w_12
noncomputable def c6 : Code := Try.f6.body.getD .skip
def h6 : Hint := (.seq .none (.seq .none .none))
theorem F6_eq (x0 x1 : Value) (w : World) (R : Value → World → Prop) (E : Pan) : F6 x0 x1 w R E = callX Try.prog [.tmp 4] c6 h6 [x0, x1] w R E := by kernel_rfl
theorem F6_ok {x0 x1 : Value} {w : World} {R : Value → World → Prop} {E : Pan} (h : F6 x0 x1 w R E) : Cv Try.prog 6 #[x0, x1] w R E := by
 refine callX_sound (args := [x0, x1]) (c := c6) (h := h6) (rs := [.tmp 4]) Try.func6 (by kernel_rfl) (by kernel_rfl) (Nat.le_of_ble_eq_true (by kernel_rfl)) (by kernel_rfl) (by kernel_rfl) (by kernel_rfl) ?_
 rw [← F6_eq]
 exact h

/- function 7: gnomon/gnomonhelp.CopyCfg -/
def F7 (x0 : Value) (w : World) (R : Value → World → Prop) (E : Pan) : Prop :=
 opK Try.prog E (xV (Instr.box 26 x0)) w fun t1_1 w_2 =>
 opK Try.prog E (xV (Instr.alloc 26 true (.tuple #[]))) w_2 fun t2_3 w_4 =>
 opK Try.prog E (xV (Instr.fieldAt 26 t1_1 0)) w_4 fun t3_5 w_6 =>
 opK Try.prog E (xV (Instr.loadAt 22 t3_5)) w_6 fun t4_7 w_8 =>
 opK Try.prog E (xBuiltin .append #[22, 22] 22 [true, false] [(Value.slice none 0 0), t4_7]) w_8 fun t5_9 w_10 =>
 opK Try.prog E (xV (Instr.fieldAt 26 t1_1 0)) w_10 fun t6_11 w_12 =>
 opK Try.prog E (xU (Instr.storeAt 22 t6_11 t5_9)) w_12 fun _z_13 w_14 =>
 opK Try.prog E (xV (Instr.fieldAt 26 t1_1 2)) w_14 fun t7_15 w_16 =>
 opK Try.prog E (xV (Instr.loadAt 23 t7_15)) w_16 fun t8_17 w_18 =>
 opK Try.prog E (xBuiltin .append #[23, 23] 23 [true, false] [(Value.slice none 0 0), t8_17]) w_18 fun t9_19 w_20 =>
 opK Try.prog E (xV (Instr.fieldAt 26 t1_1 2)) w_20 fun t10_21 w_22 =>
 opK Try.prog E (xU (Instr.storeAt 23 t10_21 t9_19)) w_22 fun _z_23 w_24 =>
 opK Try.prog E (xV (Instr.fieldAt 26 t1_1 5)) w_24 fun t11_25 w_26 =>
 opK Try.prog E (xV (Instr.loadAt 24 t11_25)) w_26 fun t12_27 w_28 =>
 opK Try.prog E (xBuiltin .append #[24, 24] 24 [true, false] [(Value.slice none 0 0), t12_27]) w_28 fun t13_29 w_30 =>
 opK Try.prog E (xV (Instr.fieldAt 26 t1_1 5)) w_30 fun t14_31 w_32 =>
 opK Try.prog E (xU (Instr.storeAt 24 t14_31 t13_29)) w_32 fun _z_33 w_34 =>
 opK Try.prog E (xV (Instr.loadAt 26 t1_1)) w_34 fun t15_35 w_36 =>
 opK Try.prog E (xU (Instr.storeAt 26 t2_3 t15_35)) w_36 fun _z_37 w_38 =>
 xcell Try.prog 26 t2_3 w_38 fun r_39 =>
 R r_39 w_38
noncomputable def c7 : Code := Try.f7.body.getD .skip
def h7 : Hint := (.seq .none (.seq .none (.seq .none (.seq .none (.seq .none .none)))))
theorem F7_eq (x0 : Value) (w : World) (R : Value → World → Prop) (E : Pan) : F7 x0 w R E = callX Try.prog [.cell 2 26] c7 h7 [x0] w R E := by kernel_rfl
theorem F7_ok {x0 : Value} {w : World} {R : Value → World → Prop} {E : Pan} (h : F7 x0 w R E) : Cv Try.prog 7 #[x0] w R E := by
 refine callX_sound (args := [x0]) (c := c7) (h := h7) (rs := [.cell 2 26]) Try.func7 (by kernel_rfl) (by kernel_rfl) (Nat.le_of_ble_eq_true (by kernel_rfl)) (by kernel_rfl) (by kernel_rfl) (by kernel_rfl) ?_
 rw [← F7_eq]
 exact h

/- function 9: gnomon/gnomonref10.Run -/
def F9_j3 (x3 x6 x12 x14 x15 : Value) (w : World) (R : Value → World → Prop) (E : Pan) : Prop :=
 ∀ _τ : Fr, (dX w fun w_55 =>
 qP Try.prog (xNil x12) fun t184_56 =>
 qP Try.prog (xV (Instr.fieldAt 71 t184_56 0)) fun t185_57 =>
 qP Try.prog (xV (Instr.fieldAt 26 x3 0)) fun t187_58 =>
 qP Try.prog (xV (Instr.fieldAt 26 x3 0)) fun t190_59 =>
 qL Try.prog w_55 (blk t185_57) (xV (Instr.loadAt 27 t185_57)) fun t186_60 =>
 qL Try.prog w_55 (blk t187_58) (xV (Instr.loadAt 22 t187_58)) fun t188_61 =>
 qP Try.prog (xBuiltin .len #[22] 3 [false] [t188_61]) fun t189_62 =>
 qL Try.prog w_55 (blk t190_59) (xV (Instr.loadAt 22 t190_59)) fun t191_63 =>
 qP Try.prog (xBuiltin .len #[22] 3 [false] [t191_63]) fun t192_64 =>
 qP Try.prog (xV (Instr.sliceAt 27 t186_60 none (some t189_62) (some t192_64))) fun t193_65 =>
 qP Try.prog (xV (Instr.fieldAt 34 x14 4)) fun t194_66 =>
 opK Try.prog E (xU (Instr.storeAt 27 t194_66 t193_65)) w_55 fun _z_67 w_68 =>
 keepX [] w_55 w_68 (opK Try.prog E (xNil x12) w_68 fun t196_69 w_70 =>
 opK Try.prog E (xV (Instr.fieldAt 71 t196_69 1)) w_70 fun t197_71 w_72 =>
 opK Try.prog E (xV (Instr.loadAt 32 t197_71)) w_72 fun t198_73 w_74 =>
 opK Try.prog E (xV (Instr.fieldAt 34 x14 5)) w_74 fun t199_75 w_76 =>
 opK Try.prog E (xU (Instr.storeAt 32 t199_75 t198_73)) w_76 fun _z_77 w_78 =>
 opK Try.prog E (xV (Instr.loadAt 34 x14)) w_78 fun t200_79 w_80 =>
 opK Try.prog E (xU (Instr.storeAt 34 x6 t200_79)) w_80 fun _z_81 w_82 =>
 xcell Try.prog 34 x6 w_82 fun r_83 =>
 R (Value.tuple #[r_83, x15, (Value.int .i64 0)]) w_82))
def F9_j6 (_x1 _x2 _x3 _x6 _x10 x12 x14 x15 x16 x18 x19 : Value) (w : World) (j3 : List Value → World → Prop) (next4 : List Value → World → Prop) (_R : Value → World → Prop) (E : Pan) : Prop :=
 ∀ _τ : Fr, (opK Try.prog E (xV (Instr.loadAt 52 x18)) w fun t173_152 w_153 =>
 opK Try.prog E (xCall (Value.func (.func 22) #[] #[]) [x12, t173_152, x19]) w_153 fun t175_154 w_155 =>
 opK Try.prog E (xBin .neq 3 (.tmp 176) (.const (Value.int .i64 0)) t175_154 (Value.int .i64 0)) w_155 fun t177_156 w_157 =>
 xcond t177_156
 (opK Try.prog E (xV (Instr.fieldAt 34 x14 0)) w_157 fun t178_158 w_159 =>
 opK Try.prog E (xU (Instr.storeAt 3 t178_158 (Value.int .i64 3))) w_159 fun _z_160 w_161 =>
 opK Try.prog E (xV (Instr.fieldAt 34 x14 1)) w_161 fun t180_162 w_163 =>
 opK Try.prog E (xU (Instr.storeAt 3 t180_162 t175_154)) w_163 fun _z_164 w_165 =>
 j3 [x15] w_165)
 (opK Try.prog E (xV (Instr.fieldAt 52 x18 1)) w_157 fun t181_166 w_167 =>
 opK Try.prog E (xV (Instr.loadAt 3 t181_166)) w_167 fun t182_168 w_169 =>
 next4 [t182_168, x16] w_169))
def F9_j5 (x1 x2 x3 x6 x10 x12 x14 x15 x16 x18 x19 : Value) (w : World) (j3 : List Value → World → Prop) (next4 : List Value → World → Prop) (R : Value → World → Prop) (E : Pan) : Prop :=
 ∀ _τ : Fr, (xcut (fun _ w_171 => F9_j6 x1 x2 x3 x6 x10 x12 x14 x15 x16 x18 x19 w_171 j3 next4 R E) fun j6 =>
 opK Try.prog E (xV (Instr.fieldAt 52 x18 2)) w fun t155_172 w_173 =>
 opK Try.prog E (xV (Instr.loadAt 3 t155_172)) w_173 fun t156_174 w_175 =>
 opK Try.prog E (xBin .eql 3 (.tmp 156) (.const (Value.int .i64 13)) t156_174 (Value.int .i64 13)) w_175 fun t157_176 w_177 =>
 opK Try.prog E (gsem (asB t157_176) false (xV (Instr.fieldAt 52 x18 2))) w_177 fun t159_178 w_179 =>
 opK Try.prog E (gsem (asB t157_176) false (xV (Instr.loadAt 3 t159_178))) w_179 fun t160_180 w_181 =>
 opK Try.prog E (gsem (asB t157_176) false (xBin .eql 3 (.tmp 160) (.const (Value.int .i64 14)) t160_180 (Value.int .i64 14))) w_181 fun t161_182 w_183 =>
 opK Try.prog E (xPick t157_176 (Value.bool true) t161_182) w_183 fun t162_184 w_185 =>
 xcond t162_184
 (opK Try.prog E (xV (Instr.fieldAt 34 x14 3)) w_185 fun t163_186 w_187 =>
 opK Try.prog E (xV (Instr.loadAt 31 t163_186)) w_187 fun t164_188 w_189 =>
 opK Try.prog E (xV (Instr.fieldAt 52 x18 2)) w_189 fun t165_190 w_191 =>
 opK Try.prog E (xV (Instr.loadAt 3 t165_190)) w_191 fun t166_192 w_193 =>
 opK Try.prog E (xBin .eql 3 (.tmp 166) (.const (Value.int .i64 13)) t166_192 (Value.int .i64 13)) w_193 fun t167_194 w_195 =>
 opK Try.prog E (xV (Instr.build 74 #[(2, t167_194)])) w_195 fun t168_196 w_197 =>
 opK Try.prog E (xV (Instr.buildSlice 31 1 #[(0, t168_196)])) w_197 fun t169_198 w_199 =>
 opK Try.prog E (xBuiltin .append #[31, 31] 31 [false, false] [t164_188, t169_198]) w_199 fun t170_200 w_201 =>
 opK Try.prog E (xV (Instr.fieldAt 34 x14 3)) w_201 fun t171_202 w_203 =>
 opK Try.prog E (xU (Instr.storeAt 31 t171_202 t170_200)) w_203 fun _z_204 w_205 =>
 j6 [] w_205)
 (j6 [] w_185))
def F9_l4 (x1 x2 x3 x6 x10 x12 x14 x15 x16 : Value) (w : World) (j3 : List Value → World → Prop) (next4 : List Value → World → Prop) (R : Value → World → Prop) (E : Pan) : Prop :=
 opK Try.prog E (xV (Instr.fieldAt 34 x14 0)) w fun t98_86 w_87 =>
 opK Try.prog E (xV (Instr.loadAt 3 t98_86)) w_87 fun t99_88 w_89 =>
 opK Try.prog E (xBin .eql 3 (.tmp 99) (.const (Value.int .i64 1)) t99_88 (Value.int .i64 1)) w_89 fun t100_90 w_91 =>
 xcond t100_90
 (dX w_91 fun w_92 =>
 qP Try.prog (xV (Instr.indexAt 55 x10 x15)) fun t105_93 =>
 qL Try.prog w_92 (blk x3) (xV (Instr.loadAt 26 x3)) fun t101_94 =>
 qL Try.prog w_92 (blk t105_93) (xV (Instr.loadAt 68 t105_93)) fun t106_95 =>
 opK Try.prog E (xCall (Value.func (.func 21) #[] #[]) [t101_94, x12, t106_95]) w_92 fun t107_96 w_97 =>
 keepX [] w_92 w_97 (opK Try.prog E (xBin .lss 3 (.tmp 108) (.const (Value.int .i64 0)) t107_96 (Value.int .i64 0)) w_97 fun t109_98 w_99 =>
 opK Try.prog E (gsem (asB t109_98) false (xV (Instr.fieldAt 26 x3 5))) w_99 fun t111_100 w_101 =>
 opK Try.prog E (gsem (asB t109_98) false (xV (Instr.loadAt 24 t111_100))) w_101 fun t112_102 w_103 =>
 opK Try.prog E (gsem (asB t109_98) false (xV (Instr.indexAt 24 t112_102 (gval (asB t109_98) false t107_96)))) w_103 fun t114_104 w_105 =>
 opK Try.prog E (gsem (asB t109_98) false (xV (Instr.fieldAt 52 t114_104 2))) w_105 fun t115_106 w_107 =>
 opK Try.prog E (gsem (asB t109_98) false (xV (Instr.loadAt 3 t115_106))) w_107 fun t116_108 w_109 =>
 opK Try.prog E (gsem (asB t109_98) false (xBin .eql 3 (.tmp 116) (.const (Value.int .i64 9)) t116_108 (Value.int .i64 9))) w_109 fun t117_110 w_111 =>
 opK Try.prog E (gsem (asB (gval (asB t109_98) false t117_110)) true (xBuiltin .len #[27] 3 [false] [(gval (asB (gval (asB t109_98) false t117_110)) true x1)])) w_111 fun t121_112 w_113 =>
 opK Try.prog E (gsem (asB (gval (asB t109_98) false t117_110)) true (xBin .eql 3 (.tmp 119) (.tmp 121) (gval (asB (gval (asB t109_98) false t117_110)) true x16) t121_112)) w_113 fun t122_114 w_115 =>
 opK Try.prog E (gsem (asB t109_98) false (xPick (gval (asB t109_98) false t117_110) t122_114 (Value.bool false))) w_115 fun t123_116 w_117 =>
 opK Try.prog E (xPick t109_98 (Value.bool true) t123_116) w_117 fun t124_118 w_119 =>
 xcond t124_118
 (opK Try.prog E (xV (Instr.fieldAt 34 x14 0)) w_119 fun t125_120 w_121 =>
 opK Try.prog E (xU (Instr.storeAt 3 t125_120 (Value.int .i64 2))) w_121 fun _z_122 w_123 =>
 j3 [x15] w_123)
 (opK Try.prog E (xV (Instr.fieldAt 34 x14 2)) w_119 fun t126_124 w_125 =>
 opK Try.prog E (xV (Instr.loadAt 3 t126_124)) w_125 fun t127_126 w_127 =>
 opK Try.prog E (xBin .eql 3 (.tmp 127) (.tmp 128) t127_126 x2) w_127 fun t129_128 w_129 =>
 xcond t129_128
 (j3 [x15] w_129)
 (opK Try.prog E (xV (Instr.fieldAt 26 x3 5)) w_129 fun t130_130 w_131 =>
 opK Try.prog E (xV (Instr.loadAt 24 t130_130)) w_131 fun t131_132 w_133 =>
 opK Try.prog E (xV (Instr.indexAt 24 t131_132 t107_96)) w_133 fun t133_134 w_135 =>
 opK Try.prog E (xV (Instr.loadAt 52 t133_134)) w_135 fun t134_136 w_137 =>
 opK Try.prog E (xV (Instr.alloc 52 true (.tuple #[]))) w_137 fun t18_138 w_139 =>
 opK Try.prog E (xU (Instr.storeAt 52 t18_138 t134_136)) w_139 fun _z_140 w_141 =>
 opK Try.prog E (xV (Instr.fieldAt 34 x14 2)) w_141 fun t135_142 w_143 =>
 opK Try.prog E (xV (Instr.loadAt 3 t135_142)) w_143 fun t136_144 w_145 =>
 opK Try.prog E (xBin .add 3 (.tmp 136) (.const (Value.int .i64 1)) t136_144 (Value.int .i64 1)) w_145 fun t137_146 w_147 =>
 opK Try.prog E (xV (Instr.fieldAt 34 x14 2)) w_147 fun t138_148 w_149 =>
 opK Try.prog E (xU (Instr.storeAt 3 t138_148 t137_146)) w_149 fun _z_150 w_151 =>
 xcut (fun l_206 w_207 => F9_j5 x1 x2 x3 x6 x10 x12 x14 x15 (nth l_206 0) t18_138 (nth l_206.tail 0) w_207 j3 next4 R E) fun j5 =>
 opK Try.prog E (xV (Instr.fieldAt 52 t18_138 2)) w_151 fun t139_208 w_209 =>
 opK Try.prog E (xV (Instr.loadAt 3 t139_208)) w_209 fun t140_210 w_211 =>
 opK Try.prog E (xBin .eql 3 (.tmp 140) (.const (Value.int .i64 9)) t140_210 (Value.int .i64 9)) w_211 fun t141_212 w_213 =>
 xcond t141_212
 (opK Try.prog E (xV (Instr.indexAt 27 x1 x16)) w_213 fun t144_214 w_215 =>
 opK Try.prog E (xV (Instr.loadAt 2 t144_214)) w_215 fun t145_216 w_217 =>
 opK Try.prog E (xBin .add 3 (.tmp 146) (.const (Value.int .i64 1)) x16 (Value.int .i64 1)) w_217 fun t147_218 w_219 =>
 opK Try.prog E (xV (Instr.fieldAt 34 x14 3)) w_219 fun t148_220 w_221 =>
 opK Try.prog E (xV (Instr.loadAt 31 t148_220)) w_221 fun t149_222 w_223 =>
 opK Try.prog E (xV (Instr.build 74 #[(0, (Value.bool true)), (1, t145_216)])) w_223 fun t151_224 w_225 =>
 opK Try.prog E (xV (Instr.buildSlice 31 1 #[(0, t151_224)])) w_225 fun t152_226 w_227 =>
 opK Try.prog E (xBuiltin .append #[31, 31] 31 [false, false] [t149_222, t152_226]) w_227 fun t153_228 w_229 =>
 opK Try.prog E (xV (Instr.fieldAt 34 x14 3)) w_229 fun t154_230 w_231 =>
 opK Try.prog E (xU (Instr.storeAt 31 t154_230 t153_228)) w_231 fun _z_232 w_233 =>
 j5 [t147_218, t145_216] w_233)
 (j5 [x16, (Value.int .i64 0)] w_213)))))
 (j3 [x15] w_91)
def F9_j2 (x1 x2 x3 x6 x10 x12 : Value) (w : World) (R : Value → World → Prop) (E : Pan) : Prop :=
 ∀ _τ : Fr, (opK Try.prog E (xV (Instr.build 34 #[(0, (Value.int .i64 1))])) w fun t97_49 w_50 =>
 opK Try.prog E (xV (Instr.alloc 34 true (.tuple #[]))) w_50 fun t14_51 w_52 =>
 opK Try.prog E (xU (Instr.storeAt 34 t14_51 t97_49)) w_52 fun _z_53 w_54 =>
 xcut (fun l_84 w_85 => F9_j3 x3 x6 x12 t14_51 (nth l_84 0) w_85 R E) fun j3 =>
 xloop [15, 16] [(Value.int .i64 0), (Value.int .i64 0)] w_54 fun τ_234 w_235 next4 =>
 F9_l4 x1 x2 x3 x6 x10 x12 t14_51 (τ_234 15) (τ_234 16) w_235 j3 next4 R E)
def F9_l7 (_x1 _x2 x3 _x6 _x10 x12 x13 : Value) (w : World) (next7 : List Value → World → Prop) (j2 : List Value → World → Prop) (_R : Value → World → Prop) (E : Pan) : Prop :=
 opK Try.prog E (xV (Instr.fieldAt 26 x3 2)) w fun t75_238 w_239 =>
 opK Try.prog E (xV (Instr.loadAt 23 t75_238)) w_239 fun t76_240 w_241 =>
 opK Try.prog E (xBuiltin .len #[23] 3 [false] [t76_240]) w_241 fun t77_242 w_243 =>
 opK Try.prog E (xBin .lss 3 (.tmp 74) (.tmp 77) x13 t77_242) w_243 fun t78_244 w_245 =>
 xcond t78_244
 (dX w_245 fun w_246 =>
 qP Try.prog (xNil x12) fun t83_247 =>
 qP Try.prog (xV (Instr.fieldAt 71 t83_247 1)) fun t84_248 =>
 qP Try.prog (xV (Instr.fieldAt 26 x3 2)) fun t86_249 =>
 qL Try.prog w_246 (blk t84_248) (xV (Instr.loadAt 32 t84_248)) fun t85_250 =>
 qL Try.prog w_246 (blk t86_249) (xV (Instr.loadAt 23 t86_249)) fun t87_251 =>
 qP Try.prog (xV (Instr.indexAt 23 t87_251 x13)) fun t89_252 =>
 qP Try.prog (xV (Instr.fieldAt 60 t89_252 1)) fun t90_253 =>
 qL Try.prog w_246 (blk t90_253) (xV (Instr.loadAt 3 t90_253)) fun t91_254 =>
 opK Try.prog E (xV (Instr.makeSlice 27 t91_254 t91_254)) w_246 fun t92_255 w_256 =>
 keepX [(blk t84_248)] w_246 w_256 (opK Try.prog E (xV (Instr.buildSlice 32 1 #[(0, t92_255)])) w_256 fun t93_257 w_258 =>
 keepX [(blk t84_248)] w_256 w_258 (opK Try.prog E (xBuiltin .append #[32, 32] 32 [false, false] [t85_250, t93_257]) w_258 fun t94_259 w_260 =>
 keepX [] w_258 w_260 (qP Try.prog (xNil x12) fun t95_261 =>
 qP Try.prog (xV (Instr.fieldAt 71 t95_261 1)) fun t96_262 =>
 opK Try.prog E (xU (Instr.storeAt 32 t96_262 t94_259)) w_260 fun _z_263 w_264 =>
 keepX [] w_260 w_264 (opK Try.prog E (xBin .add 3 (.tmp 79) (.const (Value.int .i64 1)) x13 (Value.int .i64 1)) w_264 fun t80_265 w_266 =>
 next7 [t80_265] w_266)))))
 (j2 [] w_245)
def F9_j1 (x1 x2 x3 x6 x10 : Value) (w : World) (R : Value → World → Prop) (E : Pan) : Prop :=
 ∀ _τ : Fr, (opK Try.prog E (xV (Instr.loadAt 26 x3)) w fun t69_39 w_40 =>
 opK Try.prog E (xCall (Value.func (.func 20) #[] #[]) [t69_39]) w_40 fun t70_41 w_42 =>
 opK Try.prog E (xV (Instr.makeSlice 27 t70_41 t70_41)) w_42 fun t71_43 w_44 =>
 opK Try.prog E (xV (Instr.build 71 #[(0, t71_43)])) w_44 fun t72_45 w_46 =>
 opK Try.prog E (xV (Instr.box 71 t72_45)) w_46 fun t73_47 w_48 =>
 xcut (fun _ w_237 => F9_j2 x1 x2 x3 x6 x10 t73_47 w_237 R E) fun j2 =>
 xloop [13] [(Value.int .i64 0)] w_48 fun τ_267 w_268 next7 =>
 F9_l7 x1 x2 x3 x6 x10 t73_47 (τ_267 13) w_268 next7 j2 R E)
def F9_l8 (_x1 _x2 x3 _x6 x10 x11 : Value) (w : World) (next8 : List Value → World → Prop) (j1 : List Value → World → Prop) (_R : Value → World → Prop) (E : Pan) : Prop :=
 opK Try.prog E (xV (Instr.fieldAt 26 x3 5)) w fun t43_271 w_272 =>
 opK Try.prog E (xV (Instr.loadAt 24 t43_271)) w_272 fun t44_273 w_274 =>
 opK Try.prog E (xBuiltin .len #[24] 3 [false] [t44_273]) w_274 fun t45_275 w_276 =>
 opK Try.prog E (xBin .lss 3 (.tmp 42) (.tmp 45) x11 t45_275) w_276 fun t46_277 w_278 =>
 xcond t46_277
 (dX w_278 fun w_279 =>
 qP Try.prog (xV (Instr.fieldAt 26 x3 5)) fun t50_280 =>
 qP Try.prog (xV (Instr.fieldAt 26 x3 5)) fun t57_281 =>
 qL Try.prog w_279 (blk t50_280) (xV (Instr.loadAt 24 t50_280)) fun t51_282 =>
 qP Try.prog (xV (Instr.indexAt 24 t51_282 x11)) fun t53_283 =>
 qP Try.prog (xV (Instr.fieldAt 52 t53_283 0)) fun t54_284 =>
 qL Try.prog w_279 (blk t54_284) (xV (Instr.loadAt 3 t54_284)) fun t55_285 =>
 qL Try.prog w_279 (blk t57_281) (xV (Instr.loadAt 24 t57_281)) fun t58_286 =>
 qP Try.prog (xV (Instr.indexAt 24 t58_286 x11)) fun t60_287 =>
 qP Try.prog (xV (Instr.fieldAt 52 t60_287 0)) fun t61_288 =>
 qL Try.prog w_279 (blk t61_288) (xV (Instr.loadAt 3 t61_288)) fun t62_289 =>
 qP Try.prog (xV (Instr.indexAt 55 x10 t62_289)) fun t63_290 =>
 qL Try.prog w_279 (blk t63_290) (xV (Instr.loadAt 68 t63_290)) fun t64_291 =>
 opK Try.prog E (xV (Instr.buildSlice 68 1 #[(0, x11)])) w_279 fun t66_292 w_293 =>
 keepX [(blk t63_290), (blk t61_288), (blk t57_281), (blk t54_284), (blk t50_280)] w_279 w_293 (opK Try.prog E (xBuiltin .append #[68, 68] 68 [false, false] [t64_291, t66_292]) w_293 fun t67_294 w_295 =>
 keepX [(blk t54_284), (blk t50_280)] w_293 w_295 (qP Try.prog (xV (Instr.indexAt 55 x10 t55_285)) fun t68_296 =>
 opK Try.prog E (xU (Instr.storeAt 68 t68_296 t67_294)) w_295 fun _z_297 w_298 =>
 keepX [] w_295 w_298 (opK Try.prog E (xBin .add 3 (.tmp 47) (.const (Value.int .i64 1)) x11 (Value.int .i64 1)) w_298 fun t48_299 w_300 =>
 next8 [t48_299] w_300))))
 (j1 [] w_278)
def F9 (x0 x1 x2 : Value) (w : World) (R : Value → World → Prop) (E : Pan) : Prop :=
 opK Try.prog E (xV (Instr.box 26 x0)) w fun t3_1 w_2 =>
 opK Try.prog E (xV (Instr.alloc 34 true (.tuple #[]))) w_2 fun t6_3 w_4 =>
 opK Try.prog E (xV (Instr.loadAt 26 t3_1)) w_4 fun t21_5 w_6 =>
 opK Try.prog E (xCall (Value.func (.func 19) #[] #[]) [t21_5]) w_6 fun t22_7 w_8 =>
 opK Try.prog E (xBin .neq 3 (.tmp 23) (.const (Value.int .i64 0)) t22_7 (Value.int .i64 0)) w_8 fun t24_9 w_10 =>
 xcond t24_9
 (opK Try.prog E (xV (Instr.build 34 #[])) w_10 fun t25_11 w_12 =>
 opK Try.prog E (xU (Instr.storeAt 34 t6_3 t25_11)) w_12 fun _z_13 w_14 =>
 xcell Try.prog 34 t6_3 w_14 fun r_15 =>
 R (Value.tuple #[r_15, (Value.int .i64 0), t22_7]) w_14)
 (opK Try.prog E (xBin .lss 3 (.tmp 27) (.const (Value.int .i64 0)) x2 (Value.int .i64 0)) w_10 fun t28_16 w_17 =>
 opK Try.prog E (gsem (asB t28_16) false (xBin .gtr 3 (.tmp 30) (.const (Value.int .i64 65536)) (gval (asB t28_16) false x2) (Value.int .i64 65536))) w_17 fun t31_18 w_19 =>
 opK Try.prog E (xPick t28_16 (Value.bool true) t31_18) w_19 fun t32_20 w_21 =>
 opK Try.prog E (gsem (asB t32_20) false (xBuiltin .len #[27] 3 [false] [(gval (asB t32_20) false x1)])) w_21 fun t35_22 w_23 =>
 opK Try.prog E (gsem (asB t32_20) false (xBin .gtr 3 (.tmp 35) (.const (Value.int .i64 65536)) t35_22 (Value.int .i64 65536))) w_23 fun t36_24 w_25 =>
 opK Try.prog E (xPick t32_20 (Value.bool true) t36_24) w_25 fun t37_26 w_27 =>
 xcond t37_26
 (opK Try.prog E (xV (Instr.build 34 #[])) w_27 fun t38_28 w_29 =>
 opK Try.prog E (xU (Instr.storeAt 34 t6_3 t38_28)) w_29 fun _z_30 w_31 =>
 xcell Try.prog 34 t6_3 w_31 fun r_32 =>
 R (Value.tuple #[r_32, (Value.int .i64 0), (Value.int .i64 80)]) w_31)
 (opK Try.prog E (xV (Instr.fieldAt 26 t3_1 3)) w_27 fun t39_33 w_34 =>
 opK Try.prog E (xV (Instr.loadAt 3 t39_33)) w_34 fun t40_35 w_36 =>
 opK Try.prog E (xV (Instr.makeSlice 55 t40_35 t40_35)) w_36 fun t41_37 w_38 =>
 xcut (fun _ w_270 => F9_j1 x1 x2 t3_1 t6_3 t41_37 w_270 R E) fun j1 =>
 xloop [11] [(Value.int .i64 0)] w_38 fun τ_301 w_302 next8 =>
 F9_l8 x1 x2 t3_1 t6_3 t41_37 (τ_301 11) w_302 next8 j1 R E))
noncomputable def c9 : Code := Try.f9.body.getD .skip
def h9 : Hint := (.seq .none (.seq .none (.seq (.seq .none (.cond (.seq .none .none) .none)) (.seq (.seq .none (.cond (.seq .none .none) .none)) (.seq .none (.cut [] (.seq .none (.block (.loop [11] (.seq (.seq .none (.cond .none .none)) (.seq (.block (.reg [(0, 562949953421312, 1024), (0, 1125899906842624, 8), (2, 2251799813685248, 1125899906842624), (0, 4503599627370496, 2048), (12, 9007199254740992, 6755399441055744), (16, 18014398509481984, 9007199254740992), (32, 36028797018963968, 18014398509481984), (0, 72057594037927936, 1024), (0, 144115188075855872, 8), (256, 288230376151711744, 144115188075855872), (0, 576460752303423488, 2048), (1536, 1152921504606846976, 864691128455135232), (2048, 2305843009213693952, 1152921504606846976), (4096, 4611686018427387904, 2305843009213693952), (8320, 9223372036854775808, 4683743612465315840), (16384, 18446744073709551616, 9223372036854775808), (0, 36893488147419103232, 2048), (65536, 73786976294838206464, 36893488147419103232), (163840, 147573952589676412928, 92233720368547758080), (524287, 295147905179352825856, 36591746972385280), (1048575, 0, 442721857769029238784)] [41540, 41540, 41536, 41540, 41540, 41540, 41476, 41540, 41540, 41028, 41540, 41540, 41540, 33348, 41540, 8772, 41540, 41540, 68, 41540, 0] (.early 0 (.early 1 (.early 3 (.early 7 (.early 8 (.early 10 (.early 16 (.load 2 (.early 4 (.early 5 (.load 6 (.load 9 (.early 11 (.early 12 (.load 13 (.early 14 (.load 15 (.step 17 (.step 18 (.early 19 (.step 20 .done))))))))))))))))))))))) .none))))) (.seq .none (.cut [] (.seq .none (.block (.loop [13] (.seq (.seq .none (.cond .none .none)) (.seq (.block (.reg [(0, 2417851639229258349412352, 4096), (0, 4835703278458516698824704, 4096), (2, 9671406556917033397649408, 4835703278458516698824704), (4, 19342813113834066795298816, 9671406556917033397649408), (8, 38685626227668133590597632, 19342813113834066795298816), (0, 77371252455336267181195264, 8), (32, 154742504910672534362390528, 77371252455336267181195264), (0, 309485009821345068724781056, 8192), (192, 618970019642690137449562112, 464227514732017603087171584), (256, 1237940039285380274899124224, 618970019642690137449562112), (512, 2475880078570760549798248448, 1237940039285380274899124224), (1024, 4951760157141521099596496896, 2475880078570760549798248448), (2048, 9903520314283042199192993792, 4951760157141521099596496896), (4112, 19807040628566084398385987584, 9942205940510710332783591424), (16383, 39614081257132168796771975168, 2417851639229258349412352), (32767, 79228162514264337593543950336, 39614081257132168796771975168), (49151, 0, 99035203142830421991929937920)] [1104, 1104, 1104, 1104, 1088, 1104, 1040, 1104, 1104, 1104, 80, 16, 16, 0, 1104, 1104, 0] (.early 0 (.early 1 (.early 2 (.early 3 (.early 5 (.early 7 (.load 4 (.load 6 (.early 8 (.early 9 (.load 10 (.step 11 (.step 12 (.step 13 (.early 14 (.early 15 (.step 16 .done))))))))))))))))))) .none))))) (.seq .none (.seq .none (.cut [15] (.block (.loop [15, 16] (.seq (.seq .none (.cond .none .none)) (.block (.seq (.reg [(0, 2535301200456458802993406410752, 8), (0, 5070602400912917605986812821504, 4096), (0, 10141204801825835211973625643008, 1024), (0, 20282409603651670423947251286016, 32768), (12, 40564819207303340847894502572032, 30423614405477505635920876929024), (16, 81129638414606681695789005144064, 40564819207303340847894502572032), (35, 162259276829213363391578010288128, 88735542015976058104769224376320), (127, 131072, 162259276829213363391578010288128)] [32, 33, 33, 33, 33, 1, 0, 33] (.early 1 (.early 2 (.early 3 (.early 4 (.load 0 (.load 5 (.step 6 (.early 7 .done))))))))) (.seq (.seq .none (.cond (.seq .none .none) .none)) (.seq (.seq .none (.cond .none .none)) (.seq .none (.seq .none (.seq .none (.cut [16, 19] (.seq .none (.cond (.seq .none (.seq .none .none)) .none)) (.cut [] (.seq .none (.cond .none .none)) (.seq .none (.seq (.seq .none (.cond (.seq .none (.seq .none .none)) .none)) .none)))))))))))))) (.seq (.reg [(0, 12259964326927110866866776217202473468949912977468817408, 4096), (1, 24519928653854221733733552434404946937899825954937634816, 12259964326927110866866776217202473468949912977468817408), (2, 49039857307708443467467104868809893875799651909875269632, 24519928653854221733733552434404946937899825954937634816), (4, 98079714615416886934934209737619787751599303819750539264, 49039857307708443467467104868809893875799651909875269632), (0, 196159429230833773869868419475239575503198607639501078528, 8), (16, 392318858461667547739736838950479151006397215279002157056, 196159429230833773869868419475239575503198607639501078528), (32, 784637716923335095479473677900958302012794430558004314112, 392318858461667547739736838950479151006397215279002157056), (0, 1569275433846670190958947355801916604025588861116008628224, 8), (128, 3138550867693340381917894711603833208051177722232017256448, 1569275433846670190958947355801916604025588861116008628224), (256, 6277101735386680763835789423207666416102355444464034512896, 3138550867693340381917894711603833208051177722232017256448), (584, 12554203470773361527671578846415332832204710888928069025792, 7159819166925432746250197310846244505866749178841789366272), (2047, 25108406941546723055343157692830665664409421777856138051584, 16384), (4095, 0, 37662610412320084583014736539245998496614132666784207077376)] [296, 296, 296, 288, 296, 264, 296, 296, 40, 296, 296, 296, 0] (.early 0 (.early 1 (.early 2 (.early 4 (.early 7 (.load 3 (.load 5 (.early 6 (.load 8 (.early 9 (.early 10 (.early 11 (.step 12 .done)))))))))))))) (.seq .none (.seq .none .none))))))))))))))
theorem F9_eq (x0 x1 x2 : Value) (w : World) (R : Value → World → Prop) (E : Pan) : F9 x0 x1 x2 w R E = callX Try.prog [.cell 6 34, .tmp 7, .tmp 8] c9 h9 [x0, x1, x2] w R E := by kernel_rfl
theorem F9_ok {x0 x1 x2 : Value} {w : World} {R : Value → World → Prop} {E : Pan} (h : F9 x0 x1 x2 w R E) : Cv Try.prog 9 #[x0, x1, x2] w R E := by
 refine callX_sound (args := [x0, x1, x2]) (c := c9) (h := h9) (rs := [.cell 6 34, .tmp 7, .tmp 8]) Try.func9 (by kernel_rfl) (by kernel_rfl) (Nat.le_of_ble_eq_true (by kernel_rfl)) (by kernel_rfl) (by kernel_rfl) (by kernel_rfl) ?_
 rw [← F9_eq]
 exact h

/- function 10: gnomon/gnomonhelp.Outcome -/
def F10_j2 (w : World) (R : Value → World → Prop) (_E : Pan) : Prop :=
 ∀ _τ : Fr, (R (Value.bool true) w)
def F10_l3 (x2 x3 x6 : Value) (w : World) (next3 : List Value → World → Prop) (j2 : List Value → World → Prop) (R : Value → World → Prop) (E : Pan) : Prop :=
 opK Try.prog E (xV (Instr.fieldAt 34 x2 5)) w fun t71_87 w_88 =>
 opK Try.prog E (xV (Instr.loadAt 32 t71_87)) w_88 fun t72_89 w_90 =>
 opK Try.prog E (xBuiltin .len #[32] 3 [false] [t72_89]) w_90 fun t73_91 w_92 =>
 opK Try.prog E (xBin .lss 3 (.tmp 70) (.tmp 73) x6 t73_91) w_92 fun t74_93 w_94 =>
 xcond t74_93
 (dX w_94 fun w_95 =>
 qP Try.prog (xV (Instr.fieldAt 34 x2 5)) fun t77_96 =>
 qP Try.prog (xV (Instr.fieldAt 34 x3 5)) fun t82_97 =>
 qL Try.prog w_95 (blk t77_96) (xV (Instr.loadAt 32 t77_96)) fun t78_98 =>
 qP Try.prog (xV (Instr.indexAt 32 t78_98 x6)) fun t80_99 =>
 qL Try.prog w_95 (blk t80_99) (xV (Instr.loadAt 27 t80_99)) fun t81_100 =>
 qL Try.prog w_95 (blk t82_97) (xV (Instr.loadAt 32 t82_97)) fun t83_101 =>
 qP Try.prog (xV (Instr.indexAt 32 t83_101 x6)) fun t85_102 =>
 qL Try.prog w_95 (blk t85_102) (xV (Instr.loadAt 27 t85_102)) fun t86_103 =>
 opK Try.prog E (xCall (Value.func (.func 12) #[] #[]) [t81_100, t86_103]) w_95 fun t87_104 w_105 =>
 keepX [] w_95 w_105 (qP Try.prog (xV (Op.unary .not t87_104)) fun t88_106 =>
 xcond t88_106
 (R (Value.bool false) w_105)
 (opK Try.prog E (xBin .add 3 (.tmp 75) (.const (Value.int .i64 1)) x6 (Value.int .i64 1)) w_105 fun t76_107 w_108 =>
 next3 [t76_107] w_108)))
 (j2 [] w_94)
def F10_j1 (x2 x3 : Value) (w : World) (R : Value → World → Prop) (E : Pan) : Prop :=
 ∀ _τ : Fr, (xcut (fun _ w_86 => F10_j2 w_86 R E) fun j2 =>
 xloop [6] [(Value.int .i64 0)] w fun τ_109 w_110 next3 =>
 F10_l3 x2 x3 (τ_109 6) w_110 next3 j2 R E)
def F10_l4 (x2 x3 x5 : Value) (w : World) (next4 : List Value → World → Prop) (j1 : List Value → World → Prop) (R : Value → World → Prop) (E : Pan) : Prop :=
 opK Try.prog E (xV (Instr.fieldAt 34 x2 3)) w fun t53_113 w_114 =>
 opK Try.prog E (xV (Instr.loadAt 31 t53_113)) w_114 fun t54_115 w_116 =>
 opK Try.prog E (xBuiltin .len #[31] 3 [false] [t54_115]) w_116 fun t55_117 w_118 =>
 opK Try.prog E (xBin .lss 3 (.tmp 52) (.tmp 55) x5 t55_117) w_118 fun t56_119 w_120 =>
 xcond t56_119
 (dX w_120 fun w_121 =>
 qP Try.prog (xV (Instr.fieldAt 34 x2 3)) fun t59_122 =>
 qP Try.prog (xV (Instr.fieldAt 34 x3 3)) fun t64_123 =>
 qL Try.prog w_121 (blk t59_122) (xV (Instr.loadAt 31 t59_122)) fun t60_124 =>
 qP Try.prog (xV (Instr.indexAt 31 t60_124 x5)) fun t62_125 =>
 qL Try.prog w_121 (blk t62_125) (xV (Instr.loadAt 74 t62_125)) fun t63_126 =>
 qL Try.prog w_121 (blk t64_123) (xV (Instr.loadAt 31 t64_123)) fun t65_127 =>
 qP Try.prog (xV (Instr.indexAt 31 t65_127 x5)) fun t67_128 =>
 qL Try.prog w_121 (blk t67_128) (xV (Instr.loadAt 74 t67_128)) fun t68_129 =>
 qP Try.prog (xBin .neq 74 (.tmp 63) (.tmp 68) t63_126 t68_129) fun t69_130 =>
 xcond t69_130
 (R (Value.bool false) w_121)
 (opK Try.prog E (xBin .add 3 (.tmp 57) (.const (Value.int .i64 1)) x5 (Value.int .i64 1)) w_121 fun t58_131 w_132 =>
 next4 [t58_131] w_132))
 (j1 [] w_120)
def F10 (x0 x1 : Value) (w : World) (R : Value → World → Prop) (E : Pan) : Prop :=
 opK Try.prog E (xV (Instr.box 34 x0)) w fun t2_1 w_2 =>
 opK Try.prog E (xV (Instr.box 34 x1)) w_2 fun t3_3 w_4 =>
 opK Try.prog E (xV (Instr.fieldAt 34 t2_1 0)) w_4 fun t7_5 w_6 =>
 opK Try.prog E (xV (Instr.loadAt 3 t7_5)) w_6 fun t8_7 w_8 =>
 opK Try.prog E (xV (Instr.fieldAt 34 t3_3 0)) w_8 fun t9_9 w_10 =>
 opK Try.prog E (xV (Instr.loadAt 3 t9_9)) w_10 fun t10_11 w_12 =>
 opK Try.prog E (xBin .neq 3 (.tmp 8) (.tmp 10) t8_7 t10_11) w_12 fun t11_13 w_14 =>
 opK Try.prog E (gsem (asB t11_13) false (xV (Instr.fieldAt 34 t2_1 1))) w_14 fun t13_15 w_16 =>
 opK Try.prog E (gsem (asB t11_13) false (xV (Instr.loadAt 3 t13_15))) w_16 fun t14_17 w_18 =>
 opK Try.prog E (gsem (asB t11_13) false (xV (Instr.fieldAt 34 t3_3 1))) w_18 fun t15_19 w_20 =>
 opK Try.prog E (gsem (asB t11_13) false (xV (Instr.loadAt 3 t15_19))) w_20 fun t16_21 w_22 =>
 opK Try.prog E (gsem (asB t11_13) false (xBin .neq 3 (.tmp 14) (.tmp 16) t14_17 t16_21)) w_22 fun t17_23 w_24 =>
 opK Try.prog E (xPick t11_13 (Value.bool true) t17_23) w_24 fun t18_25 w_26 =>
 opK Try.prog E (gsem (asB t18_25) false (xV (Instr.fieldAt 34 t2_1 2))) w_26 fun t20_27 w_28 =>
 opK Try.prog E (gsem (asB t18_25) false (xV (Instr.loadAt 3 t20_27))) w_28 fun t21_29 w_30 =>
 opK Try.prog E (gsem (asB t18_25) false (xV (Instr.fieldAt 34 t3_3 2))) w_30 fun t22_31 w_32 =>
 opK Try.prog E (gsem (asB t18_25) false (xV (Instr.loadAt 3 t22_31))) w_32 fun t23_33 w_34 =>
 opK Try.prog E (gsem (asB t18_25) false (xBin .neq 3 (.tmp 21) (.tmp 23) t21_29 t23_33)) w_34 fun t24_35 w_36 =>
 opK Try.prog E (xPick t18_25 (Value.bool true) t24_35) w_36 fun t25_37 w_38 =>
 opK Try.prog E (gsem (asB t25_37) false (xV (Instr.fieldAt 34 t2_1 3))) w_38 fun t27_39 w_40 =>
 opK Try.prog E (gsem (asB t25_37) false (xV (Instr.loadAt 31 t27_39))) w_40 fun t28_41 w_42 =>
 opK Try.prog E (gsem (asB t25_37) false (xBuiltin .len #[31] 3 [false] [t28_41])) w_42 fun t29_43 w_44 =>
 opK Try.prog E (gsem (asB t25_37) false (xV (Instr.fieldAt 34 t3_3 3))) w_44 fun t30_45 w_46 =>
 opK Try.prog E (gsem (asB t25_37) false (xV (Instr.loadAt 31 t30_45))) w_46 fun t31_47 w_48 =>
 opK Try.prog E (gsem (asB t25_37) false (xBuiltin .len #[31] 3 [false] [t31_47])) w_48 fun t32_49 w_50 =>
 opK Try.prog E (gsem (asB t25_37) false (xBin .neq 3 (.tmp 29) (.tmp 32) t29_43 t32_49)) w_50 fun t33_51 w_52 =>
 opK Try.prog E (xPick t25_37 (Value.bool true) t33_51) w_52 fun t34_53 w_54 =>
 opK Try.prog E (gsem (asB t34_53) false (xV (Instr.fieldAt 34 t2_1 4))) w_54 fun t36_55 w_56 =>
 opK Try.prog E (gsem (asB t34_53) false (xV (Instr.loadAt 27 t36_55))) w_56 fun t37_57 w_58 =>
 opK Try.prog E (gsem (asB t34_53) false (xV (Instr.fieldAt 34 t3_3 4))) w_58 fun t38_59 w_60 =>
 opK Try.prog E (gsem (asB t34_53) false (xV (Instr.loadAt 27 t38_59))) w_60 fun t39_61 w_62 =>
 opK Try.prog E (gsem (asB t34_53) false (xCall (Value.func (.func 12) #[] #[]) [t37_57, t39_61])) w_62 fun t40_63 w_64 =>
 opK Try.prog E (gsem (asB t34_53) false (xV (Op.unary .not t40_63))) w_64 fun t41_65 w_66 =>
 opK Try.prog E (xPick t34_53 (Value.bool true) t41_65) w_66 fun t42_67 w_68 =>
 opK Try.prog E (gsem (asB t42_67) false (xV (Instr.fieldAt 34 t2_1 5))) w_68 fun t44_69 w_70 =>
 opK Try.prog E (gsem (asB t42_67) false (xV (Instr.loadAt 32 t44_69))) w_70 fun t45_71 w_72 =>
 opK Try.prog E (gsem (asB t42_67) false (xBuiltin .len #[32] 3 [false] [t45_71])) w_72 fun t46_73 w_74 =>
 opK Try.prog E (gsem (asB t42_67) false (xV (Instr.fieldAt 34 t3_3 5))) w_74 fun t47_75 w_76 =>
 opK Try.prog E (gsem (asB t42_67) false (xV (Instr.loadAt 32 t47_75))) w_76 fun t48_77 w_78 =>
 opK Try.prog E (gsem (asB t42_67) false (xBuiltin .len #[32] 3 [false] [t48_77])) w_78 fun t49_79 w_80 =>
 opK Try.prog E (gsem (asB t42_67) false (xBin .neq 3 (.tmp 46) (.tmp 49) t46_73 t49_79)) w_80 fun t50_81 w_82 =>
 opK Try.prog E (xPick t42_67 (Value.bool true) t50_81) w_82 fun t51_83 w_84 =>
 xcond t51_83
 (R (Value.bool false) w_84)
 (xcut (fun _ w_112 => F10_j1 t2_1 t3_3 w_112 R E) fun j1 =>
 xloop [5] [(Value.int .i64 0)] w_84 fun τ_133 w_134 next4 =>
 F10_l4 t2_1 t3_3 (τ_133 5) w_134 next4 j1 R E)
noncomputable def c10 : Code := Try.f10.body.getD .skip
def h10 : Hint := (.seq .none (.seq (.seq .none (.cond (.seq .none .none) .none)) (.cut [] (.seq .none (.block (.loop [5] (.seq (.seq .none (.cond .none .none)) (.seq (.block (.seq (.reg [(0, 576460752303423488, 4), (1, 1152921504606846976, 576460752303423488), (0, 2305843009213693952, 32), (6, 4611686018427387904, 3458764513820540928), (8, 9223372036854775808, 4611686018427387904), (0, 18446744073709551616, 8), (32, 36893488147419103232, 18446744073709551616), (0, 73786976294838206464, 32), (192, 147573952589676412928, 110680464442257309696), (256, 295147905179352825856, 147573952589676412928), (528, 590295810358705651712, 304371277216207601664)] [594, 592, 594, 594, 578, 594, 530, 594, 594, 82, 594] (.early 0 (.early 2 (.early 5 (.early 7 (.load 1 (.early 3 (.load 4 (.load 6 (.early 8 (.load 9 (.early 10 .done)))))))))))) (.cond (.seq .none .none) .none))) .none))))) (.cut [] (.seq .none (.block (.loop [6] (.seq (.seq .none (.cond .none .none)) (.seq (.block (.seq (.reg [(0, 151115727451828646838272, 4), (1, 302231454903657293676544, 151115727451828646838272), (0, 604462909807314587353088, 64), (6, 1208925819614629174706176, 906694364710971881029632), (8, 2417851639229258349412352, 1208925819614629174706176), (0, 4835703278458516698824704, 8), (32, 9671406556917033397649408, 4835703278458516698824704), (0, 19342813113834066795298816, 64), (192, 38685626227668133590597632, 29014219670751100192948224), (256, 77371252455336267181195264, 38685626227668133590597632), (528, 154742504910672534362390528, 79789104094565525530607616), (1024, 309485009821345068724781056, 154742504910672534362390528)] [594, 592, 594, 594, 578, 594, 530, 594, 594, 82, 0, 594] (.early 0 (.early 2 (.early 5 (.early 7 (.load 1 (.early 3 (.load 4 (.load 6 (.early 8 (.load 9 (.step 10 (.early 11 .done))))))))))))) (.cond (.seq .none .none) .none))) .none))))) (.seq .none .none)))))
theorem F10_eq (x0 x1 : Value) (w : World) (R : Value → World → Prop) (E : Pan) : F10 x0 x1 w R E = callX Try.prog [.tmp 4] c10 h10 [x0, x1] w R E := by kernel_rfl
theorem F10_ok {x0 x1 : Value} {w : World} {R : Value → World → Prop} {E : Pan} (h : F10 x0 x1 w R E) : Cv Try.prog 10 #[x0, x1] w R E := by
 refine callX_sound (args := [x0, x1]) (c := c10) (h := h10) (rs := [.tmp 4]) Try.func10 (by kernel_rfl) (by kernel_rfl) (Nat.le_of_ble_eq_true (by kernel_rfl)) (by kernel_rfl) (by kernel_rfl) (by kernel_rfl) ?_
 rw [← F10_eq]
 exact h

/- function 11: gnomon/gnomonhelp.Cfg -/
def F11_j1 (w : World) (R : Value → World → Prop) (_E : Pan) : Prop :=
 ∀ _τ : Fr, (R (Value.bool true) w)
def F11_l2 (x2 x3 x5 : Value) (w : World) (next2 : List Value → World → Prop) (j1 : List Value → World → Prop) (R : Value → World → Prop) (E : Pan) : Prop :=
 opK Try.prog E (xV (Instr.fieldAt 26 x2 5)) w fun t51_85 w_86 =>
 opK Try.prog E (xV (Instr.loadAt 24 t51_85)) w_86 fun t52_87 w_88 =>
 opK Try.prog E (xBuiltin .len #[24] 3 [false] [t52_87]) w_88 fun t53_89 w_90 =>
 opK Try.prog E (xBin .lss 3 (.tmp 50) (.tmp 53) x5 t53_89) w_90 fun t54_91 w_92 =>
 xcond t54_91
 (dX w_92 fun w_93 =>
 qP Try.prog (xV (Instr.fieldAt 26 x2 5)) fun t57_94 =>
 qP Try.prog (xV (Instr.fieldAt 26 x3 5)) fun t62_95 =>
 qL Try.prog w_93 (blk t57_94) (xV (Instr.loadAt 24 t57_94)) fun t58_96 =>
 qP Try.prog (xV (Instr.indexAt 24 t58_96 x5)) fun t60_97 =>
 qL Try.prog w_93 (blk t60_97) (xV (Instr.loadAt 52 t60_97)) fun t61_98 =>
 qL Try.prog w_93 (blk t62_95) (xV (Instr.loadAt 24 t62_95)) fun t63_99 =>
 qP Try.prog (xV (Instr.indexAt 24 t63_99 x5)) fun t65_100 =>
 qL Try.prog w_93 (blk t65_100) (xV (Instr.loadAt 52 t65_100)) fun t66_101 =>
 qP Try.prog (xBin .neq 52 (.tmp 61) (.tmp 66) t61_98 t66_101) fun t67_102 =>
 xcond t67_102
 (R (Value.bool false) w_93)
 (opK Try.prog E (xBin .add 3 (.tmp 55) (.const (Value.int .i64 1)) x5 (Value.int .i64 1)) w_93 fun t56_103 w_104 =>
 next2 [t56_103] w_104))
 (j1 [] w_92)
def F11 (x0 x1 : Value) (w : World) (R : Value → World → Prop) (E : Pan) : Prop :=
 opK Try.prog E (xV (Instr.box 26 x0)) w fun t2_1 w_2 =>
 opK Try.prog E (xV (Instr.box 26 x1)) w_2 fun t3_3 w_4 =>
 opK Try.prog E (xV (Instr.fieldAt 26 t2_1 0)) w_4 fun t6_5 w_6 =>
 opK Try.prog E (xV (Instr.loadAt 22 t6_5)) w_6 fun t7_7 w_8 =>
 opK Try.prog E (xV (Instr.fieldAt 26 t3_3 0)) w_8 fun t8_9 w_10 =>
 opK Try.prog E (xV (Instr.loadAt 22 t8_9)) w_10 fun t9_11 w_12 =>
 opK Try.prog E (xCall (Value.func (.func 23) #[] #[]) [t7_7, t9_11]) w_12 fun t10_13 w_14 =>
 opK Try.prog E (xV (Op.unary .not t10_13)) w_14 fun t11_15 w_16 =>
 opK Try.prog E (gsem (asB t11_15) false (xV (Instr.fieldAt 26 t2_1 1))) w_16 fun t13_17 w_18 =>
 opK Try.prog E (gsem (asB t11_15) false (xV (Instr.loadAt 3 t13_17))) w_18 fun t14_19 w_20 =>
 opK Try.prog E (gsem (asB t11_15) false (xV (Instr.fieldAt 26 t3_3 1))) w_20 fun t15_21 w_22 =>
 opK Try.prog E (gsem (asB t11_15) false (xV (Instr.loadAt 3 t15_21))) w_22 fun t16_23 w_24 =>
 opK Try.prog E (gsem (asB t11_15) false (xBin .neq 3 (.tmp 14) (.tmp 16) t14_19 t16_23)) w_24 fun t17_25 w_26 =>
 opK Try.prog E (xPick t11_15 (Value.bool true) t17_25) w_26 fun t18_27 w_28 =>
 opK Try.prog E (gsem (asB t18_27) false (xV (Instr.fieldAt 26 t2_1 2))) w_28 fun t20_29 w_30 =>
 opK Try.prog E (gsem (asB t18_27) false (xV (Instr.loadAt 23 t20_29))) w_30 fun t21_31 w_32 =>
 opK Try.prog E (gsem (asB t18_27) false (xV (Instr.fieldAt 26 t3_3 2))) w_32 fun t22_33 w_34 =>
 opK Try.prog E (gsem (asB t18_27) false (xV (Instr.loadAt 23 t22_33))) w_34 fun t23_35 w_36 =>
 opK Try.prog E (gsem (asB t18_27) false (xCall (Value.func (.func 24) #[] #[]) [t21_31, t23_35])) w_36 fun t24_37 w_38 =>
 opK Try.prog E (gsem (asB t18_27) false (xV (Op.unary .not t24_37))) w_38 fun t25_39 w_40 =>
 opK Try.prog E (xPick t18_27 (Value.bool true) t25_39) w_40 fun t26_41 w_42 =>
 opK Try.prog E (gsem (asB t26_41) false (xV (Instr.fieldAt 26 t2_1 3))) w_42 fun t28_43 w_44 =>
 opK Try.prog E (gsem (asB t26_41) false (xV (Instr.loadAt 3 t28_43))) w_44 fun t29_45 w_46 =>
 opK Try.prog E (gsem (asB t26_41) false (xV (Instr.fieldAt 26 t3_3 3))) w_46 fun t30_47 w_48 =>
 opK Try.prog E (gsem (asB t26_41) false (xV (Instr.loadAt 3 t30_47))) w_48 fun t31_49 w_50 =>
 opK Try.prog E (gsem (asB t26_41) false (xBin .neq 3 (.tmp 29) (.tmp 31) t29_45 t31_49)) w_50 fun t32_51 w_52 =>
 opK Try.prog E (xPick t26_41 (Value.bool true) t32_51) w_52 fun t33_53 w_54 =>
 opK Try.prog E (gsem (asB t33_53) false (xV (Instr.fieldAt 26 t2_1 4))) w_54 fun t35_55 w_56 =>
 opK Try.prog E (gsem (asB t33_53) false (xV (Instr.loadAt 3 t35_55))) w_56 fun t36_57 w_58 =>
 opK Try.prog E (gsem (asB t33_53) false (xV (Instr.fieldAt 26 t3_3 4))) w_58 fun t37_59 w_60 =>
 opK Try.prog E (gsem (asB t33_53) false (xV (Instr.loadAt 3 t37_59))) w_60 fun t38_61 w_62 =>
 opK Try.prog E (gsem (asB t33_53) false (xBin .neq 3 (.tmp 36) (.tmp 38) t36_57 t38_61)) w_62 fun t39_63 w_64 =>
 opK Try.prog E (xPick t33_53 (Value.bool true) t39_63) w_64 fun t40_65 w_66 =>
 opK Try.prog E (gsem (asB t40_65) false (xV (Instr.fieldAt 26 t2_1 5))) w_66 fun t42_67 w_68 =>
 opK Try.prog E (gsem (asB t40_65) false (xV (Instr.loadAt 24 t42_67))) w_68 fun t43_69 w_70 =>
 opK Try.prog E (gsem (asB t40_65) false (xBuiltin .len #[24] 3 [false] [t43_69])) w_70 fun t44_71 w_72 =>
 opK Try.prog E (gsem (asB t40_65) false (xV (Instr.fieldAt 26 t3_3 5))) w_72 fun t45_73 w_74 =>
 opK Try.prog E (gsem (asB t40_65) false (xV (Instr.loadAt 24 t45_73))) w_74 fun t46_75 w_76 =>
 opK Try.prog E (gsem (asB t40_65) false (xBuiltin .len #[24] 3 [false] [t46_75])) w_76 fun t47_77 w_78 =>
 opK Try.prog E (gsem (asB t40_65) false (xBin .neq 3 (.tmp 44) (.tmp 47) t44_71 t47_77)) w_78 fun t48_79 w_80 =>
 opK Try.prog E (xPick t40_65 (Value.bool true) t48_79) w_80 fun t49_81 w_82 =>
 xcond t49_81
 (R (Value.bool false) w_82)
 (xcut (fun _ w_84 => F11_j1 w_84 R E) fun j1 =>
 xloop [5] [(Value.int .i64 0)] w_82 fun τ_105 w_106 next2 =>
 F11_l2 t2_1 t3_3 (τ_105 5) w_106 next2 j1 R E)
noncomputable def c11 : Code := Try.f11.body.getD .skip
def h11 : Hint := (.seq .none (.seq (.seq .none (.cond (.seq .none .none) .none)) (.cut [] (.seq .none (.block (.loop [5] (.seq (.seq .none (.cond .none .none)) (.seq (.block (.seq (.reg [(0, 144115188075855872, 4), (1, 288230376151711744, 144115188075855872), (0, 576460752303423488, 32), (6, 1152921504606846976, 864691128455135232), (8, 2305843009213693952, 1152921504606846976), (0, 4611686018427387904, 8), (32, 9223372036854775808, 4611686018427387904), (0, 18446744073709551616, 32), (192, 36893488147419103232, 27670116110564327424), (256, 73786976294838206464, 36893488147419103232), (528, 147573952589676412928, 76092819304051900416)] [594, 592, 594, 594, 578, 594, 530, 594, 594, 82, 594] (.early 0 (.early 2 (.early 5 (.early 7 (.load 1 (.early 3 (.load 4 (.load 6 (.early 8 (.load 9 (.early 10 .done)))))))))))) (.cond (.seq .none .none) .none))) .none))))) (.seq .none .none))))
theorem F11_eq (x0 x1 : Value) (w : World) (R : Value → World → Prop) (E : Pan) : F11 x0 x1 w R E = callX Try.prog [.tmp 4] c11 h11 [x0, x1] w R E := by kernel_rfl
theorem F11_ok {x0 x1 : Value} {w : World} {R : Value → World → Prop} {E : Pan} (h : F11 x0 x1 w R E) : Cv Try.prog 11 #[x0, x1] w R E := by
 refine callX_sound (args := [x0, x1]) (c := c11) (h := h11) (rs := [.tmp 4]) Try.func11 (by kernel_rfl) (by kernel_rfl) (Nat.le_of_ble_eq_true (by kernel_rfl)) (by kernel_rfl) (by kernel_rfl) (by kernel_rfl) ?_
 rw [← F11_eq]
 exact h

/- function 23: gnomon/gnomonhelp.Texts -/
def F23_j1 (w : World) (R : Value → World → Prop) (_E : Pan) : Prop :=
 ∀ _τ : Fr, (R (Value.bool true) w)
def F23_l2 (x0 x1 x5 : Value) (w : World) (next2 : List Value → World → Prop) (j1 : List Value → World → Prop) (R : Value → World → Prop) (E : Pan) : Prop :=
 opK Try.prog E (xBuiltin .len #[22] 3 [false] [x0]) w fun t13_9 w_10 =>
 opK Try.prog E (xBin .lss 3 (.tmp 11) (.tmp 13) x5 t13_9) w_10 fun t14_11 w_12 =>
 xcond t14_11
 (dX w_12 fun w_13 =>
 qP Try.prog (xV (Instr.indexAt 22 x0 x5)) fun t19_14 =>
 qP Try.prog (xV (Instr.indexAt 22 x1 x5)) fun t23_15 =>
 qL Try.prog w_13 (blk t19_14) (xV (Instr.loadAt 9 t19_14)) fun t20_16 =>
 qL Try.prog w_13 (blk t23_15) (xV (Instr.loadAt 9 t23_15)) fun t24_17 =>
 qP Try.prog (xBin .neq 9 (.tmp 20) (.tmp 24) t20_16 t24_17) fun t25_18 =>
 xcond t25_18
 (R (Value.bool false) w_13)
 (opK Try.prog E (xBin .add 3 (.tmp 15) (.const (Value.int .i64 1)) x5 (Value.int .i64 1)) w_13 fun t16_19 w_20 =>
 next2 [t16_19] w_20))
 (j1 [] w_12)
def F23 (x0 x1 : Value) (w : World) (R : Value → World → Prop) (E : Pan) : Prop :=
 opK Try.prog E (xBuiltin .len #[22] 3 [false] [x0]) w fun t7_1 w_2 =>
 opK Try.prog E (xBuiltin .len #[22] 3 [false] [x1]) w_2 fun t9_3 w_4 =>
 opK Try.prog E (xBin .neq 3 (.tmp 7) (.tmp 9) t7_1 t9_3) w_4 fun t10_5 w_6 =>
 xcond t10_5
 (R (Value.bool false) w_6)
 (xcut (fun _ w_8 => F23_j1 w_8 R E) fun j1 =>
 xloop [5] [(Value.int .i64 0)] w_6 fun τ_21 w_22 next2 =>
 F23_l2 x0 x1 (τ_21 5) w_22 next2 j1 R E)
noncomputable def c23 : Code := Try.f23.body.getD .skip
def h23 : Hint := (.seq .none (.seq (.seq .none (.cond (.seq .none .none) .none)) (.cut [] (.seq .none (.block (.loop [5] (.seq (.seq .none (.cond .none .none)) (.seq (.block (.seq (.reg [(0, 131072, 1), (0, 262144, 32), (3, 524288, 393216), (4, 1048576, 524288), (0, 2097152, 2), (0, 4194304, 32), (48, 8388608, 6291456), (64, 16777216, 8388608), (136, 33554432, 17825792)] [136, 136, 136, 128, 136, 136, 136, 8, 136] (.early 0 (.early 1 (.early 2 (.early 4 (.early 5 (.early 6 (.load 3 (.load 7 (.early 8 .done)))))))))) (.cond (.seq .none .none) .none))) .none))))) (.seq .none .none))))
theorem F23_eq (x0 x1 : Value) (w : World) (R : Value → World → Prop) (E : Pan) : F23 x0 x1 w R E = callX Try.prog [.tmp 4] c23 h23 [x0, x1] w R E := by kernel_rfl
theorem F23_ok {x0 x1 : Value} {w : World} {R : Value → World → Prop} {E : Pan} (h : F23 x0 x1 w R E) : Cv Try.prog 23 #[x0, x1] w R E := by
 refine callX_sound (args := [x0, x1]) (c := c23) (h := h23) (rs := [.tmp 4]) Try.func23 (by kernel_rfl) (by kernel_rfl) (Nat.le_of_ble_eq_true (by kernel_rfl)) (by kernel_rfl) (by kernel_rfl) (by kernel_rfl) ?_
 rw [← F23_eq]
 exact h

/- function 24: gnomon/gnomonhelp.Decls -/
def F24_j1 (w : World) (R : Value → World → Prop) (_E : Pan) : Prop :=
 ∀ _τ : Fr, (R (Value.bool true) w)
def F24_l2 (x0 x1 x5 : Value) (w : World) (next2 : List Value → World → Prop) (j1 : List Value → World → Prop) (R : Value → World → Prop) (E : Pan) : Prop :=
 opK Try.prog E (xBuiltin .len #[23] 3 [false] [x0]) w fun t13_9 w_10 =>
 opK Try.prog E (xBin .lss 3 (.tmp 11) (.tmp 13) x5 t13_9) w_10 fun t14_11 w_12 =>
 xcond t14_11
 (dX w_12 fun w_13 =>
 qP Try.prog (xV (Instr.indexAt 23 x0 x5)) fun t19_14 =>
 qP Try.prog (xV (Instr.indexAt 23 x1 x5)) fun t23_15 =>
 qL Try.prog w_13 (blk t19_14) (xV (Instr.loadAt 60 t19_14)) fun t20_16 =>
 qL Try.prog w_13 (blk t23_15) (xV (Instr.loadAt 60 t23_15)) fun t24_17 =>
 qP Try.prog (xBin .neq 60 (.tmp 20) (.tmp 24) t20_16 t24_17) fun t25_18 =>
 xcond t25_18
 (R (Value.bool false) w_13)
 (opK Try.prog E (xBin .add 3 (.tmp 15) (.const (Value.int .i64 1)) x5 (Value.int .i64 1)) w_13 fun t16_19 w_20 =>
 next2 [t16_19] w_20))
 (j1 [] w_12)
def F24 (x0 x1 : Value) (w : World) (R : Value → World → Prop) (E : Pan) : Prop :=
 opK Try.prog E (xBuiltin .len #[23] 3 [false] [x0]) w fun t7_1 w_2 =>
 opK Try.prog E (xBuiltin .len #[23] 3 [false] [x1]) w_2 fun t9_3 w_4 =>
 opK Try.prog E (xBin .neq 3 (.tmp 7) (.tmp 9) t7_1 t9_3) w_4 fun t10_5 w_6 =>
 xcond t10_5
 (R (Value.bool false) w_6)
 (xcut (fun _ w_8 => F24_j1 w_8 R E) fun j1 =>
 xloop [5] [(Value.int .i64 0)] w_6 fun τ_21 w_22 next2 =>
 F24_l2 x0 x1 (τ_21 5) w_22 next2 j1 R E)
noncomputable def c24 : Code := Try.f24.body.getD .skip
def h24 : Hint := (.seq .none (.seq (.seq .none (.cond (.seq .none .none) .none)) (.cut [] (.seq .none (.block (.loop [5] (.seq (.seq .none (.cond .none .none)) (.seq (.block (.seq (.reg [(0, 131072, 1), (0, 262144, 32), (3, 524288, 393216), (4, 1048576, 524288), (0, 2097152, 2), (0, 4194304, 32), (48, 8388608, 6291456), (64, 16777216, 8388608), (136, 33554432, 17825792)] [136, 136, 136, 128, 136, 136, 136, 8, 136] (.early 0 (.early 1 (.early 2 (.early 4 (.early 5 (.early 6 (.load 3 (.load 7 (.early 8 .done)))))))))) (.cond (.seq .none .none) .none))) .none))))) (.seq .none .none))))
theorem F24_eq (x0 x1 : Value) (w : World) (R : Value → World → Prop) (E : Pan) : F24 x0 x1 w R E = callX Try.prog [.tmp 4] c24 h24 [x0, x1] w R E := by kernel_rfl
theorem F24_ok {x0 x1 : Value} {w : World} {R : Value → World → Prop} {E : Pan} (h : F24 x0 x1 w R E) : Cv Try.prog 24 #[x0, x1] w R E := by
 refine callX_sound (args := [x0, x1]) (c := c24) (h := h24) (rs := [.tmp 4]) Try.func24 (by kernel_rfl) (by kernel_rfl) (Nat.le_of_ble_eq_true (by kernel_rfl)) (by kernel_rfl) (by kernel_rfl) (by kernel_rfl) ?_
 rw [← F24_eq]
 exact h

end Go.Proofs.Ytgapepdglhcglaa
