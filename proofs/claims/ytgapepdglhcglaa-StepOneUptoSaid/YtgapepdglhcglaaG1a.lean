/-
  The second reading of some of the program's functions, printed by gen2.py off the code; each is held against the code by the kernel.
-/
import Derived.Test.YtgapepdglhcglaaGO
namespace Go.Proofs.Ytgapepdglhcglaa
open Go.RowKit
set_option maxRecDepth 100000

/- function 5: gnomon/gnomonlaw10.known -/
def F5 (w : World) (R : Value → World → Prop) (E : Pan) : Prop :=
 opK Try.prog E (xV (Instr.buildSlice 22 1 #[(0, (Value.string ⟨#[120]⟩))])) w fun t5_1 w_2 =>
 opK Try.prog E (xV (Instr.build 50 #[(0, (Value.int .i64 (-1))), (1, (Value.int .i64 4))])) w_2 fun t6_3 w_4 =>
 opK Try.prog E (xV (Instr.build 50 #[(0, (Value.int .i64 (-1)))])) w_4 fun t7_5 w_6 =>
 opK Try.prog E (xV (Instr.build 52 #[(1, (Value.int .i64 1)), (2, (Value.int .i64 2)), (4, (Value.int .i64 (-1))), (6, t6_3), (7, t7_5)])) w_6 fun t8_7 w_8 =>
 opK Try.prog E (xV (Instr.buildSlice 24 1 #[(0, t8_7)])) w_8 fun t9_9 w_10 =>
 opK Try.prog E (xV (Instr.build 26 #[(0, t5_1), (3, (Value.int .i64 2)), (4, (Value.int .i64 1)), (5, t9_9)])) w_10 fun t10_11 w_12 =>
 opK Try.prog E (xV (Instr.alloc 26 true (.tuple #[]))) w_12 fun t1_13 w_14 =>
 opK Try.prog E (xU (Instr.storeAt 26 t1_13 t10_11)) w_14 fun _z_15 w_16 =>
 opK Try.prog E (xV (Instr.loadAt 26 t1_13)) w_16 fun t12_17 w_18 =>
 opK Try.prog E (xCall (Value.func (.func 8) #[] #[]) [t12_17, (Value.slice none 0 0), (Value.int .i64 5)]) w_18 fun t13_19 w_20 =>
 opK Try.prog E (xV (Instr.extract t13_19 0)) w_20 fun t14_21 w_22 =>
 opK Try.prog E (xV (Instr.extract t13_19 1)) w_22 fun t15_23 w_24 =>
 opK Try.prog E (xV (Instr.extract t13_19 2)) w_24 fun t16_25 w_26 =>
 opK Try.prog E (xV (Instr.alloc 34 true (.tuple #[]))) w_26 fun t2_27 w_28 =>
 opK Try.prog E (xU (Instr.storeAt 34 t2_27 t14_21)) w_28 fun _z_29 w_30 =>
 opK Try.prog E (xBin .eql 35 (.tmp 17) (.const (Value.int .i64 0)) t16_25 (Value.int .i64 0)) w_30 fun t18_31 w_32 =>
 opK Try.prog E (gsem (asB t18_31) true (xBin .eql 3 (.tmp 20) (.const (Value.int .i64 1)) (gval (asB t18_31) true t15_23) (Value.int .i64 1))) w_32 fun t21_33 w_34 =>
 opK Try.prog E (xPick t18_31 t21_33 (Value.bool false)) w_34 fun t22_35 w_36 =>
 opK Try.prog E (gsem (asB t22_35) true (xV (Instr.fieldAt 34 t2_27 0))) w_36 fun t24_37 w_38 =>
 opK Try.prog E (gsem (asB t22_35) true (xV (Instr.loadAt 3 t24_37))) w_38 fun t25_39 w_40 =>
 opK Try.prog E (gsem (asB t22_35) true (xBin .eql 3 (.tmp 25) (.const (Value.int .i64 2)) t25_39 (Value.int .i64 2))) w_40 fun t26_41 w_42 =>
 opK Try.prog E (xPick t22_35 t26_41 (Value.bool false)) w_42 fun t27_43 w_44 =>
 opK Try.prog E (gsem (asB t27_43) true (xV (Instr.fieldAt 34 t2_27 2))) w_44 fun t29_45 w_46 =>
 opK Try.prog E (gsem (asB t27_43) true (xV (Instr.loadAt 3 t29_45))) w_46 fun t30_47 w_48 =>
 opK Try.prog E (gsem (asB t27_43) true (xBin .eql 3 (.tmp 30) (.const (Value.int .i64 1)) t30_47 (Value.int .i64 1))) w_48 fun t31_49 w_50 =>
 opK Try.prog E (xPick t27_43 t31_49 (Value.bool false)) w_50 fun t32_51 w_52 =>
 opK Try.prog E (gsem (asB t32_51) true (xV (Instr.fieldAt 34 t2_27 4))) w_52 fun t34_53 w_54 =>
 opK Try.prog E (gsem (asB t32_51) true (xV (Instr.loadAt 27 t34_53))) w_54 fun t35_55 w_56 =>
 opK Try.prog E (gsem (asB t32_51) true (xBuiltin .len #[27] 3 [false] [t35_55])) w_56 fun t36_57 w_58 =>
 opK Try.prog E (gsem (asB t32_51) true (xBin .eql 3 (.tmp 36) (.const (Value.int .i64 1)) t36_57 (Value.int .i64 1))) w_58 fun t37_59 w_60 =>
 opK Try.prog E (xPick t32_51 t37_59 (Value.bool false)) w_60 fun t38_61 w_62 =>
 opK Try.prog E (gsem (asB t38_61) true (xV (Instr.fieldAt 34 t2_27 4))) w_62 fun t40_63 w_64 =>
 opK Try.prog E (gsem (asB t38_61) true (xV (Instr.loadAt 27 t40_63))) w_64 fun t41_65 w_66 =>
 opK Try.prog E (gsem (asB t38_61) true (xV (Instr.indexAt 27 t41_65 (Value.int .i64 0)))) w_66 fun t42_67 w_68 =>
 opK Try.prog E (gsem (asB t38_61) true (xV (Instr.loadAt 2 t42_67))) w_68 fun t43_69 w_70 =>
 opK Try.prog E (gsem (asB t38_61) true (xBin .eql 2 (.tmp 43) (.const (Value.int .i64 4)) t43_69 (Value.int .i64 4))) w_70 fun t44_71 w_72 =>
 opK Try.prog E (xPick t38_61 t44_71 (Value.bool false)) w_72 fun t45_73 w_74 =>
 R t45_73 w_74
noncomputable def c5 : Code := Try.f5.body.getD .skip
def h5 : Hint := (.seq .none (.seq .none (.seq .none (.seq .none .none))))
theorem F5_eq (w : World) (R : Value → World → Prop) (E : Pan) : F5  w R E = callX Try.prog [.tmp 0] c5 h5 [] w R E := by kernel_rfl
theorem F5_ok {w : World} {R : Value → World → Prop} {E : Pan} (h : F5  w R E) : Cv Try.prog 5 #[] w R E := by
 refine callX_sound (args := []) (c := c5) (h := h5) (rs := [.tmp 0]) Try.func5 (by kernel_rfl) (by kernel_rfl) (Nat.zero_le _) (by kernel_rfl) (by kernel_rfl) (by kernel_rfl) ?_
 rw [← F5_eq]
 exact h

/- function 8: gnomon/step.Run -/
def F8_j3 (x3 x6 x10 x13 : Value) (w : World) (R : Value → World → Prop) (E : Pan) : Prop :=
 ∀ _τ : Fr, (dX w fun w_45 =>
 qP Try.prog (xNil x10) fun t130_46 =>
 qP Try.prog (xV (Instr.fieldAt 58 t130_46 6)) fun t131_47 =>
 qP Try.prog (xNil x10) fun t134_48 =>
 qP Try.prog (xV (Instr.fieldAt 58 t134_48 3)) fun t135_49 =>
 qP Try.prog (xV (Instr.fieldAt 26 x3 0)) fun t137_50 =>
 qP Try.prog (xV (Instr.fieldAt 26 x3 0)) fun t140_51 =>
 qP Try.prog (xNil x10) fun t145_52 =>
 qP Try.prog (xV (Instr.fieldAt 58 t145_52 4)) fun t146_53 =>
 qL Try.prog w_45 (blk t131_47) (xV (Instr.loadAt 31 t131_47)) fun t132_54 =>
 qP Try.prog (xV (Instr.fieldAt 34 x13 3)) fun t148_55 =>
 qL Try.prog w_45 (blk t135_49) (xV (Instr.loadAt 27 t135_49)) fun t136_56 =>
 qL Try.prog w_45 (blk t137_50) (xV (Instr.loadAt 22 t137_50)) fun t138_57 =>
 qP Try.prog (xBuiltin .len #[22] 3 [false] [t138_57]) fun t139_58 =>
 qL Try.prog w_45 (blk t140_51) (xV (Instr.loadAt 22 t140_51)) fun t141_59 =>
 qP Try.prog (xBuiltin .len #[22] 3 [false] [t141_59]) fun t142_60 =>
 qP Try.prog (xV (Instr.sliceAt 27 t136_56 none (some t139_58) (some t142_60))) fun t143_61 =>
 qL Try.prog w_45 (blk t146_53) (xV (Instr.loadAt 32 t146_53)) fun t147_62 =>
 opK Try.prog E (xU (Instr.storeAt 31 t148_55 t132_54)) w_45 fun _z_63 w_64 =>
 keepX [(blk t146_53), (blk t140_51), (blk t137_50), (blk t135_49)] w_45 w_64 (qP Try.prog (xV (Instr.fieldAt 34 x13 4)) fun t149_65 =>
 opK Try.prog E (xU (Instr.storeAt 27 t149_65 t143_61)) w_64 fun _z_66 w_67 =>
 keepX [(blk t146_53)] w_64 w_67 (qP Try.prog (xV (Instr.fieldAt 34 x13 5)) fun t150_68 =>
 opK Try.prog E (xU (Instr.storeAt 32 t150_68 t147_62)) w_67 fun _z_69 w_70 =>
 keepX [] w_67 w_70 (dX w_70 fun w_71 =>
 qP Try.prog (xNil x10) fun t153_72 =>
 qP Try.prog (xV (Instr.fieldAt 58 t153_72 2)) fun t154_73 =>
 qL Try.prog w_71 (blk x13) (xV (Instr.loadAt 34 x13)) fun t151_74 =>
 qL Try.prog w_71 (blk t154_73) (xV (Instr.loadAt 3 t154_73)) fun t155_75 =>
 opK Try.prog E (xU (Instr.storeAt 34 x6 t151_74)) w_71 fun _z_76 w_77 =>
 keepX [(blk t154_73)] w_71 w_77 (xcell Try.prog 34 x6 w_77 fun r_78 =>
 R (Value.tuple #[r_78, t155_75, (Value.int .i64 0)]) w_77)))))
def F8_l4 (x2 x3 _x6 x10 x13 x14 : Value) (w : World) (j3 : List Value → World → Prop) (next4 : List Value → World → Prop) (_R : Value → World → Prop) (E : Pan) : Prop :=
 opK Try.prog E (xV (Instr.fieldAt 34 x13 0)) w fun t71_81 w_82 =>
 opK Try.prog E (xV (Instr.loadAt 3 t71_81)) w_82 fun t72_83 w_84 =>
 opK Try.prog E (xBin .eql 3 (.tmp 72) (.const (Value.int .i64 1)) t72_83 (Value.int .i64 1)) w_84 fun t73_85 w_86 =>
 xcond t73_85
 (opK Try.prog E (xCall (Value.func (.func 18) #[] #[]) [x10]) w_86 fun t76_87 w_88 =>
 opK Try.prog E (xV (Instr.extract t76_87 0)) w_88 fun t77_89 w_90 =>
 opK Try.prog E (xV (Instr.extract t76_87 1)) w_90 fun t78_91 w_92 =>
 opK Try.prog E (xV (Op.unary .not t78_91)) w_92 fun t80_93 w_94 =>
 opK Try.prog E (gsem (asB t80_93) false (xV (Instr.fieldAt 26 x3 5))) w_94 fun t82_95 w_96 =>
 opK Try.prog E (gsem (asB t80_93) false (xV (Instr.loadAt 24 t82_95))) w_96 fun t83_97 w_98 =>
 opK Try.prog E (gsem (asB t80_93) false (xV (Instr.indexAt 24 t83_97 (gval (asB t80_93) false t77_89)))) w_98 fun t85_99 w_100 =>
 opK Try.prog E (gsem (asB t80_93) false (xV (Instr.fieldAt 52 t85_99 2))) w_100 fun t86_101 w_102 =>
 opK Try.prog E (gsem (asB t80_93) false (xV (Instr.loadAt 3 t86_101))) w_102 fun t87_103 w_104 =>
 opK Try.prog E (gsem (asB t80_93) false (xBin .eql 3 (.tmp 87) (.const (Value.int .i64 9)) t87_103 (Value.int .i64 9))) w_104 fun t88_105 w_106 =>
 opK Try.prog E (gsem (asB (gval (asB t80_93) false t88_105)) true (xNil (gval (asB (gval (asB t80_93) false t88_105)) true x10))) w_106 fun t91_107 w_108 =>
 opK Try.prog E (gsem (asB (gval (asB t80_93) false t88_105)) true (xV (Instr.fieldAt 58 t91_107 5))) w_108 fun t92_109 w_110 =>
 opK Try.prog E (gsem (asB (gval (asB t80_93) false t88_105)) true (xV (Instr.loadAt 27 t92_109))) w_110 fun t93_111 w_112 =>
 opK Try.prog E (gsem (asB (gval (asB t80_93) false t88_105)) true (xBuiltin .len #[27] 3 [false] [t93_111])) w_112 fun t94_113 w_114 =>
 opK Try.prog E (gsem (asB (gval (asB t80_93) false t88_105)) true (xBin .eql 3 (.tmp 94) (.const (Value.int .i64 0)) t94_113 (Value.int .i64 0))) w_114 fun t95_115 w_116 =>
 opK Try.prog E (gsem (asB t80_93) false (xPick (gval (asB t80_93) false t88_105) t95_115 (Value.bool false))) w_116 fun t96_117 w_118 =>
 opK Try.prog E (xPick t80_93 (Value.bool true) t96_117) w_118 fun t97_119 w_120 =>
 xcond t97_119
 (opK Try.prog E (xV (Instr.fieldAt 34 x13 0)) w_120 fun t98_121 w_122 =>
 opK Try.prog E (xU (Instr.storeAt 3 t98_121 (Value.int .i64 2))) w_122 fun _z_123 w_124 =>
 j3 [] w_124)
 (opK Try.prog E (xV (Instr.fieldAt 34 x13 2)) w_120 fun t99_125 w_126 =>
 opK Try.prog E (xV (Instr.loadAt 3 t99_125)) w_126 fun t100_127 w_128 =>
 opK Try.prog E (xBin .eql 3 (.tmp 100) (.tmp 101) t100_127 x2) w_128 fun t102_129 w_130 =>
 xcond t102_129
 (j3 [] w_130)
 (opK Try.prog E (xV (Instr.fieldAt 34 x13 2)) w_130 fun t103_131 w_132 =>
 opK Try.prog E (xV (Instr.loadAt 3 t103_131)) w_132 fun t104_133 w_134 =>
 opK Try.prog E (xBin .add 3 (.tmp 104) (.const (Value.int .i64 1)) t104_133 (Value.int .i64 1)) w_134 fun t105_135 w_136 =>
 opK Try.prog E (xV (Instr.fieldAt 34 x13 2)) w_136 fun t106_137 w_138 =>
 opK Try.prog E (xU (Instr.storeAt 3 t106_137 t105_135)) w_138 fun _z_139 w_140 =>
 opK Try.prog E (xV (Instr.fieldAt 26 x3 5)) w_140 fun t107_141 w_142 =>
 opK Try.prog E (xV (Instr.loadAt 24 t107_141)) w_142 fun t108_143 w_144 =>
 opK Try.prog E (xV (Instr.indexAt 24 t108_143 t77_89)) w_144 fun t110_145 w_146 =>
 opK Try.prog E (xV (Instr.loadAt 52 t110_145)) w_146 fun t111_147 w_148 =>
 opK Try.prog E (xV (Instr.alloc 52 true (.tuple #[]))) w_148 fun t17_149 w_150 =>
 opK Try.prog E (xU (Instr.storeAt 52 t17_149 t111_147)) w_150 fun _z_151 w_152 =>
 dX w_152 fun w_153 =>
 qP Try.prog (xV (Instr.fieldAt 52 t17_149 2)) fun t112_154 =>
 qL Try.prog w_153 (blk t112_154) (xV (Instr.loadAt 3 t112_154)) fun t113_155 =>
 qP Try.prog (xV (Instr.indexAt 63 x14 t113_155)) fun t114_156 =>
 qL Try.prog w_153 (blk t114_156) (xV (Instr.loadAt 62 t114_156)) fun t115_157 =>
 qL Try.prog w_153 (blk t17_149) (xV (Instr.loadAt 52 t17_149)) fun t117_158 =>
 opK Try.prog E (xCall t115_157 [x10, t117_158]) w_153 fun t118_159 w_160 =>
 keepX [] w_153 w_160 (qP Try.prog (xV (Instr.fieldAt 34 x13 1)) fun t119_161 =>
 opK Try.prog E (xU (Instr.storeAt 3 t119_161 t118_159)) w_160 fun _z_162 w_163 =>
 keepX [] w_160 w_163 (opK Try.prog E (xV (Instr.fieldAt 34 x13 1)) w_163 fun t120_164 w_165 =>
 opK Try.prog E (xV (Instr.loadAt 3 t120_164)) w_165 fun t121_166 w_167 =>
 opK Try.prog E (xBin .neq 3 (.tmp 121) (.const (Value.int .i64 0)) t121_166 (Value.int .i64 0)) w_167 fun t122_168 w_169 =>
 xcond t122_168
 (opK Try.prog E (xV (Instr.fieldAt 34 x13 0)) w_169 fun t123_170 w_171 =>
 opK Try.prog E (xU (Instr.storeAt 3 t123_170 (Value.int .i64 3))) w_171 fun _z_172 w_173 =>
 j3 [] w_173)
 (opK Try.prog E (xV (Instr.fieldAt 52 t17_149 1)) w_169 fun t125_174 w_175 =>
 opK Try.prog E (xV (Instr.loadAt 3 t125_174)) w_175 fun t126_176 w_177 =>
 opK Try.prog E (xNil x10) w_177 fun t127_178 w_179 =>
 opK Try.prog E (xV (Instr.fieldAt 58 t127_178 2)) w_179 fun t128_180 w_181 =>
 opK Try.prog E (xU (Instr.storeAt 3 t128_180 t126_176)) w_181 fun _z_182 w_183 =>
 next4 [] w_183))))))
 (j3 [] w_86)
def F8_j2 (x2 x3 x6 x10 : Value) (w : World) (R : Value → World → Prop) (E : Pan) : Prop :=
 ∀ _τ : Fr, (opK Try.prog E (xV (Instr.build 34 #[(0, (Value.int .i64 1))])) w fun t69_33 w_34 =>
 opK Try.prog E (xV (Instr.alloc 34 true (.tuple #[]))) w_34 fun t13_35 w_36 =>
 opK Try.prog E (xU (Instr.storeAt 34 t13_35 t69_33)) w_36 fun _z_37 w_38 =>
 opK Try.prog E (xCall (Value.func (.func 17) #[] #[]) []) w_38 fun t70_39 w_40 =>
 opK Try.prog E (xV (Instr.alloc 63 true (.tuple #[]))) w_40 fun t14_41 w_42 =>
 opK Try.prog E (xU (Instr.storeAt 63 t14_41 t70_39)) w_42 fun _z_43 w_44 =>
 xcut (fun _ w_80 => F8_j3 x3 x6 x10 t13_35 w_80 R E) fun j3 =>
 xloop [] [] w_44 fun _ w_185 next4 =>
 F8_l4 x2 x3 x6 x10 t13_35 t14_41 w_185 j3 next4 R E)
def F8_l5 (_x2 _x3 _x6 x10 x50 x51 x52 : Value) (w : World) (next5 : List Value → World → Prop) (j2 : List Value → World → Prop) (_R : Value → World → Prop) (E : Pan) : Prop :=
 opK Try.prog E (xBin .lss 3 (.tmp 52) (.tmp 51) x52 x51) w fun t53_194 w_195 =>
 xcond t53_194
 (opK Try.prog E (xV (Instr.indexAt 23 x50 x52)) w_195 fun t54_196 w_197 =>
 opK Try.prog E (xV (Instr.loadAt 60 t54_196)) w_197 fun t55_198 w_199 =>
 opK Try.prog E (xV (Instr.alloc 60 true (.tuple #[]))) w_199 fun t12_200 w_201 =>
 opK Try.prog E (xU (Instr.storeAt 60 t12_200 t55_198)) w_201 fun _z_202 w_203 =>
 dX w_203 fun w_204 =>
 qP Try.prog (xNil x10) fun t58_205 =>
 qP Try.prog (xV (Instr.fieldAt 58 t58_205 4)) fun t59_206 =>
 qP Try.prog (xV (Instr.fieldAt 60 t12_200 1)) fun t61_207 =>
 qL Try.prog w_204 (blk t59_206) (xV (Instr.loadAt 32 t59_206)) fun t60_208 =>
 qL Try.prog w_204 (blk t61_207) (xV (Instr.loadAt 3 t61_207)) fun t62_209 =>
 opK Try.prog E (xV (Instr.makeSlice 27 t62_209 t62_209)) w_204 fun t63_210 w_211 =>
 keepX [(blk t59_206)] w_204 w_211 (opK Try.prog E (xV (Instr.buildSlice 32 1 #[(0, t63_210)])) w_211 fun t64_212 w_213 =>
 keepX [(blk t59_206)] w_211 w_213 (opK Try.prog E (xBuiltin .append #[32, 32] 32 [false, false] [t60_208, t64_212]) w_213 fun t65_214 w_215 =>
 keepX [] w_213 w_215 (qP Try.prog (xNil x10) fun t66_216 =>
 qP Try.prog (xV (Instr.fieldAt 58 t66_216 4)) fun t67_217 =>
 opK Try.prog E (xU (Instr.storeAt 32 t67_217 t65_214)) w_215 fun _z_218 w_219 =>
 keepX [] w_215 w_219 (opK Try.prog E (xBin .add 3 (.tmp 52) (.const (Value.int .i64 1)) x52 (Value.int .i64 1)) w_219 fun t68_220 w_221 =>
 next5 [t68_220] w_221)))))
 (j2 [] w_195)
def F8_j1 (x2 x3 x6 x10 : Value) (w : World) (R : Value → World → Prop) (E : Pan) : Prop :=
 ∀ _τ : Fr, (xcut (fun _ w_187 => F8_j2 x2 x3 x6 x10 w_187 R E) fun j2 =>
 opK Try.prog E (xV (Instr.fieldAt 26 x3 2)) w fun t49_188 w_189 =>
 opK Try.prog E (xV (Instr.loadAt 23 t49_188)) w_189 fun t50_190 w_191 =>
 opK Try.prog E (xBuiltin .len #[23] 3 [false] [t50_190]) w_191 fun t51_192 w_193 =>
 xloop [52] [(Value.int .i64 0)] w_193 fun τ_222 w_223 next5 =>
 F8_l5 x2 x3 x6 x10 t50_190 t51_192 (τ_222 52) w_223 next5 j2 R E)
def F8 (x0 x1 x2 : Value) (w : World) (R : Value → World → Prop) (E : Pan) : Prop :=
 opK Try.prog E (xV (Instr.box 26 x0)) w fun t3_1 w_2 =>
 opK Try.prog E (xV (Instr.alloc 34 true (.tuple #[]))) w_2 fun t6_3 w_4 =>
 opK Try.prog E (xV (Instr.loadAt 26 t3_1)) w_4 fun t18_5 w_6 =>
 opK Try.prog E (xCall (Value.func (.func 15) #[] #[]) [t18_5]) w_6 fun t19_7 w_8 =>
 opK Try.prog E (xBin .neq 35 (.tmp 20) (.const (Value.int .i64 0)) t19_7 (Value.int .i64 0)) w_8 fun t21_9 w_10 =>
 xcond t21_9
 (opK Try.prog E (xV (Instr.build 34 #[])) w_10 fun t22_11 w_12 =>
 opK Try.prog E (xU (Instr.storeAt 34 t6_3 t22_11)) w_12 fun _z_13 w_14 =>
 xcell Try.prog 34 t6_3 w_14 fun r_15 =>
 R (Value.tuple #[r_15, (Value.int .i64 0), t19_7]) w_14)
 (opK Try.prog E (xBin .lss 3 (.tmp 24) (.const (Value.int .i64 0)) x2 (Value.int .i64 0)) w_10 fun t25_16 w_17 =>
 opK Try.prog E (gsem (asB t25_16) false (xBin .gtr 3 (.tmp 27) (.const (Value.int .i64 65536)) (gval (asB t25_16) false x2) (Value.int .i64 65536))) w_17 fun t28_18 w_19 =>
 opK Try.prog E (xPick t25_16 (Value.bool true) t28_18) w_19 fun t29_20 w_21 =>
 opK Try.prog E (gsem (asB t29_20) false (xBuiltin .len #[27] 3 [false] [(gval (asB t29_20) false x1)])) w_21 fun t32_22 w_23 =>
 opK Try.prog E (gsem (asB t29_20) false (xBin .gtr 3 (.tmp 32) (.const (Value.int .i64 65536)) t32_22 (Value.int .i64 65536))) w_23 fun t33_24 w_25 =>
 opK Try.prog E (xPick t29_20 (Value.bool true) t33_24) w_25 fun t34_26 w_27 =>
 xcond t34_26
 (opK Try.prog E (xV (Instr.build 34 #[])) w_27 fun t35_28 w_29 =>
 opK Try.prog E (xU (Instr.storeAt 34 t6_3 t35_28)) w_29 fun _z_30 w_31 =>
 xcell Try.prog 34 t6_3 w_31 fun r_32 =>
 R (Value.tuple #[r_32, (Value.int .i64 0), (Value.int .i64 80)]) w_31)
 (xcut (fun l_224 w_225 => F8_j1 x2 t3_1 t6_3 (nth l_224 0) w_225 R E) fun j1 =>
 dX w_27 fun w_226 =>
 qP Try.prog (xV (Instr.fieldAt 26 t3_1 0)) fun t39_227 =>
 qP Try.prog (xV (Instr.fieldAt 26 t3_1 1)) fun t42_228 =>
 qL Try.prog w_226 (blk t3_1) (xV (Instr.loadAt 26 t3_1)) fun t36_229 =>
 qL Try.prog w_226 (blk t3_1) (xV (Instr.loadAt 26 t3_1)) fun t37_230 =>
 qL Try.prog w_226 (blk t39_227) (xV (Instr.loadAt 22 t39_227)) fun t40_231 =>
 qP Try.prog (xBuiltin .len #[22] 3 [false] [t40_231]) fun t41_232 =>
 qL Try.prog w_226 (blk t42_228) (xV (Instr.loadAt 3 t42_228)) fun t43_233 =>
 qP Try.prog (xBin .add 3 (.tmp 41) (.tmp 43) t41_232 t43_233) fun t44_234 =>
 (opK Try.prog E (xCall (Value.func (.func 16) #[] #[]) [t37_230]) w_226 fun t38_235 w_236 =>
 keepX [(blk t42_228), (blk t39_227), (blk t3_1)] w_226 w_236 (opK Try.prog E (xV (Instr.makeSlice 27 t44_234 t44_234)) w_236 fun t45_237 w_238 =>
 keepX [(blk t3_1), (blk t3_1)] w_236 w_238 (qP Try.prog (xV (Instr.build 58 #[(0, t36_229), (1, t38_235), (3, t45_237), (5, x1)])) fun t47_239 =>
 opK Try.prog E (xV (Instr.box 58 t47_239)) w_238 fun t48_240 w_241 =>
 keepX [] w_238 w_241 (j1 [t48_240] w_241)))) ∧
 (opK Try.prog E (xV (Instr.makeSlice 27 t44_234 t44_234)) w_226 fun t45_242 w_243 =>
 keepX [(blk t3_1), (blk t3_1)] w_226 w_243 (opK Try.prog E (xCall (Value.func (.func 16) #[] #[]) [t37_230]) w_243 fun t38_244 w_245 =>
 keepX [(blk t42_228), (blk t39_227), (blk t3_1)] w_243 w_245 (qP Try.prog (xV (Instr.build 58 #[(0, t36_229), (1, t38_244), (3, t45_242), (5, x1)])) fun t47_246 =>
 opK Try.prog E (xV (Instr.box 58 t47_246)) w_245 fun t48_247 w_248 =>
 keepX [] w_245 w_248 (j1 [t48_247] w_248))))))
noncomputable def c8 : Code := Try.f8.body.getD .skip
def h8 : Hint := (.seq .none (.seq (.seq .none (.seq .none (.cond (.seq .none .none) .none))) (.seq (.seq .none (.cond (.seq .none .none) .none)) (.cut [10] (.reg [(0, 68719476736, 8), (0, 137438953472, 8), (2, 274877906944, 137438953472), (0, 549755813888, 8), (8, 1099511627776, 549755813888), (16, 2199023255552, 1099511627776), (0, 4398046511104, 8), (64, 8796093022208, 4398046511104), (160, 17592186044416, 10995116277760), (256, 35184372088832, 17592186044416), (0, 70368744177664, 2), (1541, 140737488355328, 105896713650176), (2048, 281474976710656, 140737488355328), (8191, 1024, 281474976710656)] [146, 145, 145, 147, 131, 147, 147, 19, 147, 3, 147, 147, 0, 147] (.early 3 (.early 6 (.early 10 (.load 0 (.load 1 (.load 4 (.early 5 (.load 7 (.early 8 (.alt 2 (.step 9 (.early 11 (.step 12 (.early 13 .done)))) (.step 9 (.step 2 (.early 11 (.step 12 (.early 13 .done)))))))))))))))) (.cut [] (.seq .none (.block (.loop [52] (.seq .none (.seq (.cond .none .none) (.seq (.block (.seq .none (.reg [(0, 72057594037927936, 1024), (0, 144115188075855872, 1024), (2, 288230376151711744, 144115188075855872), (4, 576460752303423488, 288230376151711744), (8, 1152921504606846976, 576460752303423488), (0, 2305843009213693952, 4096), (32, 4611686018427387904, 2305843009213693952), (64, 9223372036854775808, 4611686018427387904), (128, 18446744073709551616, 9223372036854775808), (272, 36893488147419103232, 19599665578316398592), (1023, 73786976294838206464, 72057594037927936), (2047, 147573952589676412928, 73786976294838206464), (3071, 0, 184467440737095516160)] [80, 80, 80, 80, 64, 80, 16, 16, 16, 0, 80, 80, 0] (.early 0 (.early 1 (.early 2 (.early 3 (.early 5 (.load 4 (.load 6 (.step 7 (.step 8 (.step 9 (.early 10 (.early 11 (.step 12 .done)))))))))))))))) .none)))))) (.seq .none (.seq .none (.cut [] (.block (.loop [] (.seq (.seq .none (.cond .none .none)) (.block (.seq .none (.seq (.seq .none (.cond (.seq .none .none) .none)) (.seq (.seq .none (.cond .none .none)) (.seq .none (.seq .none (.seq (.seq (.reg [(0, 5192296858534827628530496329220096, 131072), (1, 10384593717069655257060992658440192, 5192296858534827628530496329220096), (2, 20769187434139310514121985316880384, 10384593717069655257060992658456576), (4, 41538374868278621028243970633760768, 20769187434139310514121985316880384), (0, 83076749736557242056487941267521536, 1024), (0, 166153499473114484112975882535043072, 131072), (56, 332306998946228968225951765070086144, 290768624077950347197707794436325376), (127, 664613997892457936451903530140172288, 8192), (255, 0, 996920996838686904677855295210258432)] [42, 40, 42, 34, 42, 10, 0, 42, 0] (.early 0 (.early 4 (.load 1 (.early 2 (.load 3 (.load 5 (.step 6 (.early 7 (.step 8 .done)))))))))) (.seq .none (.cond (.seq .none .none) .none))) .none)))))))))) (.seq (.reg [(0, 680564733841876926926749214863536422912, 1024), (1, 1361129467683753853853498429727072845824, 680564733841876926926749214863536422912), (2, 2722258935367507707706996859454145691648, 1361129467683753853853498429727072845824), (4, 5444517870735015415413993718908291383296, 2722258935367507707706996859454145691648), (0, 10889035741470030830827987437816582766592, 1024), (16, 21778071482940061661655974875633165533184, 10889035741470030830827987437816582766592), (32, 43556142965880123323311949751266331066368, 21778071482940061661655974875633165533184), (64, 87112285931760246646623899502532662132736, 43556142965880123323311949751266331066368), (0, 174224571863520493293247799005065324265472, 8), (256, 348449143727040986586495598010130648530944, 174224571863520493293247799005065324265472), (512, 696898287454081973172991196020261297061888, 348449143727040986586495598010130648530944), (0, 1393796574908163946345982392040522594123776, 8), (2048, 2787593149816327892691964784081045188247552, 1393796574908163946345982392040522594123776), (4096, 5575186299632655785383929568162090376495104, 2787593149816327892691964784081045188247552), (9344, 11150372599265311570767859136324180752990208, 6359196873018498005203544663684884335689728), (0, 22300745198530623141535718272648361505980416, 1024), (32768, 44601490397061246283071436545296723011960832, 22300745198530623141535718272648361505980416), (65536, 89202980794122492566142873090593446023921664, 44601490397061246283071436545296723011960832), (131072, 178405961588244985132285746181186892047843328, 89202980794122492566142873090593446023921664), (15, 356811923176489970264571492362373784095686656, 8192), (524303, 0, 356817367694360705279986906356092692387069952), (1605631, 713623846352979940529142984724747568191373312, 8192), (3702783, 0, 724774218952245252099910843861071748944363520), (8388607, 1427247692705959881058285969449495136382746624, 8192), (16777215, 0, 1605653654294204866190571715630682028430589952)] [266888, 266888, 266888, 266880, 266888, 266888, 266888, 266760, 266888, 266376, 266888, 266888, 262792, 266888, 266888, 266888, 266888, 266888, 4744, 266888, 266880, 266888, 262144, 266888, 0] (.early 0 (.early 1 (.early 2 (.early 4 (.early 5 (.early 6 (.early 8 (.early 11 (.early 15 (.early 16 (.early 17 (.load 3 (.early 19 (.load 7 (.load 9 (.early 10 (.load 12 (.early 13 (.early 14 (.load 18 (.step 20 (.early 21 (.step 22 (.early 23 (.step 24 .done)))))))))))))))))))))))))) (.seq (.reg [(0, 2854495385411919762116571938898990272765493248, 8192), (0, 5708990770823839524233143877797980545530986496, 1024), (2, 11417981541647679048466287755595961091061972992, 5708990770823839524233143877797980545530986496), (4, 22835963083295358096932575511191922182123945984, 11417981541647679048466287755595961091061972992), (8, 45671926166590716193865151022383844364247891968, 22835963083295358096932575511191922182123945984), (1, 0, 2854495385411919762116571938898990272765493312), (63, 128, 45671926166590716193865151022383844364247891968), (127, 256, 0)] [16, 17, 17, 17, 1, 16, 17, 17] (.early 1 (.early 2 (.early 3 (.load 0 (.load 4 (.step 5 (.early 6 (.early 7 .done))))))))) .none))))))))))
theorem F8_eq (x0 x1 x2 : Value) (w : World) (R : Value → World → Prop) (E : Pan) : F8 x0 x1 x2 w R E = callX Try.prog [.cell 6 34, .tmp 7, .tmp 8] c8 h8 [x0, x1, x2] w R E := by kernel_rfl
theorem F8_ok {x0 x1 x2 : Value} {w : World} {R : Value → World → Prop} {E : Pan} (h : F8 x0 x1 x2 w R E) : Cv Try.prog 8 #[x0, x1, x2] w R E := by
 refine callX_sound (args := [x0, x1, x2]) (c := c8) (h := h8) (rs := [.cell 6 34, .tmp 7, .tmp 8]) Try.func8 (by kernel_rfl) (by kernel_rfl) (Nat.le_of_ble_eq_true (by kernel_rfl)) (by kernel_rfl) (by kernel_rfl) (by kernel_rfl) ?_
 rw [← F8_eq]
 exact h

/- function 12: gnomon/gnomonhelp.Longs -/
def F12_j1 (w : World) (R : Value → World → Prop) (_E : Pan) : Prop :=
 ∀ _τ : Fr, (R (Value.bool true) w)
def F12_l2 (x0 x1 x5 : Value) (w : World) (next2 : List Value → World → Prop) (j1 : List Value → World → Prop) (R : Value → World → Prop) (E : Pan) : Prop :=
 opK Try.prog E (xBuiltin .len #[27] 3 [false] [x0]) w fun t13_9 w_10 =>
 opK Try.prog E (xBin .lss 3 (.tmp 11) (.tmp 13) x5 t13_9) w_10 fun t14_11 w_12 =>
 xcond t14_11
 (dX w_12 fun w_13 =>
 qP Try.prog (xV (Instr.indexAt 27 x0 x5)) fun t19_14 =>
 qP Try.prog (xV (Instr.indexAt 27 x1 x5)) fun t23_15 =>
 qL Try.prog w_13 (blk t19_14) (xV (Instr.loadAt 2 t19_14)) fun t20_16 =>
 qL Try.prog w_13 (blk t23_15) (xV (Instr.loadAt 2 t23_15)) fun t24_17 =>
 qP Try.prog (xBin .neq 2 (.tmp 20) (.tmp 24) t20_16 t24_17) fun t25_18 =>
 xcond t25_18
 (R (Value.bool false) w_13)
 (opK Try.prog E (xBin .add 3 (.tmp 15) (.const (Value.int .i64 1)) x5 (Value.int .i64 1)) w_13 fun t16_19 w_20 =>
 next2 [t16_19] w_20))
 (j1 [] w_12)
def F12 (x0 x1 : Value) (w : World) (R : Value → World → Prop) (E : Pan) : Prop :=
 opK Try.prog E (xBuiltin .len #[27] 3 [false] [x0]) w fun t7_1 w_2 =>
 opK Try.prog E (xBuiltin .len #[27] 3 [false] [x1]) w_2 fun t9_3 w_4 =>
 opK Try.prog E (xBin .neq 3 (.tmp 7) (.tmp 9) t7_1 t9_3) w_4 fun t10_5 w_6 =>
 xcond t10_5
 (R (Value.bool false) w_6)
 (xcut (fun _ w_8 => F12_j1 w_8 R E) fun j1 =>
 xloop [5] [(Value.int .i64 0)] w_6 fun τ_21 w_22 next2 =>
 F12_l2 x0 x1 (τ_21 5) w_22 next2 j1 R E)
noncomputable def c12 : Code := Try.f12.body.getD .skip
def h12 : Hint := (.seq .none (.seq (.seq .none (.cond (.seq .none .none) .none)) (.cut [] (.seq .none (.block (.loop [5] (.seq (.seq .none (.cond .none .none)) (.seq (.block (.seq (.reg [(0, 131072, 1), (0, 262144, 32), (3, 524288, 393216), (4, 1048576, 524288), (0, 2097152, 2), (0, 4194304, 32), (48, 8388608, 6291456), (64, 16777216, 8388608), (136, 33554432, 17825792)] [136, 136, 136, 128, 136, 136, 136, 8, 136] (.early 0 (.early 1 (.early 2 (.early 4 (.early 5 (.early 6 (.load 3 (.load 7 (.early 8 .done)))))))))) (.cond (.seq .none .none) .none))) .none))))) (.seq .none .none))))
theorem F12_eq (x0 x1 : Value) (w : World) (R : Value → World → Prop) (E : Pan) : F12 x0 x1 w R E = callX Try.prog [.tmp 4] c12 h12 [x0, x1] w R E := by kernel_rfl
theorem F12_ok {x0 x1 : Value} {w : World} {R : Value → World → Prop} {E : Pan} (h : F12 x0 x1 w R E) : Cv Try.prog 12 #[x0, x1] w R E := by
 refine callX_sound (args := [x0, x1]) (c := c12) (h := h12) (rs := [.tmp 4]) Try.func12 (by kernel_rfl) (by kernel_rfl) (Nat.le_of_ble_eq_true (by kernel_rfl)) (by kernel_rfl) (by kernel_rfl) (by kernel_rfl) ?_
 rw [← F12_eq]
 exact h

/- function 15: gnomon/cfg.Check -/
def F15_j3 (w : World) (R : Value → World → Prop) (_E : Pan) : Prop :=
 ∀ _τ : Fr, (R (Value.int .i64 0) w)
def F15_l4 (x6 x99 x100 : Value) (w : World) (next4 : List Value → World → Prop) (j3 : List Value → World → Prop) (R : Value → World → Prop) (E : Pan) : Prop :=
 opK Try.prog E (xBin .lss 3 (.tmp 100) (.tmp 99) x100 x99) w fun t101_95 w_96 =>
 xcond t101_95
 (opK Try.prog E (xV (Instr.indexAt 83 x6 x100)) w_96 fun t105_97 w_98 =>
 opK Try.prog E (xV (Instr.loadAt 24 t105_97)) w_98 fun t106_99 w_100 =>
 opK Try.prog E (xCall (Value.func (.func 29) #[] #[]) [t106_99]) w_100 fun t107_101 w_102 =>
 opK Try.prog E (xV (Op.unary .not t107_101)) w_102 fun t108_103 w_104 =>
 xcond t108_103
 (R (Value.int .i64 92) w_104)
 (opK Try.prog E (xBin .add 3 (.tmp 100) (.const (Value.int .i64 1)) x100 (Value.int .i64 1)) w_104 fun t109_105 w_106 =>
 next4 [t109_105] w_106))
 (j3 [] w_96)
def F15_j2 (x1 x6 : Value) (w : World) (R : Value → World → Prop) (E : Pan) : Prop :=
 ∀ _τ : Fr, (xcut (fun _ w_90 => F15_j3 w_90 R E) fun j3 =>
 opK Try.prog E (xV (Instr.fieldAt 26 x1 3)) w fun t98_91 w_92 =>
 opK Try.prog E (xV (Instr.loadAt 3 t98_91)) w_92 fun t99_93 w_94 =>
 xloop [100] [(Value.int .i64 0)] w_94 fun τ_107 w_108 next4 =>
 F15_l4 x6 t99_93 (τ_107 100) w_108 next4 j3 R E)
def F15_l5 (_x1 x5 x6 x75 x76 x77 : Value) (w : World) (next5 : List Value → World → Prop) (j2 : List Value → World → Prop) (R : Value → World → Prop) (E : Pan) : Prop :=
 opK Try.prog E (xBin .lss 3 (.tmp 77) (.tmp 76) x77 x76) w fun t78_117 w_118 =>
 xcond t78_117
 (opK Try.prog E (xV (Instr.indexAt 24 x75 x77)) w_118 fun t79_119 w_120 =>
 opK Try.prog E (xV (Instr.loadAt 52 t79_119)) w_120 fun t80_121 w_122 =>
 opK Try.prog E (xV (Instr.alloc 52 true (.tuple #[]))) w_122 fun t8_123 w_124 =>
 opK Try.prog E (xU (Instr.storeAt 52 t8_123 t80_121)) w_124 fun _z_125 w_126 =>
 opK Try.prog E (xV (Instr.loadAt 81 x5)) w_126 fun t81_127 w_128 =>
 opK Try.prog E (xV (Instr.loadAt 52 t8_123)) w_128 fun t82_129 w_130 =>
 opK Try.prog E (xCall (Value.func (.func 28) #[] #[]) [t81_127, t82_129]) w_130 fun t83_131 w_132 =>
 opK Try.prog E (xV (Op.unary .not t83_131)) w_132 fun t84_133 w_134 =>
 xcond t84_133
 (R (Value.int .i64 92) w_134)
 (dX w_134 fun w_135 =>
 qP Try.prog (xV (Instr.fieldAt 52 t8_123 0)) fun t86_136 =>
 qP Try.prog (xV (Instr.fieldAt 52 t8_123 0)) fun t89_137 =>
 qL Try.prog w_135 (blk t86_136) (xV (Instr.loadAt 3 t86_136)) fun t87_138 =>
 qL Try.prog w_135 (blk t89_137) (xV (Instr.loadAt 3 t89_137)) fun t90_139 =>
 qP Try.prog (xV (Instr.indexAt 83 x6 t90_139)) fun t91_140 =>
 qL Try.prog w_135 (blk t91_140) (xV (Instr.loadAt 24 t91_140)) fun t92_141 =>
 qL Try.prog w_135 (blk t8_123) (xV (Instr.loadAt 52 t8_123)) fun t93_142 =>
 opK Try.prog E (xV (Instr.buildSlice 24 1 #[(0, t93_142)])) w_135 fun t94_143 w_144 =>
 keepX [(blk t91_140), (blk t89_137), (blk t86_136)] w_135 w_144 (opK Try.prog E (xBuiltin .append #[24, 24] 24 [false, false] [t92_141, t94_143]) w_144 fun t95_145 w_146 =>
 keepX [(blk t86_136)] w_144 w_146 (qP Try.prog (xV (Instr.indexAt 83 x6 t87_138)) fun t96_147 =>
 opK Try.prog E (xU (Instr.storeAt 24 t96_147 t95_145)) w_146 fun _z_148 w_149 =>
 keepX [] w_146 w_149 (opK Try.prog E (xBin .add 3 (.tmp 77) (.const (Value.int .i64 1)) x77 (Value.int .i64 1)) w_149 fun t97_150 w_151 =>
 next5 [t97_150] w_151)))))
 (j2 [] w_118)
def F15_j1 (x1 : Value) (w : World) (R : Value → World → Prop) (E : Pan) : Prop :=
 ∀ _τ : Fr, (opK Try.prog E (xV (Instr.loadAt 26 x1)) w fun t64_65 w_66 =>
 opK Try.prog E (xV (Instr.build 81 #[(0, t64_65)])) w_66 fun t65_67 w_68 =>
 opK Try.prog E (xV (Instr.alloc 81 true (.tuple #[]))) w_68 fun t5_69 w_70 =>
 opK Try.prog E (xU (Instr.storeAt 81 t5_69 t65_67)) w_70 fun _z_71 w_72 =>
 opK Try.prog E (xV (Instr.loadAt 81 t5_69)) w_72 fun t66_73 w_74 =>
 opK Try.prog E (xV (Instr.fieldAt 26 x1 4)) w_74 fun t67_75 w_76 =>
 opK Try.prog E (xV (Instr.loadAt 3 t67_75)) w_76 fun t68_77 w_78 =>
 opK Try.prog E (xCall (Value.func (.func 27) #[] #[]) [t66_73, t68_77]) w_78 fun t69_79 w_80 =>
 opK Try.prog E (xV (Op.unary .not t69_79)) w_80 fun t70_81 w_82 =>
 xcond t70_81
 (R (Value.int .i64 92) w_82)
 (opK Try.prog E (xV (Instr.fieldAt 26 x1 3)) w_82 fun t71_83 w_84 =>
 opK Try.prog E (xV (Instr.loadAt 3 t71_83)) w_84 fun t72_85 w_86 =>
 opK Try.prog E (xV (Instr.makeSlice 83 t72_85 t72_85)) w_86 fun t73_87 w_88 =>
 xcut (fun _ w_110 => F15_j2 x1 t73_87 w_110 R E) fun j2 =>
 opK Try.prog E (xV (Instr.fieldAt 26 x1 5)) w_88 fun t74_111 w_112 =>
 opK Try.prog E (xV (Instr.loadAt 24 t74_111)) w_112 fun t75_113 w_114 =>
 opK Try.prog E (xBuiltin .len #[24] 3 [false] [t75_113]) w_114 fun t76_115 w_116 =>
 xloop [77] [(Value.int .i64 0)] w_116 fun τ_152 w_153 next5 =>
 F15_l5 x1 t5_69 t73_87 t75_113 t76_115 (τ_152 77) w_153 next5 j2 R E))
def F15_l6 (_x1 x49 x50 x51 : Value) (w : World) (next6 : List Value → World → Prop) (j1 : List Value → World → Prop) (R : Value → World → Prop) (E : Pan) : Prop :=
 opK Try.prog E (xBin .lss 3 (.tmp 51) (.tmp 50) x51 x50) w fun t52_162 w_163 =>
 xcond t52_162
 (opK Try.prog E (xV (Instr.indexAt 23 x49 x51)) w_163 fun t53_164 w_165 =>
 opK Try.prog E (xV (Instr.loadAt 60 t53_164)) w_165 fun t54_166 w_167 =>
 opK Try.prog E (xV (Instr.alloc 60 true (.tuple #[]))) w_167 fun t4_168 w_169 =>
 opK Try.prog E (xU (Instr.storeAt 60 t4_168 t54_166)) w_169 fun _z_170 w_171 =>
 opK Try.prog E (xV (Instr.fieldAt 60 t4_168 1)) w_171 fun t55_172 w_173 =>
 opK Try.prog E (xV (Instr.loadAt 3 t55_172)) w_173 fun t56_174 w_175 =>
 opK Try.prog E (xBin .lss 3 (.tmp 56) (.const (Value.int .i64 1)) t56_174 (Value.int .i64 1)) w_175 fun t57_176 w_177 =>
 opK Try.prog E (gsem (asB t57_176) false (xV (Instr.fieldAt 60 t4_168 1))) w_177 fun t59_178 w_179 =>
 opK Try.prog E (gsem (asB t57_176) false (xV (Instr.loadAt 3 t59_178))) w_179 fun t60_180 w_181 =>
 opK Try.prog E (gsem (asB t57_176) false (xBin .gtr 3 (.tmp 60) (.const (Value.int .i64 1024)) t60_180 (Value.int .i64 1024))) w_181 fun t61_182 w_183 =>
 opK Try.prog E (xPick t57_176 (Value.bool true) t61_182) w_183 fun t62_184 w_185 =>
 xcond t62_184
 (R (Value.int .i64 92) w_185)
 (opK Try.prog E (xBin .add 3 (.tmp 51) (.const (Value.int .i64 1)) x51 (Value.int .i64 1)) w_185 fun t63_186 w_187 =>
 next6 [t63_186] w_187))
 (j1 [] w_163)
def F15 (x0 : Value) (w : World) (R : Value → World → Prop) (E : Pan) : Prop :=
 opK Try.prog E (xV (Instr.box 26 x0)) w fun t1_1 w_2 =>
 opK Try.prog E (xV (Instr.fieldAt 26 t1_1 1)) w_2 fun t11_3 w_4 =>
 opK Try.prog E (xV (Instr.loadAt 3 t11_3)) w_4 fun t12_5 w_6 =>
 opK Try.prog E (xBin .lss 3 (.tmp 12) (.const (Value.int .i64 0)) t12_5 (Value.int .i64 0)) w_6 fun t13_7 w_8 =>
 opK Try.prog E (gsem (asB t13_7) false (xV (Instr.fieldAt 26 t1_1 1))) w_8 fun t15_9 w_10 =>
 opK Try.prog E (gsem (asB t13_7) false (xV (Instr.loadAt 3 t15_9))) w_10 fun t16_11 w_12 =>
 opK Try.prog E (gsem (asB t13_7) false (xBin .gtr 3 (.tmp 16) (.const (Value.int .i64 64)) t16_11 (Value.int .i64 64))) w_12 fun t17_13 w_14 =>
 opK Try.prog E (xPick t13_7 (Value.bool true) t17_13) w_14 fun t18_15 w_16 =>
 opK Try.prog E (gsem (asB t18_15) false (xV (Instr.fieldAt 26 t1_1 0))) w_16 fun t20_17 w_18 =>
 opK Try.prog E (gsem (asB t18_15) false (xV (Instr.loadAt 22 t20_17))) w_18 fun t21_19 w_20 =>
 opK Try.prog E (gsem (asB t18_15) false (xBuiltin .len #[22] 3 [false] [t21_19])) w_20 fun t22_21 w_22 =>
 opK Try.prog E (gsem (asB t18_15) false (xV (Instr.fieldAt 26 t1_1 1))) w_22 fun t23_23 w_24 =>
 opK Try.prog E (gsem (asB t18_15) false (xV (Instr.loadAt 3 t23_23))) w_24 fun t24_25 w_26 =>
 opK Try.prog E (gsem (asB t18_15) false (xBin .add 3 (.tmp 22) (.tmp 24) t22_21 t24_25)) w_26 fun t25_27 w_28 =>
 opK Try.prog E (gsem (asB t18_15) false (xBin .gtr 3 (.tmp 25) (.const (Value.int .i64 64)) t25_27 (Value.int .i64 64))) w_28 fun t26_29 w_30 =>
 opK Try.prog E (xPick t18_15 (Value.bool true) t26_29) w_30 fun t27_31 w_32 =>
 xcond t27_31
 (R (Value.int .i64 90) w_32)
 (opK Try.prog E (xV (Instr.fieldAt 26 t1_1 3)) w_32 fun t29_33 w_34 =>
 opK Try.prog E (xV (Instr.loadAt 3 t29_33)) w_34 fun t30_35 w_36 =>
 opK Try.prog E (xBin .lss 3 (.tmp 30) (.const (Value.int .i64 1)) t30_35 (Value.int .i64 1)) w_36 fun t31_37 w_38 =>
 opK Try.prog E (gsem (asB t31_37) false (xV (Instr.fieldAt 26 t1_1 3))) w_38 fun t33_39 w_40 =>
 opK Try.prog E (gsem (asB t31_37) false (xV (Instr.loadAt 3 t33_39))) w_40 fun t34_41 w_42 =>
 opK Try.prog E (gsem (asB t31_37) false (xBin .gtr 3 (.tmp 34) (.const (Value.int .i64 4096)) t34_41 (Value.int .i64 4096))) w_42 fun t35_43 w_44 =>
 opK Try.prog E (xPick t31_37 (Value.bool true) t35_43) w_44 fun t36_45 w_46 =>
 opK Try.prog E (gsem (asB t36_45) false (xV (Instr.fieldAt 26 t1_1 5))) w_46 fun t38_47 w_48 =>
 opK Try.prog E (gsem (asB t36_45) false (xV (Instr.loadAt 24 t38_47))) w_48 fun t39_49 w_50 =>
 opK Try.prog E (gsem (asB t36_45) false (xBuiltin .len #[24] 3 [false] [t39_49])) w_50 fun t40_51 w_52 =>
 opK Try.prog E (gsem (asB t36_45) false (xBin .gtr 3 (.tmp 40) (.const (Value.int .i64 8192)) t40_51 (Value.int .i64 8192))) w_52 fun t41_53 w_54 =>
 opK Try.prog E (xPick t36_45 (Value.bool true) t41_53) w_54 fun t42_55 w_56 =>
 xcond t42_55
 (R (Value.int .i64 91) w_56)
 (opK Try.prog E (xV (Instr.fieldAt 26 t1_1 2)) w_56 fun t44_57 w_58 =>
 opK Try.prog E (xV (Instr.loadAt 23 t44_57)) w_58 fun t45_59 w_60 =>
 opK Try.prog E (xBuiltin .len #[23] 3 [false] [t45_59]) w_60 fun t46_61 w_62 =>
 opK Try.prog E (xBin .gtr 3 (.tmp 46) (.const (Value.int .i64 16)) t46_61 (Value.int .i64 16)) w_62 fun t47_63 w_64 =>
 xcond t47_63
 (R (Value.int .i64 92) w_64)
 (xcut (fun _ w_155 => F15_j1 t1_1 w_155 R E) fun j1 =>
 opK Try.prog E (xV (Instr.fieldAt 26 t1_1 2)) w_64 fun t48_156 w_157 =>
 opK Try.prog E (xV (Instr.loadAt 23 t48_156)) w_157 fun t49_158 w_159 =>
 opK Try.prog E (xBuiltin .len #[23] 3 [false] [t49_158]) w_159 fun t50_160 w_161 =>
 xloop [51] [(Value.int .i64 0)] w_161 fun τ_188 w_189 next6 =>
 F15_l6 t1_1 t49_158 t50_160 (τ_188 51) w_189 next6 j1 R E)))
noncomputable def c15 : Code := Try.f15.body.getD .skip
def h15 : Hint := (.seq .none (.seq (.block (.seq .none (.cond (.seq .none .none) (.seq .none (.cond (.seq .none .none) (.seq .none (.cond (.seq .none .none) .none))))))) (.cut [] (.seq .none (.block (.loop [51] (.seq .none (.seq (.cond .none .none) (.seq (.block (.seq .none (.seq .none (.cond (.seq .none .none) .none)))) .none)))))) (.seq .none (.seq (.seq .none (.cond (.seq .none .none) .none)) (.seq .none (.cut [] (.seq .none (.block (.loop [77] (.seq .none (.seq (.cond .none .none) (.seq (.block (.seq .none (.seq (.seq .none (.cond (.seq .none .none) .none)) (.reg [(0, 38685626227668133590597632, 64), (0, 77371252455336267181195264, 256), (2, 154742504910672534362390528, 77371252455336267181195264), (0, 309485009821345068724781056, 64), (0, 618970019642690137449562112, 256), (16, 1237940039285380274899124224, 618970019642690137449562112), (40, 2475880078570760549798248448, 1547425049106725343623905280), (64, 4951760157141521099596496896, 2475880078570760549798248448), (0, 9903520314283042199192993792, 256), (256, 19807040628566084398385987584, 9903520314283042199192993792), (640, 39614081257132168796771975168, 24758800785707605497982484480), (2047, 79228162514264337593543950336, 193428131138340667952988160), (4095, 0, 118842243771396506390315925504)] [420, 420, 416, 420, 420, 388, 420, 292, 164, 164, 4, 420, 0] (.early 0 (.early 1 (.early 3 (.early 4 (.load 2 (.load 5 (.early 6 (.load 7 (.load 8 (.step 9 (.step 10 (.early 11 (.step 12 .done))))))))))))))))) .none)))))) (.cut [] (.seq .none (.block (.loop [100] (.seq .none (.seq (.cond .none .none) (.seq (.block (.seq .none (.seq .none (.cond (.seq .none .none) .none)))) .none)))))) (.seq .none .none)))))))))
theorem F15_eq (x0 : Value) (w : World) (R : Value → World → Prop) (E : Pan) : F15 x0 w R E = callX Try.prog [.tmp 2] c15 h15 [x0] w R E := by kernel_rfl
theorem F15_ok {x0 : Value} {w : World} {R : Value → World → Prop} {E : Pan} (h : F15 x0 w R E) : Cv Try.prog 15 #[x0] w R E := by
 refine callX_sound (args := [x0]) (c := c15) (h := h15) (rs := [.tmp 2]) Try.func15 (by kernel_rfl) (by kernel_rfl) (Nat.le_of_ble_eq_true (by kernel_rfl)) (by kernel_rfl) (by kernel_rfl) (by kernel_rfl) ?_
 rw [← F15_eq]
 exact h

/- function 16: gnomon/step.outs -/
def F16_j1 (x3 : Value) (w : World) (R : Value → World → Prop) (_E : Pan) : Prop :=
 ∀ _τ : Fr, (R x3 w)
def F16_l2 (x3 x10 x11 x12 : Value) (w : World) (next2 : List Value → World → Prop) (j1 : List Value → World → Prop) (_R : Value → World → Prop) (E : Pan) : Prop :=
 opK Try.prog E (xBin .lss 3 (.tmp 12) (.tmp 11) x12 x11) w fun t13_17 w_18 =>
 xcond t13_17
 (opK Try.prog E (xV (Instr.indexAt 24 x10 x12)) w_18 fun t15_19 w_20 =>
 opK Try.prog E (xV (Instr.loadAt 52 t15_19)) w_20 fun t16_21 w_22 =>
 opK Try.prog E (xV (Instr.alloc 52 true (.tuple #[]))) w_22 fun t5_23 w_24 =>
 opK Try.prog E (xU (Instr.storeAt 52 t5_23 t16_21)) w_24 fun _z_25 w_26 =>
 dX w_26 fun w_27 =>
 qP Try.prog (xV (Instr.fieldAt 52 t5_23 0)) fun t18_28 =>
 qP Try.prog (xV (Instr.fieldAt 52 t5_23 0)) fun t21_29 =>
 qL Try.prog w_27 (blk t18_28) (xV (Instr.loadAt 3 t18_28)) fun t19_30 =>
 qL Try.prog w_27 (blk t21_29) (xV (Instr.loadAt 3 t21_29)) fun t22_31 =>
 qP Try.prog (xV (Instr.indexAt 55 x3 t22_31)) fun t23_32 =>
 qL Try.prog w_27 (blk t23_32) (xV (Instr.loadAt 68 t23_32)) fun t24_33 =>
 opK Try.prog E (xV (Instr.buildSlice 68 1 #[(0, x12)])) w_27 fun t26_34 w_35 =>
 keepX [(blk t23_32), (blk t21_29), (blk t18_28)] w_27 w_35 (opK Try.prog E (xBuiltin .append #[68, 68] 68 [false, false] [t24_33, t26_34]) w_35 fun t27_36 w_37 =>
 keepX [(blk t18_28)] w_35 w_37 (qP Try.prog (xV (Instr.indexAt 55 x3 t19_30)) fun t28_38 =>
 opK Try.prog E (xU (Instr.storeAt 68 t28_38 t27_36)) w_37 fun _z_39 w_40 =>
 keepX [] w_37 w_40 (opK Try.prog E (xBin .add 3 (.tmp 12) (.const (Value.int .i64 1)) x12 (Value.int .i64 1)) w_40 fun t29_41 w_42 =>
 next2 [t29_41] w_42))))
 (j1 [] w_18)
def F16 (x0 : Value) (w : World) (R : Value → World → Prop) (E : Pan) : Prop :=
 opK Try.prog E (xV (Instr.box 26 x0)) w fun t1_1 w_2 =>
 opK Try.prog E (xV (Instr.fieldAt 26 t1_1 3)) w_2 fun t6_3 w_4 =>
 opK Try.prog E (xV (Instr.loadAt 3 t6_3)) w_4 fun t7_5 w_6 =>
 opK Try.prog E (xV (Instr.makeSlice 55 t7_5 t7_5)) w_6 fun t8_7 w_8 =>
 xcut (fun _ w_10 => F16_j1 t8_7 w_10 R E) fun j1 =>
 opK Try.prog E (xV (Instr.fieldAt 26 t1_1 5)) w_8 fun t9_11 w_12 =>
 opK Try.prog E (xV (Instr.loadAt 24 t9_11)) w_12 fun t10_13 w_14 =>
 opK Try.prog E (xBuiltin .len #[24] 3 [false] [t10_13]) w_14 fun t11_15 w_16 =>
 xloop [12] [(Value.int .i64 0)] w_16 fun τ_43 w_44 next2 =>
 F16_l2 t8_7 t10_13 t11_15 (τ_43 12) w_44 next2 j1 R E
noncomputable def c16 : Code := Try.f16.body.getD .skip
def h16 : Hint := (.seq .none (.seq .none (.cut [] (.seq .none (.block (.loop [12] (.seq .none (.seq (.cond .none .none) (.seq (.block (.seq .none (.reg [(0, 131072, 8), (0, 262144, 32), (2, 524288, 262144), (0, 1048576, 8), (0, 2097152, 32), (16, 4194304, 2097152), (40, 8388608, 5242880), (64, 16777216, 8388608), (0, 33554432, 16), (256, 67108864, 33554432), (640, 134217728, 83886080), (2047, 268435456, 655360), (4095, 0, 402653184)] [164, 164, 160, 164, 164, 132, 164, 36, 164, 164, 4, 164, 0] (.early 0 (.early 1 (.early 3 (.early 4 (.early 8 (.load 2 (.load 5 (.early 6 (.load 7 (.step 9 (.step 10 (.early 11 (.step 12 .done)))))))))))))))) .none)))))) (.seq .none .none))))
theorem F16_eq (x0 : Value) (w : World) (R : Value → World → Prop) (E : Pan) : F16 x0 w R E = callX Try.prog [.tmp 2] c16 h16 [x0] w R E := by kernel_rfl
theorem F16_ok {x0 : Value} {w : World} {R : Value → World → Prop} {E : Pan} (h : F16 x0 w R E) : Cv Try.prog 16 #[x0] w R E := by
 refine callX_sound (args := [x0]) (c := c16) (h := h16) (rs := [.tmp 2]) Try.func16 (by kernel_rfl) (by kernel_rfl) (Nat.le_of_ble_eq_true (by kernel_rfl)) (by kernel_rfl) (by kernel_rfl) (by kernel_rfl) ?_
 rw [← F16_eq]
 exact h

/- function 17: gnomon/step.table -/
def F17 (w : World) (R : Value → World → Prop) (E : Pan) : Prop :=
 opK Try.prog E (xV (Instr.alloc 63 true (.tuple #[]))) w fun t0_1 w_2 =>
 opK Try.prog E (xV (Instr.build 63 #[(1, (Value.func (.func 30) #[] #[])), (2, (Value.func (.func 31) #[] #[])), (3, (Value.func (.func 32) #[] #[])), (4, (Value.func (.func 33) #[] #[])), (5, (Value.func (.func 34) #[] #[])), (6, (Value.func (.func 35) #[] #[])), (7, (Value.func (.func 36) #[] #[])), (8, (Value.func (.func 37) #[] #[])), (9, (Value.func (.func 38) #[] #[])), (10, (Value.func (.func 39) #[] #[])), (11, (Value.func (.func 40) #[] #[])), (12, (Value.func (.func 30) #[] #[])), (13, (Value.func (.func 41) #[] #[])), (14, (Value.func (.func 42) #[] #[]))])) w_2 fun t1_3 w_4 =>
 opK Try.prog E (xU (Instr.storeAt 63 t0_1 t1_3)) w_4 fun _z_5 w_6 =>
 xcell Try.prog 63 t0_1 w_6 fun r_7 =>
 R r_7 w_6
noncomputable def c17 : Code := Try.f17.body.getD .skip
def h17 : Hint := (.seq .none (.seq .none .none))
theorem F17_eq (w : World) (R : Value → World → Prop) (E : Pan) : F17  w R E = callX Try.prog [.cell 0 63] c17 h17 [] w R E := by kernel_rfl
theorem F17_ok {w : World} {R : Value → World → Prop} {E : Pan} (h : F17  w R E) : Cv Try.prog 17 #[] w R E := by
 refine callX_sound (args := []) (c := c17) (h := h17) (rs := [.cell 0 63]) Try.func17 (by kernel_rfl) (by kernel_rfl) (Nat.zero_le _) (by kernel_rfl) (by kernel_rfl) (by kernel_rfl) ?_
 rw [← F17_eq]
 exact h

/- function 18: (*gnomon/step.state).next -/
def F18 (x0 : Value) (w : World) (R : Value → World → Prop) (E : Pan) : Prop :=
 dX w fun w_1 =>
 qP Try.prog (xNil x0) fun t7_2 =>
 qP Try.prog (xV (Instr.fieldAt 58 t7_2 1)) fun t8_3 =>
 qP Try.prog (xNil x0) fun t11_4 =>
 qP Try.prog (xV (Instr.fieldAt 58 t11_4 2)) fun t12_5 =>
 qL Try.prog w_1 (blk t8_3) (xV (Instr.loadAt 55 t8_3)) fun t9_6 =>
 qL Try.prog w_1 (blk t12_5) (xV (Instr.loadAt 3 t12_5)) fun t13_7 =>
 qP Try.prog (xV (Instr.indexAt 55 t9_6 t13_7)) fun t14_8 =>
 qL Try.prog w_1 (blk t14_8) (xV (Instr.loadAt 68 t14_8)) fun t15_9 =>
 dX w_1 fun w_10 =>
 qP Try.prog (xNil x0) fun t17_11 =>
 qP Try.prog (xV (Instr.fieldAt 58 t17_11 2)) fun t18_12 =>
 qP Try.prog (xNil x0) fun t21_13 =>
 qP Try.prog (xV (Instr.fieldAt 58 t21_13 0)) fun t22_14 =>
 qP Try.prog (xV (Instr.fieldAt 26 t22_14 4)) fun t23_15 =>
 qL Try.prog w_10 (blk t18_12) (xV (Instr.loadAt 3 t18_12)) fun t19_16 =>
 qL Try.prog w_10 (blk t23_15) (xV (Instr.loadAt 3 t23_15)) fun t24_17 =>
 qP Try.prog (xBin .eql 3 (.tmp 19) (.tmp 24) t19_16 t24_17) fun t25_18 =>
 qP Try.prog (gsem (asB t25_18) false (xBuiltin .len #[68] 3 [false] [(gval (asB t25_18) false t15_9)])) fun t28_19 =>
 qP Try.prog (gsem (asB t25_18) false (xBin .eql 3 (.tmp 28) (.const (Value.int .i64 0)) t28_19 (Value.int .i64 0))) fun t29_20 =>
 qP Try.prog (xPick t25_18 (Value.bool true) t29_20) fun t30_21 =>
 xcond t30_21
 (R (Value.tuple #[(Value.int .i64 (-1)), (Value.bool false)]) w_10)
 (dX w_10 fun w_22 =>
 qP Try.prog (xNil x0) fun t32_23 =>
 qP Try.prog (xV (Instr.fieldAt 58 t32_23 0)) fun t33_24 =>
 qP Try.prog (xV (Instr.fieldAt 26 t33_24 5)) fun t34_25 =>
 qP Try.prog (xV (Instr.indexAt 68 t15_9 (Value.int .i64 0))) fun t37_26 =>
 qL Try.prog w_22 (blk t34_25) (xV (Instr.loadAt 24 t34_25)) fun t35_27 =>
 qL Try.prog w_22 (blk t37_26) (xV (Instr.loadAt 3 t37_26)) fun t38_28 =>
 qP Try.prog (xV (Instr.indexAt 24 t35_27 t38_28)) fun t39_29 =>
 qL Try.prog w_22 (blk t39_29) (xV (Instr.loadAt 52 t39_29)) fun t40_30 =>
 opK Try.prog E (xV (Instr.alloc 52 true (.tuple #[]))) w_22 fun t5_31 w_32 =>
 keepX [(blk t39_29), (blk t37_26), (blk t34_25)] w_22 w_32 (opK Try.prog E (xU (Instr.storeAt 52 t5_31 t40_30)) w_32 fun _z_33 w_34 =>
 keepX [] w_32 w_34 (dX w_34 fun w_35 =>
 qP Try.prog (xV (Instr.fieldAt 52 t5_31 2)) fun t41_36 =>
 qL Try.prog w_35 (blk t41_36) (xV (Instr.loadAt 3 t41_36)) fun t42_37 =>
 qP Try.prog (xBin .eql 3 (.tmp 42) (.const (Value.int .i64 12)) t42_37 (Value.int .i64 12)) fun t43_38 =>
 qP Try.prog (gsem (asB t43_38) true (xV (Instr.fieldAt 52 t5_31 5))) fun t45_39 =>
 qP Try.prog (gsem (asB t43_38) true (xV (Instr.fieldAt 52 t5_31 6))) fun t48_40 =>
 qP Try.prog (gsem (asB t43_38) true (xV (Instr.fieldAt 52 t5_31 7))) fun t52_41 =>
 qL Try.prog w_35 (blk t45_39) (gsem (asB t43_38) true (xV (Instr.loadAt 3 t45_39))) fun t46_42 =>
 qL Try.prog w_35 (blk t48_40) (gsem (asB t43_38) true (xV (Instr.loadAt 50 t48_40))) fun t49_43 =>
 qL Try.prog w_35 (blk t52_41) (gsem (asB t43_38) true (xV (Instr.loadAt 50 t52_41))) fun t53_44 =>
 opK Try.prog E (gsem (asB t43_38) true (xCall (Value.func (.func 44) #[] #[]) [(gval (asB t43_38) true x0), t49_43])) w_35 fun t50_45 w_46 =>
 keepX [(blk t52_41), (blk t45_39)] w_35 w_46 (opK Try.prog E (gsem (asB t43_38) true (xCall (Value.func (.func 44) #[] #[]) [(gval (asB t43_38) true x0), t53_44])) w_46 fun t54_47 w_48 =>
 keepX [(blk t45_39)] w_46 w_48 (opK Try.prog E (gsem (asB t43_38) true (xCall (Value.func (.func 43) #[] #[]) [t46_42, t50_45, t54_47])) w_48 fun t55_49 w_50 =>
 keepX [] w_48 w_50 (qP Try.prog (gsem (asB t43_38) true (xV (Op.unary .not t55_49))) fun t56_51 =>
 qP Try.prog (xPick t43_38 t56_51 (Value.bool false)) fun t57_52 =>
 xcond t57_52
 (opK Try.prog E (xV (Instr.indexAt 68 t15_9 (Value.int .i64 1))) w_50 fun t59_53 w_54 =>
 opK Try.prog E (xV (Instr.loadAt 3 t59_53)) w_54 fun t60_55 w_56 =>
 R (Value.tuple #[t60_55, (Value.bool true)]) w_56)
 (opK Try.prog E (xV (Instr.indexAt 68 t15_9 (Value.int .i64 0))) w_50 fun t62_57 w_58 =>
 opK Try.prog E (xV (Instr.loadAt 3 t62_57)) w_58 fun t63_59 w_60 =>
 R (Value.tuple #[t63_59, (Value.bool true)]) w_60)))))))
noncomputable def c18 : Code := Try.f18.body.getD .skip
def h18 : Hint := (.seq .none (.seq (.reg [(0, 64, 1), (1, 128, 64), (2, 256, 128), (4, 512, 256), (0, 1024, 1), (16, 2048, 1024), (32, 4096, 2048), (64, 8192, 4096), (136, 16384, 8704), (256, 32768, 16384), (1023, 16, 32768)] [648, 648, 648, 640, 648, 648, 648, 520, 648, 136, 648] (.early 0 (.early 1 (.early 2 (.early 4 (.early 5 (.early 6 (.load 3 (.load 7 (.early 8 (.load 9 (.early 10 .done)))))))))))) (.seq (.seq (.reg [(0, 65536, 1), (1, 131072, 65536), (2, 262144, 131072), (4, 524288, 262144), (0, 1048576, 1), (16, 2097152, 1048576), (32, 4194304, 2097152), (64, 8388608, 4194304), (128, 16777216, 8388608), (264, 33554432, 17301504), (512, 67108864, 33554432), (1024, 134217728, 67108880), (3072, 268435456, 201326592), (5120, 536870912, 335544320), (9216, 1073741824, 603979776)] [264, 264, 264, 256, 264, 264, 264, 264, 8, 264, 264, 264, 264, 264, 264] (.early 0 (.early 1 (.early 2 (.early 4 (.early 5 (.early 6 (.early 7 (.load 3 (.load 8 (.early 9 (.early 10 (.early 11 (.early 12 (.early 13 (.early 14 .done)))))))))))))))) (.cond (.seq .none .none) .none)) (.seq (.reg [(0, 2147483648, 1), (1, 4294967296, 2147483648), (2, 8589934592, 4294967296), (4, 17179869184, 8589934592), (8, 34359738368, 17179869184), (0, 68719476736, 16), (32, 137438953472, 68719476736), (64, 274877906944, 137438953472), (144, 549755813888, 309237645312), (256, 1099511627776, 549755813888), (0, 32, 0), (2047, 0, 1099511627808)] [656, 656, 656, 656, 640, 656, 656, 528, 656, 144, 656, 0] (.early 0 (.early 1 (.early 2 (.early 3 (.early 5 (.early 6 (.load 4 (.load 7 (.early 8 (.load 9 (.step 10 (.step 11 .done))))))))))))) (.seq (.seq (.reg [(0, 2199023255552, 32), (1, 4398046511104, 2199023255552), (2, 8796093022208, 4398046511104), (4, 17592186044416, 8796093022208), (8, 35184372088832, 17592186044448), (24, 70368744177664, 52776558133248), (8, 140737488355328, 17592186044417), (8, 281474976710656, 17592186044448), (136, 562949953421312, 299067162755072), (328, 1125899906842624, 721279627821056), (8, 2251799813685248, 17592186044417), (8, 4503599627370496, 17592186044448), (2056, 9007199254740992, 4521191813414912), (5640, 18014398509481984, 11276591254470656), (8744, 36028797018963968, 19228259346546688), (16392, 72057594037927936, 36046389205008384), (32776, 144115188075855872, 72075186223972352)] [4386, 4384, 4386, 4386, 4386, 4354, 4386, 4386, 4130, 4128, 4386, 4386, 290, 32, 0, 4386, 4386] (.early 0 (.load 1 (.early 2 (.early 3 (.early 4 (.early 6 (.early 7 (.early 10 (.early 11 (.load 5 (.load 8 (.load 12 (.step 9 (.step 13 (.step 14 (.early 15 (.early 16 .done)))))))))))))))))) (.cond (.seq .none .none) .none)) (.seq .none .none))))))
theorem F18_eq (x0 : Value) (w : World) (R : Value → World → Prop) (E : Pan) : F18 x0 w R E = callX Try.prog [.tmp 2, .tmp 3] c18 h18 [x0] w R E := by kernel_rfl
theorem F18_ok {x0 : Value} {w : World} {R : Value → World → Prop} {E : Pan} (h : F18 x0 w R E) : Cv Try.prog 18 #[x0] w R E := by
 refine callX_sound (args := [x0]) (c := c18) (h := h18) (rs := [.tmp 2, .tmp 3]) Try.func18 (by kernel_rfl) (by kernel_rfl) (Nat.le_of_ble_eq_true (by kernel_rfl)) (by kernel_rfl) (by kernel_rfl) (by kernel_rfl) ?_
 rw [← F18_eq]
 exact h

/- function 19: gnomon/gnomonref9.Check -/
def F19_j3 (w : World) (R : Value → World → Prop) (_E : Pan) : Prop :=
 ∀ _τ : Fr, (R (Value.int .i64 0) w)
def F19_l4 (x1 x4 x7 : Value) (w : World) (next4 : List Value → World → Prop) (j3 : List Value → World → Prop) (R : Value → World → Prop) (E : Pan) : Prop :=
 opK Try.prog E (xV (Instr.fieldAt 26 x1 3)) w fun t147_95 w_96 =>
 opK Try.prog E (xV (Instr.loadAt 3 t147_95)) w_96 fun t148_97 w_98 =>
 opK Try.prog E (xBin .lss 3 (.tmp 146) (.tmp 148) x7 t148_97) w_98 fun t149_99 w_100 =>
 xcond t149_99
 (dX w_100 fun w_101 =>
 qP Try.prog (xV (Instr.indexAt 55 x4 x7)) fun t155_102 =>
 qL Try.prog w_101 (blk x1) (xV (Instr.loadAt 26 x1)) fun t152_103 =>
 qL Try.prog w_101 (blk t155_102) (xV (Instr.loadAt 68 t155_102)) fun t156_104 =>
 opK Try.prog E (xCall (Value.func (.func 46) #[] #[]) [t152_103, t156_104]) w_101 fun t157_105 w_106 =>
 keepX [] w_101 w_106 (qP Try.prog (xV (Op.unary .not t157_105)) fun t158_107 =>
 xcond t158_107
 (R (Value.int .i64 92) w_106)
 (opK Try.prog E (xBin .add 3 (.tmp 150) (.const (Value.int .i64 1)) x7 (Value.int .i64 1)) w_106 fun t151_108 w_109 =>
 next4 [t151_108] w_109)))
 (j3 [] w_100)
def F19_j2 (x1 x4 : Value) (w : World) (R : Value → World → Prop) (E : Pan) : Prop :=
 ∀ _τ : Fr, (xcut (fun _ w_94 => F19_j3 w_94 R E) fun j3 =>
 xloop [7] [(Value.int .i64 0)] w fun τ_110 w_111 next4 =>
 F19_l4 x1 x4 (τ_110 7) w_111 next4 j3 R E)
def F19_l5 (x1 x4 x5 : Value) (w : World) (next5 : List Value → World → Prop) (j2 : List Value → World → Prop) (R : Value → World → Prop) (E : Pan) : Prop :=
 opK Try.prog E (xV (Instr.fieldAt 26 x1 5)) w fun t84_114 w_115 =>
 opK Try.prog E (xV (Instr.loadAt 24 t84_114)) w_115 fun t85_116 w_117 =>
 opK Try.prog E (xBuiltin .len #[24] 3 [false] [t85_116]) w_117 fun t86_118 w_119 =>
 opK Try.prog E (xBin .lss 3 (.tmp 83) (.tmp 86) x5 t86_118) w_119 fun t87_120 w_121 =>
 xcond t87_120
 (opK Try.prog E (xV (Instr.fieldAt 26 x1 5)) w_121 fun t90_122 w_123 =>
 opK Try.prog E (xV (Instr.loadAt 24 t90_122)) w_123 fun t91_124 w_125 =>
 opK Try.prog E (xV (Instr.indexAt 24 t91_124 x5)) w_125 fun t93_126 w_127 =>
 opK Try.prog E (xV (Instr.loadAt 52 t93_126)) w_127 fun t94_128 w_129 =>
 opK Try.prog E (xV (Instr.alloc 52 true (.tuple #[]))) w_129 fun t6_130 w_131 =>
 opK Try.prog E (xU (Instr.storeAt 52 t6_130 t94_128)) w_131 fun _z_132 w_133 =>
 dX w_133 fun w_134 =>
 qP Try.prog (xV (Instr.fieldAt 52 t6_130 0)) fun t95_135 =>
 qL Try.prog w_134 (blk t95_135) (xV (Instr.loadAt 3 t95_135)) fun t96_136 =>
 qP Try.prog (xBin .lss 3 (.tmp 96) (.const (Value.int .i64 0)) t96_136 (Value.int .i64 0)) fun t97_137 =>
 qP Try.prog (gsem (asB t97_137) false (xV (Instr.fieldAt 52 t6_130 0))) fun t99_138 =>
 qP Try.prog (gsem (asB t97_137) false (xV (Instr.fieldAt 26 x1 3))) fun t101_139 =>
 qL Try.prog w_134 (blk t99_138) (gsem (asB t97_137) false (xV (Instr.loadAt 3 t99_138))) fun t100_140 =>
 qL Try.prog w_134 (blk t101_139) (gsem (asB t97_137) false (xV (Instr.loadAt 3 t101_139))) fun t102_141 =>
 qP Try.prog (gsem (asB t97_137) false (xBin .geq 3 (.tmp 100) (.tmp 102) t100_140 t102_141)) fun t103_142 =>
 qP Try.prog (xPick t97_137 (Value.bool true) t103_142) fun t104_143 =>
 qP Try.prog (gsem (asB t104_143) false (xV (Instr.fieldAt 52 t6_130 1))) fun t106_144 =>
 qL Try.prog w_134 (blk t106_144) (gsem (asB t104_143) false (xV (Instr.loadAt 3 t106_144))) fun t107_145 =>
 qP Try.prog (gsem (asB t104_143) false (xBin .lss 3 (.tmp 107) (.const (Value.int .i64 0)) t107_145 (Value.int .i64 0))) fun t108_146 =>
 qP Try.prog (xPick t104_143 (Value.bool true) t108_146) fun t109_147 =>
 qP Try.prog (gsem (asB t109_147) false (xV (Instr.fieldAt 52 t6_130 1))) fun t111_148 =>
 qP Try.prog (gsem (asB t109_147) false (xV (Instr.fieldAt 26 x1 3))) fun t113_149 =>
 qL Try.prog w_134 (blk t111_148) (gsem (asB t109_147) false (xV (Instr.loadAt 3 t111_148))) fun t112_150 =>
 qL Try.prog w_134 (blk t113_149) (gsem (asB t109_147) false (xV (Instr.loadAt 3 t113_149))) fun t114_151 =>
 qP Try.prog (gsem (asB t109_147) false (xBin .geq 3 (.tmp 112) (.tmp 114) t112_150 t114_151)) fun t115_152 =>
 qP Try.prog (xPick t109_147 (Value.bool true) t115_152) fun t116_153 =>
 qP Try.prog (gsem (asB t116_153) false (xV (Instr.fieldAt 52 t6_130 0))) fun t118_154 =>
 qP Try.prog (gsem (asB t116_153) false (xV (Instr.fieldAt 26 x1 4))) fun t120_155 =>
 qL Try.prog w_134 (blk t118_154) (gsem (asB t116_153) false (xV (Instr.loadAt 3 t118_154))) fun t119_156 =>
 qL Try.prog w_134 (blk t120_155) (gsem (asB t116_153) false (xV (Instr.loadAt 3 t120_155))) fun t121_157 =>
 qP Try.prog (gsem (asB t116_153) false (xBin .eql 3 (.tmp 119) (.tmp 121) t119_156 t121_157)) fun t122_158 =>
 qP Try.prog (xPick t116_153 (Value.bool true) t122_158) fun t123_159 =>
 qP Try.prog (gsem (asB t123_159) false (xV (Instr.fieldAt 26 x1 2))) fun t128_160 =>
 qL Try.prog w_134 (blk t6_130) (gsem (asB t123_159) false (xV (Instr.loadAt 52 t6_130))) fun t125_161 =>
 qL Try.prog w_134 (blk x1) (gsem (asB t123_159) false (xV (Instr.loadAt 26 x1))) fun t126_162 =>
 qL Try.prog w_134 (blk t128_160) (gsem (asB t123_159) false (xV (Instr.loadAt 23 t128_160))) fun t129_163 =>
 qP Try.prog (gsem (asB t123_159) false (xBuiltin .len #[23] 3 [false] [t129_163])) fun t130_164 =>
 opK Try.prog E (gsem (asB t123_159) false (xCall (Value.func (.func 20) #[] #[]) [t126_162])) w_134 fun t127_165 w_166 =>
 keepX [(blk t128_160), (blk t6_130)] w_134 w_166 (opK Try.prog E (gsem (asB t123_159) false (xCall (Value.func (.func 45) #[] #[]) [t125_161, t127_165, t130_164])) w_166 fun t131_167 w_168 =>
 keepX [] w_166 w_168 (qP Try.prog (gsem (asB t123_159) false (xV (Op.unary .not t131_167))) fun t132_169 =>
 qP Try.prog (xPick t123_159 (Value.bool true) t132_169) fun t133_170 =>
 xcond t133_170
 (R (Value.int .i64 92) w_168)
 (dX w_168 fun w_171 =>
 qP Try.prog (xV (Instr.fieldAt 52 t6_130 0)) fun t135_172 =>
 qP Try.prog (xV (Instr.fieldAt 52 t6_130 0)) fun t138_173 =>
 qL Try.prog w_171 (blk t135_172) (xV (Instr.loadAt 3 t135_172)) fun t136_174 =>
 qL Try.prog w_171 (blk t138_173) (xV (Instr.loadAt 3 t138_173)) fun t139_175 =>
 qP Try.prog (xV (Instr.indexAt 55 x4 t139_175)) fun t140_176 =>
 qL Try.prog w_171 (blk t140_176) (xV (Instr.loadAt 68 t140_176)) fun t141_177 =>
 opK Try.prog E (xV (Instr.buildSlice 68 1 #[(0, x5)])) w_171 fun t143_178 w_179 =>
 keepX [(blk t140_176), (blk t138_173), (blk t135_172)] w_171 w_179 (opK Try.prog E (xBuiltin .append #[68, 68] 68 [false, false] [t141_177, t143_178]) w_179 fun t144_180 w_181 =>
 keepX [(blk t135_172)] w_179 w_181 (qP Try.prog (xV (Instr.indexAt 55 x4 t136_174)) fun t145_182 =>
 opK Try.prog E (xU (Instr.storeAt 68 t145_182 t144_180)) w_181 fun _z_183 w_184 =>
 keepX [] w_181 w_184 (opK Try.prog E (xBin .add 3 (.tmp 88) (.const (Value.int .i64 1)) x5 (Value.int .i64 1)) w_184 fun t89_185 w_186 =>
 next5 [t89_185] w_186)))))))
 (j2 [] w_121)
def F19_j1 (x1 : Value) (w : World) (R : Value → World → Prop) (E : Pan) : Prop :=
 ∀ _τ : Fr, (opK Try.prog E (xV (Instr.fieldAt 26 x1 3)) w fun t80_87 w_88 =>
 opK Try.prog E (xV (Instr.loadAt 3 t80_87)) w_88 fun t81_89 w_90 =>
 opK Try.prog E (xV (Instr.makeSlice 55 t81_89 t81_89)) w_90 fun t82_91 w_92 =>
 xcut (fun _ w_113 => F19_j2 x1 t82_91 w_113 R E) fun j2 =>
 xloop [5] [(Value.int .i64 0)] w_92 fun τ_187 w_188 next5 =>
 F19_l5 x1 t82_91 (τ_187 5) w_188 next5 j2 R E)
def F19_l6 (x1 x3 : Value) (w : World) (next6 : List Value → World → Prop) (j1 : List Value → World → Prop) (R : Value → World → Prop) (E : Pan) : Prop :=
 opK Try.prog E (xV (Instr.fieldAt 26 x1 2)) w fun t58_191 w_192 =>
 opK Try.prog E (xV (Instr.loadAt 23 t58_191)) w_192 fun t59_193 w_194 =>
 opK Try.prog E (xBuiltin .len #[23] 3 [false] [t59_193]) w_194 fun t60_195 w_196 =>
 opK Try.prog E (xBin .lss 3 (.tmp 57) (.tmp 60) x3 t60_195) w_196 fun t61_197 w_198 =>
 xcond t61_197
 (opK Try.prog E (xV (Instr.fieldAt 26 x1 2)) w_198 fun t64_199 w_200 =>
 opK Try.prog E (xV (Instr.loadAt 23 t64_199)) w_200 fun t65_201 w_202 =>
 opK Try.prog E (xV (Instr.indexAt 23 t65_201 x3)) w_202 fun t67_203 w_204 =>
 opK Try.prog E (xV (Instr.fieldAt 60 t67_203 1)) w_204 fun t68_205 w_206 =>
 opK Try.prog E (xV (Instr.loadAt 3 t68_205)) w_206 fun t69_207 w_208 =>
 opK Try.prog E (xBin .lss 3 (.tmp 69) (.const (Value.int .i64 1)) t69_207 (Value.int .i64 1)) w_208 fun t70_209 w_210 =>
 opK Try.prog E (gsem (asB t70_209) false (xV (Instr.fieldAt 26 x1 2))) w_210 fun t72_211 w_212 =>
 opK Try.prog E (gsem (asB t70_209) false (xV (Instr.loadAt 23 t72_211))) w_212 fun t73_213 w_214 =>
 opK Try.prog E (gsem (asB t70_209) false (xV (Instr.indexAt 23 t73_213 (gval (asB t70_209) false x3)))) w_214 fun t75_215 w_216 =>
 opK Try.prog E (gsem (asB t70_209) false (xV (Instr.fieldAt 60 t75_215 1))) w_216 fun t76_217 w_218 =>
 opK Try.prog E (gsem (asB t70_209) false (xV (Instr.loadAt 3 t76_217))) w_218 fun t77_219 w_220 =>
 opK Try.prog E (gsem (asB t70_209) false (xBin .gtr 3 (.tmp 77) (.const (Value.int .i64 1024)) t77_219 (Value.int .i64 1024))) w_220 fun t78_221 w_222 =>
 opK Try.prog E (xPick t70_209 (Value.bool true) t78_221) w_222 fun t79_223 w_224 =>
 xcond t79_223
 (R (Value.int .i64 92) w_224)
 (opK Try.prog E (xBin .add 3 (.tmp 62) (.const (Value.int .i64 1)) x3 (Value.int .i64 1)) w_224 fun t63_225 w_226 =>
 next6 [t63_225] w_226))
 (j1 [] w_198)
def F19 (x0 : Value) (w : World) (R : Value → World → Prop) (E : Pan) : Prop :=
 opK Try.prog E (xV (Instr.box 26 x0)) w fun t1_1 w_2 =>
 opK Try.prog E (xV (Instr.fieldAt 26 t1_1 1)) w_2 fun t8_3 w_4 =>
 opK Try.prog E (xV (Instr.loadAt 3 t8_3)) w_4 fun t9_5 w_6 =>
 opK Try.prog E (xBin .lss 3 (.tmp 9) (.const (Value.int .i64 0)) t9_5 (Value.int .i64 0)) w_6 fun t10_7 w_8 =>
 opK Try.prog E (gsem (asB t10_7) false (xV (Instr.fieldAt 26 t1_1 1))) w_8 fun t12_9 w_10 =>
 opK Try.prog E (gsem (asB t10_7) false (xV (Instr.loadAt 3 t12_9))) w_10 fun t13_11 w_12 =>
 opK Try.prog E (gsem (asB t10_7) false (xBin .gtr 3 (.tmp 13) (.const (Value.int .i64 64)) t13_11 (Value.int .i64 64))) w_12 fun t14_13 w_14 =>
 opK Try.prog E (xPick t10_7 (Value.bool true) t14_13) w_14 fun t15_15 w_16 =>
 opK Try.prog E (gsem (asB t15_15) false (xV (Instr.fieldAt 26 t1_1 0))) w_16 fun t17_17 w_18 =>
 opK Try.prog E (gsem (asB t15_15) false (xV (Instr.loadAt 22 t17_17))) w_18 fun t18_19 w_20 =>
 opK Try.prog E (gsem (asB t15_15) false (xBuiltin .len #[22] 3 [false] [t18_19])) w_20 fun t19_21 w_22 =>
 opK Try.prog E (gsem (asB t15_15) false (xBin .gtr 3 (.tmp 19) (.const (Value.int .i64 64)) t19_21 (Value.int .i64 64))) w_22 fun t20_23 w_24 =>
 opK Try.prog E (xPick t15_15 (Value.bool true) t20_23) w_24 fun t21_25 w_26 =>
 opK Try.prog E (gsem (asB t21_25) false (xV (Instr.loadAt 26 t1_1))) w_26 fun t23_27 w_28 =>
 opK Try.prog E (gsem (asB t21_25) false (xCall (Value.func (.func 20) #[] #[]) [t23_27])) w_28 fun t24_29 w_30 =>
 opK Try.prog E (gsem (asB t21_25) false (xBin .gtr 3 (.tmp 24) (.const (Value.int .i64 64)) t24_29 (Value.int .i64 64))) w_30 fun t25_31 w_32 =>
 opK Try.prog E (xPick t21_25 (Value.bool true) t25_31) w_32 fun t26_33 w_34 =>
 xcond t26_33
 (R (Value.int .i64 90) w_34)
 (opK Try.prog E (xV (Instr.fieldAt 26 t1_1 3)) w_34 fun t27_35 w_36 =>
 opK Try.prog E (xV (Instr.loadAt 3 t27_35)) w_36 fun t28_37 w_38 =>
 opK Try.prog E (xBin .lss 3 (.tmp 28) (.const (Value.int .i64 1)) t28_37 (Value.int .i64 1)) w_38 fun t29_39 w_40 =>
 opK Try.prog E (gsem (asB t29_39) false (xV (Instr.fieldAt 26 t1_1 3))) w_40 fun t31_41 w_42 =>
 opK Try.prog E (gsem (asB t29_39) false (xV (Instr.loadAt 3 t31_41))) w_42 fun t32_43 w_44 =>
 opK Try.prog E (gsem (asB t29_39) false (xBin .gtr 3 (.tmp 32) (.const (Value.int .i64 4096)) t32_43 (Value.int .i64 4096))) w_44 fun t33_45 w_46 =>
 opK Try.prog E (xPick t29_39 (Value.bool true) t33_45) w_46 fun t34_47 w_48 =>
 opK Try.prog E (gsem (asB t34_47) false (xV (Instr.fieldAt 26 t1_1 5))) w_48 fun t36_49 w_50 =>
 opK Try.prog E (gsem (asB t34_47) false (xV (Instr.loadAt 24 t36_49))) w_50 fun t37_51 w_52 =>
 opK Try.prog E (gsem (asB t34_47) false (xBuiltin .len #[24] 3 [false] [t37_51])) w_52 fun t38_53 w_54 =>
 opK Try.prog E (gsem (asB t34_47) false (xBin .gtr 3 (.tmp 38) (.const (Value.int .i64 8192)) t38_53 (Value.int .i64 8192))) w_54 fun t39_55 w_56 =>
 opK Try.prog E (xPick t34_47 (Value.bool true) t39_55) w_56 fun t40_57 w_58 =>
 xcond t40_57
 (R (Value.int .i64 91) w_58)
 (opK Try.prog E (xV (Instr.fieldAt 26 t1_1 2)) w_58 fun t41_59 w_60 =>
 opK Try.prog E (xV (Instr.loadAt 23 t41_59)) w_60 fun t42_61 w_62 =>
 opK Try.prog E (xBuiltin .len #[23] 3 [false] [t42_61]) w_62 fun t43_63 w_64 =>
 opK Try.prog E (xBin .gtr 3 (.tmp 43) (.const (Value.int .i64 16)) t43_63 (Value.int .i64 16)) w_64 fun t44_65 w_66 =>
 opK Try.prog E (gsem (asB t44_65) false (xV (Instr.fieldAt 26 t1_1 4))) w_66 fun t46_67 w_68 =>
 opK Try.prog E (gsem (asB t44_65) false (xV (Instr.loadAt 3 t46_67))) w_68 fun t47_69 w_70 =>
 opK Try.prog E (gsem (asB t44_65) false (xBin .lss 3 (.tmp 47) (.const (Value.int .i64 0)) t47_69 (Value.int .i64 0))) w_70 fun t48_71 w_72 =>
 opK Try.prog E (xPick t44_65 (Value.bool true) t48_71) w_72 fun t49_73 w_74 =>
 opK Try.prog E (gsem (asB t49_73) false (xV (Instr.fieldAt 26 t1_1 4))) w_74 fun t51_75 w_76 =>
 opK Try.prog E (gsem (asB t49_73) false (xV (Instr.loadAt 3 t51_75))) w_76 fun t52_77 w_78 =>
 opK Try.prog E (gsem (asB t49_73) false (xV (Instr.fieldAt 26 t1_1 3))) w_78 fun t53_79 w_80 =>
 opK Try.prog E (gsem (asB t49_73) false (xV (Instr.loadAt 3 t53_79))) w_80 fun t54_81 w_82 =>
 opK Try.prog E (gsem (asB t49_73) false (xBin .geq 3 (.tmp 52) (.tmp 54) t52_77 t54_81)) w_82 fun t55_83 w_84 =>
 opK Try.prog E (xPick t49_73 (Value.bool true) t55_83) w_84 fun t56_85 w_86 =>
 xcond t56_85
 (R (Value.int .i64 92) w_86)
 (xcut (fun _ w_190 => F19_j1 t1_1 w_190 R E) fun j1 =>
 xloop [3] [(Value.int .i64 0)] w_86 fun τ_227 w_228 next6 =>
 F19_l6 t1_1 (τ_227 3) w_228 next6 j1 R E)))
noncomputable def c19 : Code := Try.f19.body.getD .skip
def h19 : Hint := (.seq .none (.seq (.seq .none (.cond (.seq .none .none) .none)) (.seq (.seq .none (.cond (.seq .none .none) .none)) (.seq (.seq .none (.cond (.seq .none .none) .none)) (.cut [] (.seq .none (.block (.loop [3] (.seq (.seq .none (.cond .none .none)) (.seq (.block (.seq .none (.cond (.seq .none .none) .none))) .none))))) (.seq .none (.cut [] (.seq .none (.block (.loop [5] (.seq (.seq .none (.cond .none .none)) (.seq (.block (.seq .none (.seq (.seq (.reg [(0, 39614081257132168796771975168, 64), (1, 79228162514264337593543950336, 39614081257132168796771975168), (2, 158456325028528675187087900672, 79228162514264337593543950336), (4, 316912650057057350374175801344, 158456325028528675187087900672), (8, 633825300114114700748351602688, 316912650057057350374175801408), (24, 1267650600228229401496703205376, 950737950171172051122527404032), (8, 2535301200456458802993406410752, 316912650057057350374175801346), (72, 5070602400912917605986812821504, 2852213850513516153367582212096), (168, 10141204801825835211973625643008, 6655165651198204357857691828224), (264, 20282409603651670423947251286016, 10458117451882892562347801444352), (520, 40564819207303340847894502572032, 20282409603651670423947251286016), (1024, 81129638414606681695789005144064, 40564819207303340847894502572096), (3072, 162259276829213363391578010288128, 121694457621910022543683507716096), (5120, 324518553658426726783156020576256, 202824096036516704239472512860160), (9216, 649037107316853453566312041152512, 365083372865730067631050523148288), (17408, 1298074214633706907132624082305024, 649037107316853453566312041152512), (32768, 2596148429267413814265248164610048, 1298074214633706907132624082305088), (98304, 5192296858534827628530496329220096, 3894222643901120721397872246915072), (32768, 10384593717069655257060992658440192, 1298074214633706907132624082305026), (294912, 20769187434139310514121985316880384, 11682667931703362164193616740745216), (688128, 41538374868278621028243970633760768, 27259558507307845049785105728405504), (1081344, 83076749736557242056487941267521536, 42836449082912327935376594716065792), (2129920, 166153499473114484112975882535043072, 83076749736557242056487941267521536), (4194304, 332306998946228968225951765070086144, 166153499473114484112975882535043136), (12582912, 664613997892457936451903530140172288, 498460498419343452338927647605129216), (4194304, 1329227995784915872903807060280344576, 166153499473114484112975882535043074), (37748736, 2658455991569831745807614120560689152, 1495381495258030357016782942815387648), (88080384, 5316911983139663491615228241121378304, 3489223488935404166372493533235904512), (138412032, 10633823966279326983230456482242756608, 5483065482612777975728204123656421376), (272629760, 21267647932558653966460912964485513216, 10633823966279326983230456482242756608), (536870912, 42535295865117307932921825928971026432, 21267647932558653966460912964485513280), (536870912, 85070591730234615865843651857942052864, 21267647932558653966460912964485513218), (2684354560, 170141183460469231731687303715884105728, 106338239662793269832304564822427566080), (536870912, 340282366920938463463374607431768211456, 21267647932558653966460912964485513218), (9126805504, 680564733841876926926749214863536422912, 361550014853497117429835520396253724672), (17716740096, 1361129467683753853853498429727072845824, 701832381774435580893210127828021936128), (40265318400, 2722258935367507707706996859454145691648, 1595073594941899047484568472336413491200), (69256347648, 5444517870735015415413993718908291383296, 2743526583300066361673457772418631204864), (137975824384, 10889035741470030830827987437816582766592, 5465785518667574069380454631872776896512)] [20485640354, 20485640352, 20485640354, 20485640354, 20485640354, 20485640322, 20485640354, 20485640226, 20485640354, 20485640354, 20485640354, 20485640354, 20485636258, 20485640354, 20485640354, 20485640354, 20485640354, 20485509282, 20485640354, 20485116066, 20485640354, 20485640354, 20485640354, 20485640354, 20468863138, 20485640354, 20418531490, 20485640354, 20485640354, 20485640354, 19411898530, 18338156706, 18253611008, 20485640354, 3305771170, 20485640354, 0, 20485640354, 20485640354] (.early 0 (.load 1 (.early 2 (.early 3 (.early 4 (.early 6 (.load 5 (.load 7 (.early 8 (.early 9 (.early 10 (.early 11 (.load 12 (.early 13 (.early 14 (.early 15 (.early 16 (.early 18 (.load 17 (.load 19 (.early 20 (.early 21 (.early 22 (.early 23 (.early 25 (.load 24 (.load 26 (.early 27 (.early 28 (.early 29 (.early 33 (.load 30 (.load 31 (.load 34 (.early 35 (.step 32 (.step 36 (.early 37 (.early 38 .done)))))))))))))))))))))))))))))))))))))))) (.cond (.seq .none .none) .none)) (.reg [(0, 21778071482940061661655974875633165533184, 16), (0, 43556142965880123323311949751266331066368, 64), (2, 87112285931760246646623899502532662132736, 43556142965880123323311949751266331066368), (0, 174224571863520493293247799005065324265472, 16), (0, 348449143727040986586495598010130648530944, 64), (16, 696898287454081973172991196020261297061888, 348449143727040986586495598010130648530944), (40, 1393796574908163946345982392040522594123776, 871122859317602466466238995025326621327360), (64, 2787593149816327892691964784081045188247552, 1393796574908163946345982392040522594123776), (0, 5575186299632655785383929568162090376495104, 32), (256, 11150372599265311570767859136324180752990208, 5575186299632655785383929568162090376495104), (640, 22300745198530623141535718272648361505980416, 13937965749081639463459823920405225941237760), (2047, 44601490397061246283071436545296723011960832, 108890357414700308308279874378165827665920), (4095, 0, 66902235595591869424607154817945084517941248)] [164, 164, 160, 164, 164, 132, 164, 36, 164, 164, 4, 164, 0] (.early 0 (.early 1 (.early 3 (.early 4 (.early 8 (.load 2 (.load 5 (.early 6 (.load 7 (.step 9 (.step 10 (.early 11 (.step 12 .done))))))))))))))))) .none))))) (.cut [] (.seq .none (.block (.loop [7] (.seq (.seq .none (.cond .none .none)) (.seq (.block (.seq (.reg [(0, 5708990770823839524233143877797980545530986496, 2), (0, 11417981541647679048466287755595961091061972992, 16), (0, 22835963083295358096932575511191922182123945984, 128), (6, 45671926166590716193865151022383844364247891968, 34253944624943037145398863266787883273185918976), (8, 91343852333181432387730302044767688728495783936, 45671926166590716193865151022383844364247891968), (17, 182687704666362864775460604089535377456991567872, 97052843104005271911963445922565669274026770432), (32, 365375409332725729550921208179070754913983135744, 182687704666362864775460604089535377456991567872)] [16, 17, 17, 17, 1, 0, 17] (.early 1 (.early 2 (.early 3 (.load 0 (.load 4 (.step 5 (.early 6 .done)))))))) (.cond (.seq .none .none) .none))) .none))))) (.seq .none .none)))))))))
theorem F19_eq (x0 : Value) (w : World) (R : Value → World → Prop) (E : Pan) : F19 x0 w R E = callX Try.prog [.tmp 2] c19 h19 [x0] w R E := by kernel_rfl
theorem F19_ok {x0 : Value} {w : World} {R : Value → World → Prop} {E : Pan} (h : F19 x0 w R E) : Cv Try.prog 19 #[x0] w R E := by
 refine callX_sound (args := [x0]) (c := c19) (h := h19) (rs := [.tmp 2]) Try.func19 (by kernel_rfl) (by kernel_rfl) (Nat.le_of_ble_eq_true (by kernel_rfl)) (by kernel_rfl) (by kernel_rfl) (by kernel_rfl) ?_
 rw [← F19_eq]
 exact h

/- function 20: gnomon/gnomonref9.All -/
def F20 (x0 : Value) (w : World) (R : Value → World → Prop) (E : Pan) : Prop :=
 opK Try.prog E (xV (Instr.box 26 x0)) w fun t1_1 w_2 =>
 opK Try.prog E (xV (Instr.fieldAt 26 t1_1 0)) w_2 fun t3_3 w_4 =>
 opK Try.prog E (xV (Instr.loadAt 22 t3_3)) w_4 fun t4_5 w_6 =>
 opK Try.prog E (xBuiltin .len #[22] 3 [false] [t4_5]) w_6 fun t5_7 w_8 =>
 opK Try.prog E (xV (Instr.fieldAt 26 t1_1 1)) w_8 fun t6_9 w_10 =>
 opK Try.prog E (xV (Instr.loadAt 3 t6_9)) w_10 fun t7_11 w_12 =>
 opK Try.prog E (xBin .add 3 (.tmp 5) (.tmp 7) t5_7 t7_11) w_12 fun t8_13 w_14 =>
 R t8_13 w_14
noncomputable def c20 : Code := Try.f20.body.getD .skip
def h20 : Hint := (.seq .none (.seq .none .none))
theorem F20_eq (x0 : Value) (w : World) (R : Value → World → Prop) (E : Pan) : F20 x0 w R E = callX Try.prog [.tmp 2] c20 h20 [x0] w R E := by kernel_rfl
theorem F20_ok {x0 : Value} {w : World} {R : Value → World → Prop} {E : Pan} (h : F20 x0 w R E) : Cv Try.prog 20 #[x0] w R E := by
 refine callX_sound (args := [x0]) (c := c20) (h := h20) (rs := [.tmp 2]) Try.func20 (by kernel_rfl) (by kernel_rfl) (Nat.le_of_ble_eq_true (by kernel_rfl)) (by kernel_rfl) (by kernel_rfl) (by kernel_rfl) ?_
 rw [← F20_eq]
 exact h

/- function 21: gnomon/gnomonref10.taken -/
def F21_j1 (w : World) (R : Value → World → Prop) (_E : Pan) : Prop :=
 ∀ _τ : Fr, (R (Value.int .i64 (-1)) w)
def F21_l2 (x1 x2 x3 x7 : Value) (w : World) (next2 : List Value → World → Prop) (j1 : List Value → World → Prop) (R : Value → World → Prop) (E : Pan) : Prop :=
 opK Try.prog E (xBuiltin .len #[68] 3 [false] [x2]) w fun t11_5 w_6 =>
 opK Try.prog E (xBin .lss 3 (.tmp 9) (.tmp 11) x7 t11_5) w_6 fun t12_7 w_8 =>
 xcond t12_7
 (dX w_8 fun w_9 =>
 qP Try.prog (xV (Instr.fieldAt 26 x3 5)) fun t15_10 =>
 qP Try.prog (xV (Instr.indexAt 68 x2 x7)) fun t19_11 =>
 qL Try.prog w_9 (blk t15_10) (xV (Instr.loadAt 24 t15_10)) fun t16_12 =>
 qL Try.prog w_9 (blk t19_11) (xV (Instr.loadAt 3 t19_11)) fun t20_13 =>
 qP Try.prog (xV (Instr.indexAt 24 t16_12 t20_13)) fun t21_14 =>
 qL Try.prog w_9 (blk t21_14) (xV (Instr.loadAt 52 t21_14)) fun t22_15 =>
 opK Try.prog E (xV (Instr.alloc 52 true (.tuple #[]))) w_9 fun t8_16 w_17 =>
 keepX [(blk t21_14), (blk t19_11), (blk t15_10)] w_9 w_17 (opK Try.prog E (xU (Instr.storeAt 52 t8_16 t22_15)) w_17 fun _z_18 w_19 =>
 keepX [] w_17 w_19 (dX w_19 fun w_20 =>
 qP Try.prog (xV (Instr.fieldAt 52 t8_16 2)) fun t23_21 =>
 qL Try.prog w_20 (blk t23_21) (xV (Instr.loadAt 3 t23_21)) fun t24_22 =>
 qP Try.prog (xBin .neq 3 (.tmp 24) (.const (Value.int .i64 12)) t24_22 (Value.int .i64 12)) fun t25_23 =>
 qP Try.prog (gsem (asB t25_23) false (xV (Instr.fieldAt 52 t8_16 5))) fun t27_24 =>
 qP Try.prog (gsem (asB t25_23) false (xV (Instr.fieldAt 52 t8_16 6))) fun t30_25 =>
 qP Try.prog (gsem (asB t25_23) false (xV (Instr.fieldAt 52 t8_16 7))) fun t34_26 =>
 qL Try.prog w_20 (blk t27_24) (gsem (asB t25_23) false (xV (Instr.loadAt 3 t27_24))) fun t28_27 =>
 qL Try.prog w_20 (blk t30_25) (gsem (asB t25_23) false (xV (Instr.loadAt 50 t30_25))) fun t31_28 =>
 qL Try.prog w_20 (blk t34_26) (gsem (asB t25_23) false (xV (Instr.loadAt 50 t34_26))) fun t35_29 =>
 opK Try.prog E (gsem (asB t25_23) false (xCall (Value.func (.func 48) #[] #[]) [(gval (asB t25_23) false x1), t31_28])) w_20 fun t32_30 w_31 =>
 keepX [(blk t34_26), (blk t27_24)] w_20 w_31 (opK Try.prog E (gsem (asB t25_23) false (xCall (Value.func (.func 48) #[] #[]) [(gval (asB t25_23) false x1), t35_29])) w_31 fun t36_32 w_33 =>
 keepX [(blk t27_24)] w_31 w_33 (opK Try.prog E (gsem (asB t25_23) false (xCall (Value.func (.func 47) #[] #[]) [t28_27, t32_30, t36_32])) w_33 fun t37_34 w_35 =>
 keepX [] w_33 w_35 (qP Try.prog (xPick t25_23 (Value.bool true) t37_34) fun t38_36 =>
 xcond t38_36
 (opK Try.prog E (xV (Instr.indexAt 68 x2 x7)) w_35 fun t41_37 w_38 =>
 opK Try.prog E (xV (Instr.loadAt 3 t41_37)) w_38 fun t42_39 w_40 =>
 R t42_39 w_40)
 (opK Try.prog E (xBin .add 3 (.tmp 13) (.const (Value.int .i64 1)) x7 (Value.int .i64 1)) w_35 fun t14_41 w_42 =>
 next2 [t14_41] w_42)))))))
 (j1 [] w_8)
def F21 (x0 x1 x2 : Value) (w : World) (R : Value → World → Prop) (E : Pan) : Prop :=
 opK Try.prog E (xV (Instr.box 26 x0)) w fun t3_1 w_2 =>
 xcut (fun _ w_4 => F21_j1 w_4 R E) fun j1 =>
 xloop [7] [(Value.int .i64 0)] w_2 fun τ_43 w_44 next2 =>
 F21_l2 x1 x2 t3_1 (τ_43 7) w_44 next2 j1 R E
noncomputable def c21 : Code := Try.f21.body.getD .skip
def h21 : Hint := (.seq .none (.cut [] (.seq .none (.block (.loop [7] (.seq (.seq .none (.cond .none .none)) (.seq (.block (.seq (.reg [(0, 32768, 8), (1, 65536, 32768), (0, 131072, 4), (0, 262144, 128), (12, 524288, 393216), (16, 1048576, 524288), (34, 2097152, 1114112), (64, 4194304, 2097152), (0, 256, 0), (511, 0, 4194560)] [162, 160, 162, 162, 162, 130, 162, 34, 162, 0] (.early 0 (.early 2 (.early 3 (.early 4 (.load 1 (.load 5 (.early 6 (.load 7 (.step 8 (.step 9 .done))))))))))) (.seq (.reg [(0, 8388608, 256), (1, 16777216, 8388608), (2, 33554432, 16777216), (4, 67108864, 33554432), (8, 134217728, 67109120), (24, 268435456, 201326592), (8, 536870912, 67108866), (8, 1073741824, 67109120), (136, 2147483648, 1140850688), (328, 4294967296, 2751463424), (8, 8589934592, 67108866), (8, 17179869184, 67109120), (2056, 34359738368, 17246978048), (5640, 68719476736, 43016781824), (8744, 137438953472, 73349988352), (16392, 274877906944, 137506062336)] [4386, 4384, 4386, 4386, 4386, 4354, 4386, 4386, 4130, 4128, 4386, 4386, 290, 32, 0, 4386] (.early 0 (.load 1 (.early 2 (.early 3 (.early 4 (.early 6 (.early 7 (.early 10 (.early 11 (.load 5 (.load 8 (.load 12 (.step 9 (.step 13 (.step 14 (.early 15 .done))))))))))))))))) (.cond (.seq .none .none) .none)))) .none))))) (.seq .none .none)))
theorem F21_eq (x0 x1 x2 : Value) (w : World) (R : Value → World → Prop) (E : Pan) : F21 x0 x1 x2 w R E = callX Try.prog [.tmp 6] c21 h21 [x0, x1, x2] w R E := by kernel_rfl
theorem F21_ok {x0 x1 x2 : Value} {w : World} {R : Value → World → Prop} {E : Pan} (h : F21 x0 x1 x2 w R E) : Cv Try.prog 21 #[x0, x1, x2] w R E := by
 refine callX_sound (args := [x0, x1, x2]) (c := c21) (h := h21) (rs := [.tmp 6]) Try.func21 (by kernel_rfl) (by kernel_rfl) (Nat.le_of_ble_eq_true (by kernel_rfl)) (by kernel_rfl) (by kernel_rfl) (by kernel_rfl) ?_
 rw [← F21_eq]
 exact h

/- function 22: (*gnomon/gnomonref10.state).does -/
def F22_j1 (w : World) (R : Value → World → Prop) (_E : Pan) : Prop :=
 ∀ _τ : Fr, (R (Value.int .i64 0) w)
def F22_j2 (x0 x4 x7 x8 x20 x41 : Value) (w : World) (j1 : List Value → World → Prop) (R : Value → World → Prop) (E : Pan) : Prop :=
 ∀ _τ : Fr, (xcond x41
 (opK Try.prog E (xV (Instr.fieldAt 52 x4 2)) w fun t49_40 w_41 =>
 opK Try.prog E (xV (Instr.loadAt 3 t49_40)) w_41 fun t50_42 w_43 =>
 opK Try.prog E (xBin .add 3 (.const (Value.int .i64 5)) (.tmp 50) (Value.int .i64 5) t50_42) w_43 fun t51_44 w_45 =>
 opK Try.prog E (xBin .sub 3 (.tmp 51) (.const (Value.int .i64 3)) t51_44 (Value.int .i64 3)) w_45 fun t52_46 w_47 =>
 opK Try.prog E (xCall (Value.func (.func 49) #[] #[]) [t52_46, x7, x8]) w_47 fun t55_48 w_49 =>
 opK Try.prog E (xV (Instr.extract t55_48 0)) w_49 fun t56_50 w_51 =>
 opK Try.prog E (xV (Instr.extract t55_48 1)) w_51 fun t57_52 w_53 =>
 opK Try.prog E (xBin .neq 3 (.tmp 58) (.const (Value.int .i64 0)) t57_52 (Value.int .i64 0)) w_53 fun t59_54 w_55 =>
 xcond t59_54
 (R t57_52 w_55)
 (dX w_55 fun w_56 =>
 qP Try.prog (xNil x0) fun t62_57 =>
 qP Try.prog (xV (Instr.fieldAt 71 t62_57 0)) fun t63_58 =>
 qP Try.prog (xV (Instr.fieldAt 52 x4 3)) fun t65_59 =>
 qL Try.prog w_56 (blk t63_58) (xV (Instr.loadAt 27 t63_58)) fun t64_60 =>
 qL Try.prog w_56 (blk t65_59) (xV (Instr.loadAt 3 t65_59)) fun t66_61 =>
 qP Try.prog (xV (Instr.indexAt 27 t64_60 t66_61)) fun t68_62 =>
 opK Try.prog E (xU (Instr.storeAt 2 t68_62 t56_50)) w_56 fun _z_63 w_64 =>
 keepX [] w_56 w_64 (j1 [] w_64)))
 (opK Try.prog E (xBin .eql 3 (.tmp 20) (.const (Value.int .i64 10)) x20 (Value.int .i64 10)) w fun t70_65 w_66 =>
 xcond t70_65
 (opK Try.prog E (xV (Instr.fieldAt 52 x4 4)) w_66 fun t72_67 w_68 =>
 opK Try.prog E (xV (Instr.loadAt 3 t72_67)) w_68 fun t73_69 w_70 =>
 opK Try.prog E (xCall (Value.func (.func 50) #[] #[]) [x0, t73_69, x7]) w_70 fun t75_71 w_72 =>
 opK Try.prog E (xV (Op.unary .not t75_71)) w_72 fun t76_73 w_74 =>
 xcond t76_73
 (R (Value.int .i64 3) w_74)
 (dX w_74 fun w_75 =>
 qP Try.prog (xNil x0) fun t78_76 =>
 qP Try.prog (xV (Instr.fieldAt 71 t78_76 0)) fun t79_77 =>
 qP Try.prog (xV (Instr.fieldAt 52 x4 3)) fun t81_78 =>
 qP Try.prog (xNil x0) fun t84_79 =>
 qP Try.prog (xV (Instr.fieldAt 71 t84_79 1)) fun t85_80 =>
 qP Try.prog (xV (Instr.fieldAt 52 x4 4)) fun t87_81 =>
 qL Try.prog w_75 (blk t79_77) (xV (Instr.loadAt 27 t79_77)) fun t80_82 =>
 qL Try.prog w_75 (blk t81_78) (xV (Instr.loadAt 3 t81_78)) fun t82_83 =>
 qL Try.prog w_75 (blk t85_80) (xV (Instr.loadAt 32 t85_80)) fun t86_84 =>
 qL Try.prog w_75 (blk t87_81) (xV (Instr.loadAt 3 t87_81)) fun t88_85 =>
 qP Try.prog (xV (Instr.indexAt 32 t86_84 t88_85)) fun t89_86 =>
 qL Try.prog w_75 (blk t89_86) (xV (Instr.loadAt 27 t89_86)) fun t90_87 =>
 qP Try.prog (xV (Instr.indexAt 27 t90_87 x7)) fun t92_88 =>
 qL Try.prog w_75 (blk t92_88) (xV (Instr.loadAt 2 t92_88)) fun t93_89 =>
 qP Try.prog (xV (Instr.indexAt 27 t80_82 t82_83)) fun t94_90 =>
 opK Try.prog E (xU (Instr.storeAt 2 t94_90 t93_89)) w_75 fun _z_91 w_92 =>
 keepX [] w_75 w_92 (j1 [] w_92)))
 (opK Try.prog E (xBin .eql 3 (.tmp 20) (.const (Value.int .i64 11)) x20 (Value.int .i64 11)) w_66 fun t96_93 w_94 =>
 xcond t96_93
 (opK Try.prog E (xV (Instr.fieldAt 52 x4 4)) w_94 fun t98_95 w_96 =>
 opK Try.prog E (xV (Instr.loadAt 3 t98_95)) w_96 fun t99_97 w_98 =>
 opK Try.prog E (xCall (Value.func (.func 50) #[] #[]) [x0, t99_97, x7]) w_98 fun t101_99 w_100 =>
 opK Try.prog E (xV (Op.unary .not t101_99)) w_100 fun t102_101 w_102 =>
 xcond t102_101
 (R (Value.int .i64 3) w_102)
 (dX w_102 fun w_103 =>
 qP Try.prog (xNil x0) fun t104_104 =>
 qP Try.prog (xV (Instr.fieldAt 71 t104_104 1)) fun t105_105 =>
 qP Try.prog (xV (Instr.fieldAt 52 x4 4)) fun t107_106 =>
 qL Try.prog w_103 (blk t105_105) (xV (Instr.loadAt 32 t105_105)) fun t106_107 =>
 qL Try.prog w_103 (blk t107_106) (xV (Instr.loadAt 3 t107_106)) fun t108_108 =>
 qP Try.prog (xV (Instr.indexAt 32 t106_107 t108_108)) fun t109_109 =>
 qL Try.prog w_103 (blk t109_109) (xV (Instr.loadAt 27 t109_109)) fun t110_110 =>
 qP Try.prog (xV (Instr.indexAt 27 t110_110 x7)) fun t113_111 =>
 opK Try.prog E (xU (Instr.storeAt 2 t113_111 x8)) w_103 fun _z_112 w_113 =>
 keepX [] w_103 w_113 (j1 [] w_113)))
 (opK Try.prog E (xBin .eql 3 (.tmp 20) (.const (Value.int .i64 14)) x20 (Value.int .i64 14)) w_94 fun t115_114 w_115 =>
 xcond t115_114
 (R (Value.int .i64 4) w_115)
 (j1 [] w_115)))))
def F22 (x0 x1 x2 : Value) (w : World) (R : Value → World → Prop) (E : Pan) : Prop :=
 opK Try.prog E (xV (Instr.box 52 x1)) w fun t4_1 w_2 =>
 dX w_2 fun w_3 =>
 qP Try.prog (xV (Instr.fieldAt 52 t4_1 6)) fun t12_4 =>
 qP Try.prog (xV (Instr.fieldAt 52 t4_1 7)) fun t16_5 =>
 qL Try.prog w_3 (blk t12_4) (xV (Instr.loadAt 50 t12_4)) fun t13_6 =>
 qL Try.prog w_3 (blk t16_5) (xV (Instr.loadAt 50 t16_5)) fun t17_7 =>
 opK Try.prog E (xCall (Value.func (.func 48) #[] #[]) [x0, t13_6]) w_3 fun t14_8 w_9 =>
 keepX [(blk t16_5)] w_3 w_9 (opK Try.prog E (xCall (Value.func (.func 48) #[] #[]) [x0, t17_7]) w_9 fun t18_10 w_11 =>
 keepX [] w_9 w_11 (xcut (fun _ w_13 => F22_j1 w_13 R E) fun j1 =>
 opK Try.prog E (xV (Instr.fieldAt 52 t4_1 2)) w_11 fun t19_14 w_15 =>
 opK Try.prog E (xV (Instr.loadAt 3 t19_14)) w_15 fun t20_16 w_17 =>
 opK Try.prog E (xBin .eql 3 (.tmp 20) (.const (Value.int .i64 2)) t20_16 (Value.int .i64 2)) w_17 fun t22_18 w_19 =>
 xcond t22_18
 (dX w_19 fun w_20 =>
 qP Try.prog (xNil x0) fun t24_21 =>
 qP Try.prog (xV (Instr.fieldAt 71 t24_21 0)) fun t25_22 =>
 qP Try.prog (xV (Instr.fieldAt 52 t4_1 3)) fun t27_23 =>
 qL Try.prog w_20 (blk t25_22) (xV (Instr.loadAt 27 t25_22)) fun t26_24 =>
 qL Try.prog w_20 (blk t27_23) (xV (Instr.loadAt 3 t27_23)) fun t28_25 =>
 qP Try.prog (xV (Instr.indexAt 27 t26_24 t28_25)) fun t30_26 =>
 opK Try.prog E (xU (Instr.storeAt 2 t30_26 t14_8)) w_20 fun _z_27 w_28 =>
 keepX [] w_20 w_28 (j1 [] w_28))
 (opK Try.prog E (xBin .eql 3 (.tmp 20) (.const (Value.int .i64 9)) t20_16 (Value.int .i64 9)) w_19 fun t32_29 w_30 =>
 xcond t32_29
 (dX w_30 fun w_31 =>
 qP Try.prog (xNil x0) fun t34_32 =>
 qP Try.prog (xV (Instr.fieldAt 71 t34_32 0)) fun t35_33 =>
 qP Try.prog (xV (Instr.fieldAt 52 t4_1 3)) fun t37_34 =>
 qL Try.prog w_31 (blk t35_33) (xV (Instr.loadAt 27 t35_33)) fun t36_35 =>
 qL Try.prog w_31 (blk t37_34) (xV (Instr.loadAt 3 t37_34)) fun t38_36 =>
 qP Try.prog (xV (Instr.indexAt 27 t36_35 t38_36)) fun t40_37 =>
 opK Try.prog E (xU (Instr.storeAt 2 t40_37 x2)) w_31 fun _z_38 w_39 =>
 keepX [] w_31 w_39 (j1 [] w_39))
 (xcut (fun l_116 w_117 => F22_j2 x0 t4_1 t14_8 t18_10 t20_16 (nth l_116 0) w_117 j1 R E) fun j2 =>
 opK Try.prog E (xBin .eql 3 (.tmp 20) (.const (Value.int .i64 3)) t20_16 (Value.int .i64 3)) w_30 fun t42_118 w_119 =>
 xcond t42_118
 (j2 [t42_118] w_119)
 (opK Try.prog E (xBin .eql 3 (.tmp 20) (.const (Value.int .i64 4)) t20_16 (Value.int .i64 4)) w_119 fun t43_120 w_121 =>
 xcond t43_120
 (j2 [t43_120] w_121)
 (opK Try.prog E (xBin .eql 3 (.tmp 20) (.const (Value.int .i64 5)) t20_16 (Value.int .i64 5)) w_121 fun t44_122 w_123 =>
 xcond t44_122
 (j2 [t44_122] w_123)
 (opK Try.prog E (xBin .eql 3 (.tmp 20) (.const (Value.int .i64 6)) t20_16 (Value.int .i64 6)) w_123 fun t45_124 w_125 =>
 xcond t45_124
 (j2 [t45_124] w_125)
 (opK Try.prog E (xBin .eql 3 (.tmp 20) (.const (Value.int .i64 7)) t20_16 (Value.int .i64 7)) w_125 fun t46_126 w_127 =>
 xcond t46_126
 (j2 [t46_126] w_127)
 (opK Try.prog E (xBin .eql 3 (.tmp 20) (.const (Value.int .i64 8)) t20_16 (Value.int .i64 8)) w_127 fun t47_128 w_129 =>
 j2 [t47_128] w_129)))))))))
noncomputable def c22 : Code := Try.f22.body.getD .skip
def h22 : Hint := (.seq .none (.seq (.reg [(0, 2048, 1), (0, 4096, 16), (2, 8192, 4096), (5, 16384, 10240), (0, 32768, 1), (0, 65536, 16), (32, 131072, 65536), (88, 262144, 163840), (143, 128, 16384), (511, 256, 262144)] [68, 68, 64, 64, 68, 68, 4, 0, 68, 68] (.early 0 (.early 1 (.early 4 (.early 5 (.load 2 (.load 6 (.step 3 (.step 7 (.early 8 (.early 9 .done))))))))))) (.cut [] (.seq .none (.block (.seq .none (.cond (.reg [(0, 8388608, 1), (1, 16777216, 8388608), (2, 33554432, 16777216), (4, 67108864, 33554432), (0, 134217728, 16), (16, 268435456, 134217728), (0, 536870912, 128), (127, 1073741824, 335544320), (255, 0, 1610612736)] [40, 40, 40, 32, 40, 8, 40, 40, 0] (.early 0 (.early 1 (.early 2 (.early 4 (.early 6 (.load 3 (.load 5 (.early 7 (.step 8 .done)))))))))) (.seq .none (.cond (.reg [(0, 8589934592, 1), (1, 17179869184, 8589934592), (2, 34359738368, 17179869184), (4, 68719476736, 34359738368), (0, 137438953472, 16), (16, 274877906944, 137438953472), (0, 549755813888, 4), (127, 1099511627776, 343597383680), (255, 0, 1649267441664)] [40, 40, 40, 32, 40, 8, 40, 40, 0] (.early 0 (.early 1 (.early 2 (.early 4 (.early 6 (.load 3 (.load 5 (.early 7 (.step 8 .done)))))))))) (.cut [41] (.seq .none (.cond .none (.seq .none (.cond .none (.seq .none (.cond .none (.seq .none (.cond .none (.seq .none (.cond .none .none)))))))))) (.cond (.seq .none (.seq (.seq .none (.cond (.seq .none .none) .none)) (.reg [(0, 2305843009213693952, 1), (1, 4611686018427387904, 2305843009213693952), (2, 9223372036854775808, 4611686018427387904), (4, 18446744073709551616, 9223372036854775808), (0, 36893488147419103232, 16), (16, 73786976294838206464, 36893488147419103232), (0, 147573952589676412928, 512), (127, 295147905179352825856, 92233720368547758080), (255, 0, 442721857769029238784)] [40, 40, 40, 32, 40, 8, 40, 40, 0] (.early 0 (.early 1 (.early 2 (.early 4 (.early 6 (.load 3 (.load 5 (.early 7 (.step 8 .done)))))))))))) (.seq .none (.cond (.seq (.seq .none (.cond (.seq .none .none) .none)) (.reg [(0, 151115727451828646838272, 1), (1, 302231454903657293676544, 151115727451828646838272), (2, 604462909807314587353088, 302231454903657293676544), (4, 1208925819614629174706176, 604462909807314587353088), (0, 2417851639229258349412352, 16), (16, 4835703278458516698824704, 2417851639229258349412352), (0, 9671406556917033397649408, 1), (64, 19342813113834066795298816, 9671406556917033397649408), (128, 38685626227668133590597632, 19342813113834066795298816), (256, 77371252455336267181195264, 38685626227668133590597632), (0, 154742504910672534362390528, 16), (1024, 309485009821345068724781056, 154742504910672534362390528), (2560, 618970019642690137449562112, 386856262276681335905976320), (4096, 1237940039285380274899124224, 618970019642690137449562112), (0, 2475880078570760549798248448, 128), (24576, 4951760157141521099596496896, 3713820117856140824697372672), (32768, 9903520314283042199192993792, 4951760157141521099596496896), (131071, 19807040628566084398385987584, 6044629098073145873530880), (262143, 0, 29710560942849126597578981376)] [76328, 76328, 76328, 76320, 76328, 76296, 76328, 76328, 76328, 75816, 76328, 74280, 76328, 68136, 76328, 76328, 10792, 76328, 0] (.early 0 (.early 1 (.early 2 (.early 4 (.early 6 (.early 7 (.early 8 (.early 10 (.early 14 (.load 3 (.load 5 (.load 9 (.load 11 (.early 12 (.load 13 (.early 15 (.load 16 (.early 17 (.step 18 .done))))))))))))))))))))) (.seq .none (.cond (.seq (.seq .none (.cond (.seq .none .none) .none)) (.reg [(0, 10141204801825835211973625643008, 1), (1, 20282409603651670423947251286016, 10141204801825835211973625643008), (2, 40564819207303340847894502572032, 20282409603651670423947251286016), (4, 81129638414606681695789005144064, 40564819207303340847894502572032), (0, 162259276829213363391578010288128, 16), (16, 324518553658426726783156020576256, 162259276829213363391578010288128), (40, 649037107316853453566312041152512, 405648192073033408478945025720320), (64, 1298074214633706907132624082305024, 649037107316853453566312041152512), (0, 2596148429267413814265248164610048, 128), (0, 5192296858534827628530496329220096, 256), (1023, 10384593717069655257060992658440192, 3894222643901120721397872246915072), (2047, 0, 15576890575604482885591488987660288)] [168, 168, 168, 160, 168, 136, 168, 40, 168, 168, 168, 0] (.early 0 (.early 1 (.early 2 (.early 4 (.early 8 (.early 9 (.load 3 (.load 5 (.early 6 (.load 7 (.early 10 (.step 11 .done)))))))))))))) (.seq .none (.cond (.seq .none .none) .none)))))))))))))) (.seq .none .none))))
theorem F22_eq (x0 x1 x2 : Value) (w : World) (R : Value → World → Prop) (E : Pan) : F22 x0 x1 x2 w R E = callX Try.prog [.tmp 6] c22 h22 [x0, x1, x2] w R E := by kernel_rfl
theorem F22_ok {x0 x1 x2 : Value} {w : World} {R : Value → World → Prop} {E : Pan} (h : F22 x0 x1 x2 w R E) : Cv Try.prog 22 #[x0, x1, x2] w R E := by
 refine callX_sound (args := [x0, x1, x2]) (c := c22) (h := h22) (rs := [.tmp 6]) Try.func22 (by kernel_rfl) (by kernel_rfl) (Nat.le_of_ble_eq_true (by kernel_rfl)) (by kernel_rfl) (by kernel_rfl) (by kernel_rfl) ?_
 rw [← F22_eq]
 exact h

/- function 27: (gnomon/cfg.graph).point -/
def F27 (x0 x1 : Value) (w : World) (R : Value → World → Prop) (E : Pan) : Prop :=
 opK Try.prog E (xV (Instr.box 81 x0)) w fun t2_1 w_2 =>
 opK Try.prog E (xBin .geq 3 (.tmp 5) (.const (Value.int .i64 0)) x1 (Value.int .i64 0)) w_2 fun t6_3 w_4 =>
 opK Try.prog E (gsem (asB t6_3) true (xV (Instr.fieldAt 81 t2_1 0))) w_4 fun t9_5 w_6 =>
 opK Try.prog E (gsem (asB t6_3) true (xV (Instr.fieldAt 26 t9_5 3))) w_6 fun t10_7 w_8 =>
 opK Try.prog E (gsem (asB t6_3) true (xV (Instr.loadAt 3 t10_7))) w_8 fun t11_9 w_10 =>
 opK Try.prog E (gsem (asB t6_3) true (xBin .lss 3 (.tmp 8) (.tmp 11) (gval (asB t6_3) true x1) t11_9)) w_10 fun t12_11 w_12 =>
 opK Try.prog E (xPick t6_3 t12_11 (Value.bool false)) w_12 fun t13_13 w_14 =>
 R t13_13 w_14
noncomputable def c27 : Code := Try.f27.body.getD .skip
def h27 : Hint := (.seq .none (.seq .none .none))
theorem F27_eq (x0 x1 : Value) (w : World) (R : Value → World → Prop) (E : Pan) : F27 x0 x1 w R E = callX Try.prog [.tmp 4] c27 h27 [x0, x1] w R E := by kernel_rfl
theorem F27_ok {x0 x1 : Value} {w : World} {R : Value → World → Prop} {E : Pan} (h : F27 x0 x1 w R E) : Cv Try.prog 27 #[x0, x1] w R E := by
 refine callX_sound (args := [x0, x1]) (c := c27) (h := h27) (rs := [.tmp 4]) Try.func27 (by kernel_rfl) (by kernel_rfl) (Nat.le_of_ble_eq_true (by kernel_rfl)) (by kernel_rfl) (by kernel_rfl) (by kernel_rfl) ?_
 rw [← F27_eq]
 exact h

/- function 28: (gnomon/cfg.graph).right -/
def F28 (x0 x1 : Value) (w : World) (R : Value → World → Prop) (E : Pan) : Prop :=
 opK Try.prog E (xV (Instr.box 81 x0)) w fun t2_1 w_2 =>
 opK Try.prog E (xV (Instr.box 52 x1)) w_2 fun t3_3 w_4 =>
 opK Try.prog E (xV (Instr.loadAt 81 t2_1)) w_4 fun t6_5 w_6 =>
 opK Try.prog E (xV (Instr.fieldAt 52 t3_3 0)) w_6 fun t7_7 w_8 =>
 opK Try.prog E (xV (Instr.loadAt 3 t7_7)) w_8 fun t8_9 w_10 =>
 opK Try.prog E (xCall (Value.func (.func 27) #[] #[]) [t6_5, t8_9]) w_10 fun t9_11 w_12 =>
 opK Try.prog E (xV (Op.unary .not t9_11)) w_12 fun t10_13 w_14 =>
 opK Try.prog E (gsem (asB t10_13) false (xV (Instr.loadAt 81 t2_1))) w_14 fun t12_15 w_16 =>
 opK Try.prog E (gsem (asB t10_13) false (xV (Instr.fieldAt 52 t3_3 1))) w_16 fun t13_17 w_18 =>
 opK Try.prog E (gsem (asB t10_13) false (xV (Instr.loadAt 3 t13_17))) w_18 fun t14_19 w_20 =>
 opK Try.prog E (gsem (asB t10_13) false (xCall (Value.func (.func 27) #[] #[]) [t12_15, t14_19])) w_20 fun t15_21 w_22 =>
 opK Try.prog E (gsem (asB t10_13) false (xV (Op.unary .not t15_21))) w_22 fun t16_23 w_24 =>
 opK Try.prog E (xPick t10_13 (Value.bool true) t16_23) w_24 fun t17_25 w_26 =>
 opK Try.prog E (gsem (asB t17_25) false (xV (Instr.fieldAt 52 t3_3 0))) w_26 fun t19_27 w_28 =>
 opK Try.prog E (gsem (asB t17_25) false (xV (Instr.loadAt 3 t19_27))) w_28 fun t20_29 w_30 =>
 opK Try.prog E (gsem (asB t17_25) false (xV (Instr.fieldAt 81 t2_1 0))) w_30 fun t21_31 w_32 =>
 opK Try.prog E (gsem (asB t17_25) false (xV (Instr.fieldAt 26 t21_31 4))) w_32 fun t22_33 w_34 =>
 opK Try.prog E (gsem (asB t17_25) false (xV (Instr.loadAt 3 t22_33))) w_34 fun t23_35 w_36 =>
 opK Try.prog E (gsem (asB t17_25) false (xBin .eql 3 (.tmp 20) (.tmp 23) t20_29 t23_35)) w_36 fun t24_37 w_38 =>
 opK Try.prog E (xPick t17_25 (Value.bool true) t24_37) w_38 fun t25_39 w_40 =>
 opK Try.prog E (gsem (asB t25_39) false (xV (Instr.fieldAt 52 t3_3 2))) w_40 fun t27_41 w_42 =>
 opK Try.prog E (gsem (asB t25_39) false (xV (Instr.loadAt 3 t27_41))) w_42 fun t28_43 w_44 =>
 opK Try.prog E (gsem (asB t25_39) false (xBin .lss 3 (.tmp 28) (.const (Value.int .i64 1)) t28_43 (Value.int .i64 1))) w_44 fun t29_45 w_46 =>
 opK Try.prog E (xPick t25_39 (Value.bool true) t29_45) w_46 fun t30_47 w_48 =>
 opK Try.prog E (gsem (asB t30_47) false (xV (Instr.fieldAt 52 t3_3 2))) w_48 fun t32_49 w_50 =>
 opK Try.prog E (gsem (asB t30_47) false (xV (Instr.loadAt 3 t32_49))) w_50 fun t33_51 w_52 =>
 opK Try.prog E (gsem (asB t30_47) false (xBin .gtr 3 (.tmp 33) (.const (Value.int .i64 14)) t33_51 (Value.int .i64 14))) w_52 fun t34_53 w_54 =>
 opK Try.prog E (xPick t30_47 (Value.bool true) t34_53) w_54 fun t35_55 w_56 =>
 xcond t35_55
 (R (Value.bool false) w_56)
 (opK Try.prog E (xV (Instr.fieldAt 52 t3_3 2)) w_56 fun t36_57 w_58 =>
 opK Try.prog E (xV (Instr.loadAt 3 t36_57)) w_58 fun t37_59 w_60 =>
 opK Try.prog E (xCall (Value.func (.func 51) #[] #[]) [t37_59]) w_60 fun t38_61 w_62 =>
 opK Try.prog E (xV (Instr.alloc 95 true (.tuple #[]))) w_62 fun t5_63 w_64 =>
 opK Try.prog E (xU (Instr.storeAt 95 t5_63 t38_61)) w_64 fun _z_65 w_66 =>
 dX w_66 fun w_67 =>
 qP Try.prog (xV (Instr.fieldAt 95 t5_63 0)) fun t39_68 =>
 qP Try.prog (xV (Instr.fieldAt 52 t3_3 3)) fun t42_69 =>
 qP Try.prog (xV (Instr.fieldAt 52 t3_3 3)) fun t45_70 =>
 qL Try.prog w_67 (blk t39_68) (xV (Instr.loadAt 4 t39_68)) fun t40_71 =>
 qL Try.prog w_67 (blk t2_1) (xV (Instr.loadAt 81 t2_1)) fun t41_72 =>
 qL Try.prog w_67 (blk t42_69) (xV (Instr.loadAt 3 t42_69)) fun t43_73 =>
 qL Try.prog w_67 (blk t45_70) (xV (Instr.loadAt 3 t45_70)) fun t46_74 =>
 qP Try.prog (xBin .eql 3 (.tmp 46) (.const (Value.int .i64 (-1))) t46_74 (Value.int .i64 (-1))) fun t47_75 =>
 opK Try.prog E (xCall (Value.func (.func 53) #[] #[]) [t41_72, t43_73]) w_67 fun t44_76 w_77 =>
 keepX [(blk t45_70), (blk t39_68)] w_67 w_77 (opK Try.prog E (xCall (Value.func (.func 52) #[] #[]) [t40_71, t44_76, t47_75]) w_77 fun t48_78 w_79 =>
 keepX [] w_77 w_79 (qP Try.prog (gsem (asB t48_78) true (xV (Instr.fieldAt 95 t5_63 1))) fun t50_80 =>
 qP Try.prog (gsem (asB t48_78) true (xV (Instr.fieldAt 52 t3_3 4))) fun t53_81 =>
 qP Try.prog (gsem (asB t48_78) true (xV (Instr.fieldAt 52 t3_3 4))) fun t56_82 =>
 qL Try.prog w_79 (blk t50_80) (gsem (asB t48_78) true (xV (Instr.loadAt 4 t50_80))) fun t51_83 =>
 qL Try.prog w_79 (blk t2_1) (gsem (asB t48_78) true (xV (Instr.loadAt 81 t2_1))) fun t52_84 =>
 qL Try.prog w_79 (blk t53_81) (gsem (asB t48_78) true (xV (Instr.loadAt 3 t53_81))) fun t54_85 =>
 qL Try.prog w_79 (blk t56_82) (gsem (asB t48_78) true (xV (Instr.loadAt 3 t56_82))) fun t57_86 =>
 qP Try.prog (gsem (asB t48_78) true (xBin .eql 3 (.tmp 57) (.const (Value.int .i64 (-1))) t57_86 (Value.int .i64 (-1)))) fun t58_87 =>
 opK Try.prog E (gsem (asB t48_78) true (xCall (Value.func (.func 54) #[] #[]) [t52_84, t54_85])) w_79 fun t55_88 w_89 =>
 keepX [(blk t56_82), (blk t50_80)] w_79 w_89 (opK Try.prog E (gsem (asB t48_78) true (xCall (Value.func (.func 52) #[] #[]) [t51_83, t55_88, t58_87])) w_89 fun t59_90 w_91 =>
 keepX [] w_89 w_91 (qP Try.prog (xPick t48_78 t59_90 (Value.bool false)) fun t60_92 =>
 qP Try.prog (gsem (asB t60_92) true (xV (Instr.fieldAt 95 t5_63 2))) fun t62_93 =>
 qP Try.prog (gsem (asB t60_92) true (xV (Instr.fieldAt 52 t3_3 5))) fun t64_94 =>
 qP Try.prog (gsem (asB t60_92) true (xV (Instr.fieldAt 52 t3_3 5))) fun t72_95 =>
 qL Try.prog w_91 (blk t62_93) (gsem (asB t60_92) true (xV (Instr.loadAt 4 t62_93))) fun t63_96 =>
 qL Try.prog w_91 (blk t64_94) (gsem (asB t60_92) true (xV (Instr.loadAt 3 t64_94))) fun t65_97 =>
 qP Try.prog (gsem (asB t60_92) true (xBin .geq 3 (.tmp 65) (.const (Value.int .i64 1)) t65_97 (Value.int .i64 1))) fun t66_98 =>
 qP Try.prog (gsem (asB (gval (asB t60_92) true t66_98)) true (xV (Instr.fieldAt 52 t3_3 5))) fun t68_99 =>
 qL Try.prog w_91 (blk t68_99) (gsem (asB (gval (asB t60_92) true t66_98)) true (xV (Instr.loadAt 3 t68_99))) fun t69_100 =>
 qP Try.prog (gsem (asB (gval (asB t60_92) true t66_98)) true (xBin .leq 3 (.tmp 69) (.const (Value.int .i64 6)) t69_100 (Value.int .i64 6))) fun t70_101 =>
 qP Try.prog (gsem (asB t60_92) true (xPick (gval (asB t60_92) true t66_98) t70_101 (Value.bool false))) fun t71_102 =>
 qL Try.prog w_91 (blk t72_95) (gsem (asB t60_92) true (xV (Instr.loadAt 3 t72_95))) fun t73_103 =>
 qP Try.prog (gsem (asB t60_92) true (xBin .eql 3 (.tmp 73) (.const (Value.int .i64 0)) t73_103 (Value.int .i64 0))) fun t74_104 =>
 opK Try.prog E (gsem (asB t60_92) true (xCall (Value.func (.func 52) #[] #[]) [t63_96, t71_102, t74_104])) w_91 fun t75_105 w_106 =>
 keepX [] w_91 w_106 (qP Try.prog (xPick t60_92 t75_105 (Value.bool false)) fun t76_107 =>
 qP Try.prog (gsem (asB t76_107) true (xV (Instr.fieldAt 95 t5_63 3))) fun t78_108 =>
 qP Try.prog (gsem (asB t76_107) true (xV (Instr.fieldAt 52 t3_3 6))) fun t81_109 =>
 qP Try.prog (gsem (asB t76_107) true (xV (Instr.fieldAt 52 t3_3 6))) fun t84_110 =>
 qL Try.prog w_106 (blk t78_108) (gsem (asB t76_107) true (xV (Instr.loadAt 4 t78_108))) fun t79_111 =>
 qL Try.prog w_106 (blk t2_1) (gsem (asB t76_107) true (xV (Instr.loadAt 81 t2_1))) fun t80_112 =>
 qL Try.prog w_106 (blk t81_109) (gsem (asB t76_107) true (xV (Instr.loadAt 50 t81_109))) fun t82_113 =>
 qL Try.prog w_106 (blk t84_110) (gsem (asB t76_107) true (xV (Instr.loadAt 50 t84_110))) fun t85_114 =>
 opK Try.prog E (gsem (asB t76_107) true (xCall (Value.func (.func 55) #[] #[]) [t80_112, t82_113])) w_106 fun t83_115 w_116 =>
 keepX [(blk t84_110), (blk t78_108)] w_106 w_116 (opK Try.prog E (gsem (asB t76_107) true (xCall (Value.func (.func 56) #[] #[]) [])) w_116 fun t86_117 w_118 =>
 keepX [(blk t84_110), (blk t78_108)] w_116 w_118 (qP Try.prog (gsem (asB t76_107) true (xBin .eql 50 (.tmp 85) (.tmp 86) t85_114 t86_117)) fun t87_119 =>
 opK Try.prog E (gsem (asB t76_107) true (xCall (Value.func (.func 52) #[] #[]) [t79_111, t83_115, t87_119])) w_118 fun t88_120 w_121 =>
 keepX [] w_118 w_121 (qP Try.prog (xPick t76_107 t88_120 (Value.bool false)) fun t89_122 =>
 qP Try.prog (gsem (asB t89_122) true (xV (Instr.fieldAt 95 t5_63 4))) fun t91_123 =>
 qP Try.prog (gsem (asB t89_122) true (xV (Instr.fieldAt 52 t3_3 7))) fun t94_124 =>
 qP Try.prog (gsem (asB t89_122) true (xV (Instr.fieldAt 52 t3_3 7))) fun t97_125 =>
 qL Try.prog w_121 (blk t91_123) (gsem (asB t89_122) true (xV (Instr.loadAt 4 t91_123))) fun t92_126 =>
 qL Try.prog w_121 (blk t2_1) (gsem (asB t89_122) true (xV (Instr.loadAt 81 t2_1))) fun t93_127 =>
 qL Try.prog w_121 (blk t94_124) (gsem (asB t89_122) true (xV (Instr.loadAt 50 t94_124))) fun t95_128 =>
 qL Try.prog w_121 (blk t97_125) (gsem (asB t89_122) true (xV (Instr.loadAt 50 t97_125))) fun t98_129 =>
 opK Try.prog E (gsem (asB t89_122) true (xCall (Value.func (.func 55) #[] #[]) [t93_127, t95_128])) w_121 fun t96_130 w_131 =>
 keepX [(blk t97_125), (blk t91_123)] w_121 w_131 (opK Try.prog E (gsem (asB t89_122) true (xCall (Value.func (.func 56) #[] #[]) [])) w_131 fun t99_132 w_133 =>
 keepX [(blk t97_125), (blk t91_123)] w_131 w_133 (qP Try.prog (gsem (asB t89_122) true (xBin .eql 50 (.tmp 98) (.tmp 99) t98_129 t99_132)) fun t100_134 =>
 opK Try.prog E (gsem (asB t89_122) true (xCall (Value.func (.func 52) #[] #[]) [t92_126, t96_130, t100_134])) w_133 fun t101_135 w_136 =>
 keepX [] w_133 w_136 (qP Try.prog (xPick t89_122 t101_135 (Value.bool false)) fun t102_137 =>
 R t102_137 w_136))))))))))))
noncomputable def c28 : Code := Try.f28.body.getD .skip
def h28 : Hint := (.seq .none (.seq (.seq .none (.cond (.seq .none .none) .none)) (.seq .none (.seq (.reg [(0, 549755813888, 32), (1, 1099511627776, 549755813888), (0, 2199023255552, 4), (0, 4398046511104, 8), (8, 8796093022208, 4398046511104), (20, 17592186044416, 10995116277760), (0, 35184372088832, 8), (64, 70368744177664, 35184372088832), (128, 140737488355328, 70368744177664), (290, 281474976710656, 159429186027520), (512, 562949953421312, 281474976710656), (1024, 1125899906842624, 562949953421344), (3072, 2251799813685248, 1688849860263936), (1024, 4503599627370496, 562949953421316), (1024, 9007199254740992, 562949953421320), (17408, 18014398509481984, 9570149208162304), (41984, 36028797018963968, 23080948090273792), (1024, 72057594037927936, 562949953421320), (132096, 144115188075855872, 72620543991349248), (263168, 288230376151711744, 144678138029277184), (594944, 576460752303423488, 327073922937782272), (1049600, 1152921504606846976, 577023702256844800), (3145728, 2305843009213693952, 1152921504606846976), (4194304, 4611686018427387904, 2305843009213693984), (12582912, 9223372036854775808, 6917529027641081856), (4194304, 18446744073709551616, 2305843009213693960), (37748736, 36893488147419103232, 20752587082923245568), (71303168, 73786976294838206464, 39199331156632797184), (138412032, 147573952589676412928, 76092819304051900416), (268435456, 295147905179352825856, 147573952589676412936), (805306368, 590295810358705651712, 442721857769029238784), (1342177280, 1180591620717411303424, 737869762948382064640), (2420113408, 2361183241434822606848, 1330471416316301410304), (4194304, 4722366482869645213696, 2305843009213693960), (8594128896, 9444732965739290427392, 4724672325878858907648), (17184063488, 18889465931478580854784, 9447038808748504121344), (38944112640, 37778931862957161709568, 21262178387959471931392), (68723671040, 75557863725914323419136, 37781237705966375403520), (206158430208, 151115727451828646838272, 75557863725914323419136), (274877906944, 302231454903657293676544, 151115727451828646838304), (824633720832, 604462909807314587353088, 453347182355485940514816), (274877906944, 1208925819614629174706176, 151115727451828646838276), (274877906944, 2417851639229258349412352, 151115727451828646838280), (4672924418048, 4835703278458516698824704, 2568967366681086996250624), (11269994184704, 9671406556917033397649408, 6195744825524974520369152), (274877906944, 19342813113834066795298816, 151115727451828646838280), (35459249995776, 38685626227668133590597632, 19493928841285895442137088), (17867063951360, 77371252455336267181195264, 151115727451828646838272), (211381110439936, 154742504910672534362390528, 116207994410456229418631168), (441179040645120, 309485009821345068724781056, 165169490104848710994231296), (563224831328256, 618970019642690137449562112, 309636125548796897371619328), (1688849860263936, 1237940039285380274899124224, 618970019642690137449562112), (2251799813685248, 2475880078570760549798248448, 1237940039285380274899124256), (6755399441055744, 4951760157141521099596496896, 3713820117856140824697372672), (2251799813685248, 9903520314283042199192993792, 1237940039285380274899124228), (2251799813685248, 19807040628566084398385987584, 1237940039285380274899124232), (38280596832649216, 39614081257132168796771975168, 21044980667851464673285111808), (92323792361095168, 79228162514264337593543950336, 50755541610700591270864093184), (2251799813685248, 158456325028528675187087900672, 1237940039285380274899124232), (290482175965396992, 316912650057057350374175801344, 159694265067814055461987024896), (146366987889541120, 633825300114114700748351602688, 1237940039285380274899124224), (1731634056723955712, 1267650600228229401496703205376, 951975890210457431397426528256), (3614138700964823040, 2535301200456458802993406410752, 1353068462938920640464742776832), (4613937818241073152, 5070602400912917605986812821504, 2536539140495744183268305534976), (18446744073709551615, 16, 5070602400912917605986812821504)] [675622425815462038, 675622425815462036, 675622425815462034, 675622425815462038, 675622425815462022, 130, 675622425815462038, 675622425815461910, 675622425815462038, 0, 675622425815462038, 675622425815462038, 675622425815457942, 675622425815453846, 675622425815462038, 675622425815429270, 266240, 675622425815462038, 675622425815199894, 675622425815462038, 0, 675622425815462038, 675622425815462038, 675622425815462038, 675622425798684822, 675622425815462038, 675622425748353174, 675622425815462038, 675622425815462038, 675622425815462038, 675622424741720214, 675622425815462038, 675622425815462038, 675622425815462038, 675622408635592854, 675622425815462038, 0, 675622425815462038, 675622425815462038, 675622425815462038, 675621326303834262, 675620226792206486, 675622425815462038, 675613629722439830, 71468255805440, 675622425815462038, 675552057071284374, 71468255805440, 675622425815462038, 0, 675622425815462038, 675622425815462038, 675622425815462038, 666615226560721046, 657608027305980054, 675622425815462038, 603564831777534102, 585467951558164480, 675622425815462038, 99161673512038550, 585467951558164480, 675622425815462038, 0, 675622425815462038, 675622425815462038] (.early 0 (.early 3 (.early 6 (.load 1 (.load 2 (.load 4 (.load 7 (.early 8 (.step 5 (.step 9 (.early 10 (.early 11 (.early 14 (.early 17 (.load 12 (.load 13 (.load 15 (.load 18 (.early 19 (.step 16 (.step 20 (.early 21 (.early 22 (.early 23 (.early 25 (.early 33 (.load 24 (.load 26 (.early 27 (.early 28 (.early 29 (.load 30 (.early 31 (.early 32 (.load 34 (.early 35 (.step 36 (.early 37 (.early 38 (.early 39 (.early 42 (.early 45 (.load 40 (.load 41 (.load 43 (.load 46 (.step 44 (.step 47 (.early 48 (.step 49 (.early 50 (.early 51 (.early 52 (.early 55 (.early 58 (.load 53 (.load 54 (.load 56 (.load 59 (.step 57 (.step 60 (.early 61 (.step 62 (.early 63 (.early 64 .done)))))))))))))))))))))))))))))))))))))))))))))))))))))))))))))))))) .none))))
theorem F28_eq (x0 x1 : Value) (w : World) (R : Value → World → Prop) (E : Pan) : F28 x0 x1 w R E = callX Try.prog [.tmp 4] c28 h28 [x0, x1] w R E := by kernel_rfl
theorem F28_ok {x0 x1 : Value} {w : World} {R : Value → World → Prop} {E : Pan} (h : F28 x0 x1 w R E) : Cv Try.prog 28 #[x0, x1] w R E := by
 refine callX_sound (args := [x0, x1]) (c := c28) (h := h28) (rs := [.tmp 4]) Try.func28 (by kernel_rfl) (by kernel_rfl) (Nat.le_of_ble_eq_true (by kernel_rfl)) (by kernel_rfl) (by kernel_rfl) (by kernel_rfl) ?_
 rw [← F28_eq]
 exact h

/- function 29: gnomon/cfg.goes -/
def F29_j1 (x3 x4 : Value) (w : World) (R : Value → World → Prop) (E : Pan) : Prop :=
 ∀ _τ : Fr, (dX w fun w_17 =>
 qP Try.prog (xV (Instr.fieldAt 52 x3 2)) fun t24_18 =>
 qL Try.prog w_17 (blk t24_18) (xV (Instr.loadAt 3 t24_18)) fun t25_19 =>
 qP Try.prog (xBin .eql 3 (.tmp 25) (.const (Value.int .i64 12)) t25_19 (Value.int .i64 12)) fun t26_20 =>
 qP Try.prog (gsem (asB t26_20) true (xV (Instr.fieldAt 52 x4 2))) fun t28_21 =>
 qL Try.prog w_17 (blk t28_21) (gsem (asB t26_20) true (xV (Instr.loadAt 3 t28_21))) fun t29_22 =>
 qP Try.prog (gsem (asB t26_20) true (xBin .eql 3 (.tmp 29) (.const (Value.int .i64 12)) t29_22 (Value.int .i64 12))) fun t30_23 =>
 qP Try.prog (xPick t26_20 t30_23 (Value.bool false)) fun t31_24 =>
 qP Try.prog (gsem (asB t31_24) true (xV (Instr.fieldAt 52 x3 6))) fun t33_25 =>
 qP Try.prog (gsem (asB t31_24) true (xV (Instr.fieldAt 52 x4 6))) fun t35_26 =>
 qL Try.prog w_17 (blk t33_25) (gsem (asB t31_24) true (xV (Instr.loadAt 50 t33_25))) fun t34_27 =>
 qL Try.prog w_17 (blk t35_26) (gsem (asB t31_24) true (xV (Instr.loadAt 50 t35_26))) fun t36_28 =>
 qP Try.prog (gsem (asB t31_24) true (xBin .eql 50 (.tmp 34) (.tmp 36) t34_27 t36_28)) fun t37_29 =>
 qP Try.prog (xPick t31_24 t37_29 (Value.bool false)) fun t38_30 =>
 qP Try.prog (gsem (asB t38_30) true (xV (Instr.fieldAt 52 x3 7))) fun t40_31 =>
 qP Try.prog (gsem (asB t38_30) true (xV (Instr.fieldAt 52 x4 7))) fun t42_32 =>
 qL Try.prog w_17 (blk t40_31) (gsem (asB t38_30) true (xV (Instr.loadAt 50 t40_31))) fun t41_33 =>
 qL Try.prog w_17 (blk t42_32) (gsem (asB t38_30) true (xV (Instr.loadAt 50 t42_32))) fun t43_34 =>
 qP Try.prog (gsem (asB t38_30) true (xBin .eql 50 (.tmp 41) (.tmp 43) t41_33 t43_34)) fun t44_35 =>
 qP Try.prog (xPick t38_30 t44_35 (Value.bool false)) fun t45_36 =>
 qP Try.prog (gsem (asB t45_36) true (xV (Instr.fieldAt 52 x4 5))) fun t47_37 =>
 qP Try.prog (gsem (asB t45_36) true (xV (Instr.fieldAt 52 x3 5))) fun t49_38 =>
 qL Try.prog w_17 (blk t47_37) (gsem (asB t45_36) true (xV (Instr.loadAt 3 t47_37))) fun t48_39 =>
 qL Try.prog w_17 (blk t49_38) (gsem (asB t45_36) true (xV (Instr.loadAt 3 t49_38))) fun t50_40 =>
 opK Try.prog E (gsem (asB t45_36) true (xCall (Value.func (.func 57) #[] #[]) [t50_40])) w_17 fun t51_41 w_42 =>
 keepX [(blk t47_37)] w_17 w_42 (qP Try.prog (gsem (asB t45_36) true (xBin .eql 3 (.tmp 48) (.tmp 51) t48_39 t51_41)) fun t52_43 =>
 qP Try.prog (xPick t45_36 t52_43 (Value.bool false)) fun t53_44 =>
 R t53_44 w_42))
def F29 (x0 : Value) (w : World) (R : Value → World → Prop) (E : Pan) : Prop :=
 opK Try.prog E (xBuiltin .len #[24] 3 [false] [x0]) w fun t6_1 w_2 =>
 opK Try.prog E (xBin .eql 3 (.tmp 6) (.const (Value.int .i64 0)) t6_1 (Value.int .i64 0)) w_2 fun t8_3 w_4 =>
 xcond t8_3
 (R (Value.bool true) w_4)
 (opK Try.prog E (xBin .eql 3 (.tmp 6) (.const (Value.int .i64 1)) t6_1 (Value.int .i64 1)) w_4 fun t10_5 w_6 =>
 xcond t10_5
 (opK Try.prog E (xV (Instr.indexAt 24 x0 (Value.int .i64 0))) w_6 fun t12_7 w_8 =>
 opK Try.prog E (xV (Instr.fieldAt 52 t12_7 2)) w_8 fun t13_9 w_10 =>
 opK Try.prog E (xV (Instr.loadAt 3 t13_9)) w_10 fun t14_11 w_12 =>
 opK Try.prog E (xBin .neq 3 (.tmp 14) (.const (Value.int .i64 12)) t14_11 (Value.int .i64 12)) w_12 fun t15_13 w_14 =>
 R t15_13 w_14)
 (opK Try.prog E (xBin .eql 3 (.tmp 6) (.const (Value.int .i64 2)) t6_1 (Value.int .i64 2)) w_6 fun t17_15 w_16 =>
 xcond t17_15
 (xcut (fun l_45 w_46 => F29_j1 (nth l_45 0) (nth l_45.tail 0) w_46 R E) fun j1 =>
 dX w_16 fun w_47 =>
 qP Try.prog (xV (Instr.indexAt 24 x0 (Value.int .i64 0))) fun t19_48 =>
 qP Try.prog (xV (Instr.indexAt 24 x0 (Value.int .i64 1))) fun t22_49 =>
 qL Try.prog w_47 (blk t19_48) (xV (Instr.loadAt 52 t19_48)) fun t20_50 =>
 qL Try.prog w_47 (blk t22_49) (xV (Instr.loadAt 52 t22_49)) fun t23_51 =>
 (opK Try.prog E (xV (Instr.alloc 52 true (.tuple #[]))) w_47 fun t3_52 w_53 =>
 keepX [(blk t22_49), (blk t19_48)] w_47 w_53 (opK Try.prog E (xV (Instr.alloc 52 true (.tuple #[]))) w_53 fun t4_54 w_55 =>
 keepX [(blk t22_49), (blk t19_48)] w_53 w_55 (opK Try.prog E (xU (Instr.storeAt 52 t3_52 t20_50)) w_55 fun _z_56 w_57 =>
 keepX [(blk t22_49)] w_55 w_57 (opK Try.prog E (xU (Instr.storeAt 52 t4_54 t23_51)) w_57 fun _z_58 w_59 =>
 keepX [] w_57 w_59 (j1 [t3_52, t4_54] w_59))))) ∧
 (opK Try.prog E (xV (Instr.alloc 52 true (.tuple #[]))) w_47 fun t4_60 w_61 =>
 keepX [(blk t22_49), (blk t19_48)] w_47 w_61 (opK Try.prog E (xV (Instr.alloc 52 true (.tuple #[]))) w_61 fun t3_62 w_63 =>
 keepX [(blk t22_49), (blk t19_48)] w_61 w_63 (opK Try.prog E (xU (Instr.storeAt 52 t3_62 t20_50)) w_63 fun _z_64 w_65 =>
 keepX [(blk t22_49)] w_63 w_65 (opK Try.prog E (xU (Instr.storeAt 52 t4_60 t23_51)) w_65 fun _z_66 w_67 =>
 keepX [] w_65 w_67 (j1 [t3_62, t4_60] w_67))))))
 (R (Value.bool false) w_16)))
noncomputable def c29 : Code := Try.f29.body.getD .skip
def h29 : Hint := (.seq .none (.seq (.seq .none (.block (.seq .none (.cond (.seq .none .none) (.seq .none (.cond (.seq .none .none) (.seq .none (.cond (.cut [3, 4] (.reg [(0, 262144, 1), (1, 524288, 262144), (2, 1048576, 524288), (0, 2097152, 1), (8, 4194304, 2097152), (16, 8388608, 4194304), (0, 8, 0), (0, 16, 0), (199, 0, 1048584), (511, 0, 8388624)] [36, 36, 32, 36, 36, 4, 36, 36, 32, 0] (.early 0 (.early 1 (.early 3 (.early 4 (.load 2 (.load 5 (.alt 6 (.step 7 (.step 8 (.step 9 .done))) (.step 7 (.step 6 (.step 8 (.step 9 .done)))))))))))) (.seq (.reg [(0, 16777216, 8), (1, 33554432, 16777216), (2, 67108864, 33554432), (4, 134217728, 67108864), (8, 268435456, 134217744), (24, 536870912, 402653184), (40, 1073741824, 671088640), (72, 2147483648, 1207959552), (136, 4294967296, 2147483648), (256, 8589934592, 4294967304), (768, 17179869184, 12884901888), (256, 34359738368, 4294967312), (2304, 68719476736, 38654705664), (5376, 137438953472, 90194313216), (8448, 274877906944, 141733920768), (16640, 549755813888, 274877906944), (32768, 1099511627776, 549755813896), (98304, 2199023255552, 1649267441664), (32768, 4398046511104, 549755813904), (294912, 8796093022208, 4947802324992), (688128, 17592186044416, 11544872091648), (1081344, 35184372088832, 18141941858304), (2129920, 70368744177664, 35184372088832), (4194304, 140737488355328, 70368744177680), (12582912, 281474976710656, 211106232532992), (4194304, 562949953421312, 70368744177672), (37748736, 1125899906842624, 633318697598976), (71303168, 2251799813685248, 1196268651020288), (155189248, 4503599627370496, 2603643534573568), (272629760, 9007199254740992, 4573968371548160), (1073741823, 4, 9007199254740992)] [84546594, 84546592, 84546594, 84546594, 84546594, 84546562, 84546594, 84546594, 84546594, 84546594, 84545570, 84546594, 84542498, 84546594, 84546594, 84546594, 84546594, 84415522, 84546594, 84022306, 84546594, 84546594, 84546594, 84546594, 67769378, 84546594, 17437730, 16777216, 84546594, 84546594, 84546594] (.early 0 (.load 1 (.early 2 (.early 3 (.early 4 (.load 5 (.early 6 (.early 7 (.early 8 (.early 9 (.early 11 (.load 10 (.load 12 (.early 13 (.early 14 (.early 15 (.early 16 (.early 18 (.load 17 (.load 19 (.early 20 (.early 21 (.early 22 (.early 23 (.early 25 (.load 24 (.load 26 (.step 27 (.early 28 (.early 29 (.early 30 .done)))))))))))))))))))))))))))))))) .none)) .none)))))))) (.seq .none .none)))
theorem F29_eq (x0 : Value) (w : World) (R : Value → World → Prop) (E : Pan) : F29 x0 w R E = callX Try.prog [.tmp 2] c29 h29 [x0] w R E := by kernel_rfl
theorem F29_ok {x0 : Value} {w : World} {R : Value → World → Prop} {E : Pan} (h : F29 x0 w R E) : Cv Try.prog 29 #[x0] w R E := by
 refine callX_sound (args := [x0]) (c := c29) (h := h29) (rs := [.tmp 2]) Try.func29 (by kernel_rfl) (by kernel_rfl) (Nat.le_of_ble_eq_true (by kernel_rfl)) (by kernel_rfl) (by kernel_rfl) (by kernel_rfl) ?_
 rw [← F29_eq]
 exact h

/- function 30: (*gnomon/step.state).nothing -/
def F30 (_x0 x1 : Value) (w : World) (R : Value → World → Prop) (E : Pan) : Prop :=
 opK Try.prog E (xV (Instr.box 52 x1)) w fun _t3_1 w_2 =>
 R (Value.int .i64 0) w_2
noncomputable def c30 : Code := Try.f30.body.getD .skip
def h30 : Hint := (.seq .none (.seq .none .none))
theorem F30_eq (x0 x1 : Value) (w : World) (R : Value → World → Prop) (E : Pan) : F30 x0 x1 w R E = callX Try.prog [.tmp 4] c30 h30 [x0, x1] w R E := by kernel_rfl
theorem F30_ok {x0 x1 : Value} {w : World} {R : Value → World → Prop} {E : Pan} (h : F30 x0 x1 w R E) : Cv Try.prog 30 #[x0, x1] w R E := by
 refine callX_sound (args := [x0, x1]) (c := c30) (h := h30) (rs := [.tmp 4]) Try.func30 (by kernel_rfl) (by kernel_rfl) (Nat.le_of_ble_eq_true (by kernel_rfl)) (by kernel_rfl) (by kernel_rfl) (by kernel_rfl) ?_
 rw [← F30_eq]
 exact h

/- function 31: (*gnomon/step.state).copies -/
def F31 (x0 x1 : Value) (w : World) (R : Value → World → Prop) (E : Pan) : Prop :=
 opK Try.prog E (xV (Instr.box 52 x1)) w fun t3_1 w_2 =>
 dX w_2 fun w_3 =>
 qP Try.prog (xNil x0) fun t6_4 =>
 qP Try.prog (xV (Instr.fieldAt 58 t6_4 3)) fun t7_5 =>
 qP Try.prog (xV (Instr.fieldAt 52 t3_1 3)) fun t9_6 =>
 qP Try.prog (xV (Instr.fieldAt 52 t3_1 6)) fun t12_7 =>
 qL Try.prog w_3 (blk t7_5) (xV (Instr.loadAt 27 t7_5)) fun t8_8 =>
 qL Try.prog w_3 (blk t9_6) (xV (Instr.loadAt 3 t9_6)) fun t10_9 =>
 qL Try.prog w_3 (blk t12_7) (xV (Instr.loadAt 50 t12_7)) fun t13_10 =>
 opK Try.prog E (xCall (Value.func (.func 44) #[] #[]) [x0, t13_10]) w_3 fun t14_11 w_12 =>
 keepX [(blk t9_6), (blk t7_5)] w_3 w_12 (qP Try.prog (xV (Instr.indexAt 27 t8_8 t10_9)) fun t15_13 =>
 opK Try.prog E (xU (Instr.storeAt 2 t15_13 t14_11)) w_12 fun _z_14 w_15 =>
 keepX [] w_12 w_15 (R (Value.int .i64 0) w_15))
noncomputable def c31 : Code := Try.f31.body.getD .skip
def h31 : Hint := (.seq .none (.seq (.reg [(0, 32, 1), (1, 64, 32), (2, 128, 64), (4, 256, 128), (0, 512, 8), (16, 1024, 512), (0, 2048, 1), (0, 4096, 8), (128, 8192, 4096), (320, 16384, 10240), (1023, 32768, 1280), (2047, 0, 49152)] [296, 296, 296, 288, 296, 264, 296, 296, 40, 40, 296, 0] (.early 0 (.early 1 (.early 2 (.early 4 (.early 6 (.early 7 (.load 3 (.load 5 (.load 8 (.step 9 (.early 10 (.step 11 .done))))))))))))) (.seq .none .none)))
theorem F31_eq (x0 x1 : Value) (w : World) (R : Value → World → Prop) (E : Pan) : F31 x0 x1 w R E = callX Try.prog [.tmp 4] c31 h31 [x0, x1] w R E := by kernel_rfl
theorem F31_ok {x0 x1 : Value} {w : World} {R : Value → World → Prop} {E : Pan} (h : F31 x0 x1 w R E) : Cv Try.prog 31 #[x0, x1] w R E := by
 refine callX_sound (args := [x0, x1]) (c := c31) (h := h31) (rs := [.tmp 4]) Try.func31 (by kernel_rfl) (by kernel_rfl) (Nat.le_of_ble_eq_true (by kernel_rfl)) (by kernel_rfl) (by kernel_rfl) (by kernel_rfl) ?_
 rw [← F31_eq]
 exact h

/- function 32: (*gnomon/step.state).negates -/
def F32 (x0 x1 : Value) (w : World) (R : Value → World → Prop) (E : Pan) : Prop :=
 opK Try.prog E (xV (Instr.box 52 x1)) w fun t3_1 w_2 =>
 opK Try.prog E (xV (Instr.loadAt 52 t3_1)) w_2 fun t6_3 w_4 =>
 opK Try.prog E (xCall (Value.func (.func 58) #[] #[]) [x0, t6_3, (Value.func (.func 59) #[] #[])]) w_4 fun t7_5 w_6 =>
 R t7_5 w_6
noncomputable def c32 : Code := Try.f32.body.getD .skip
def h32 : Hint := (.seq .none (.seq .none .none))
theorem F32_eq (x0 x1 : Value) (w : World) (R : Value → World → Prop) (E : Pan) : F32 x0 x1 w R E = callX Try.prog [.tmp 4] c32 h32 [x0, x1] w R E := by kernel_rfl
theorem F32_ok {x0 x1 : Value} {w : World} {R : Value → World → Prop} {E : Pan} (h : F32 x0 x1 w R E) : Cv Try.prog 32 #[x0, x1] w R E := by
 refine callX_sound (args := [x0, x1]) (c := c32) (h := h32) (rs := [.tmp 4]) Try.func32 (by kernel_rfl) (by kernel_rfl) (Nat.le_of_ble_eq_true (by kernel_rfl)) (by kernel_rfl) (by kernel_rfl) (by kernel_rfl) ?_
 rw [← F32_eq]
 exact h

/- function 33: (*gnomon/step.state).adds -/
def F33 (x0 x1 : Value) (w : World) (R : Value → World → Prop) (E : Pan) : Prop :=
 opK Try.prog E (xV (Instr.box 52 x1)) w fun t3_1 w_2 =>
 opK Try.prog E (xV (Instr.loadAt 52 t3_1)) w_2 fun t6_3 w_4 =>
 opK Try.prog E (xCall (Value.func (.func 58) #[] #[]) [x0, t6_3, (Value.func (.func 61) #[] #[])]) w_4 fun t7_5 w_6 =>
 R t7_5 w_6
noncomputable def c33 : Code := Try.f33.body.getD .skip
def h33 : Hint := (.seq .none (.seq .none .none))
theorem F33_eq (x0 x1 : Value) (w : World) (R : Value → World → Prop) (E : Pan) : F33 x0 x1 w R E = callX Try.prog [.tmp 4] c33 h33 [x0, x1] w R E := by kernel_rfl
theorem F33_ok {x0 x1 : Value} {w : World} {R : Value → World → Prop} {E : Pan} (h : F33 x0 x1 w R E) : Cv Try.prog 33 #[x0, x1] w R E := by
 refine callX_sound (args := [x0, x1]) (c := c33) (h := h33) (rs := [.tmp 4]) Try.func33 (by kernel_rfl) (by kernel_rfl) (Nat.le_of_ble_eq_true (by kernel_rfl)) (by kernel_rfl) (by kernel_rfl) (by kernel_rfl) ?_
 rw [← F33_eq]
 exact h

/- function 34: (*gnomon/step.state).subtracts -/
def F34 (x0 x1 : Value) (w : World) (R : Value → World → Prop) (E : Pan) : Prop :=
 opK Try.prog E (xV (Instr.box 52 x1)) w fun t3_1 w_2 =>
 opK Try.prog E (xV (Instr.loadAt 52 t3_1)) w_2 fun t6_3 w_4 =>
 opK Try.prog E (xCall (Value.func (.func 58) #[] #[]) [x0, t6_3, (Value.func (.func 62) #[] #[])]) w_4 fun t7_5 w_6 =>
 R t7_5 w_6
noncomputable def c34 : Code := Try.f34.body.getD .skip
def h34 : Hint := (.seq .none (.seq .none .none))
theorem F34_eq (x0 x1 : Value) (w : World) (R : Value → World → Prop) (E : Pan) : F34 x0 x1 w R E = callX Try.prog [.tmp 4] c34 h34 [x0, x1] w R E := by kernel_rfl
theorem F34_ok {x0 x1 : Value} {w : World} {R : Value → World → Prop} {E : Pan} (h : F34 x0 x1 w R E) : Cv Try.prog 34 #[x0, x1] w R E := by
 refine callX_sound (args := [x0, x1]) (c := c34) (h := h34) (rs := [.tmp 4]) Try.func34 (by kernel_rfl) (by kernel_rfl) (Nat.le_of_ble_eq_true (by kernel_rfl)) (by kernel_rfl) (by kernel_rfl) (by kernel_rfl) ?_
 rw [← F34_eq]
 exact h

/- function 35: (*gnomon/step.state).multiplies -/
def F35 (x0 x1 : Value) (w : World) (R : Value → World → Prop) (E : Pan) : Prop :=
 opK Try.prog E (xV (Instr.box 52 x1)) w fun t3_1 w_2 =>
 opK Try.prog E (xV (Instr.loadAt 52 t3_1)) w_2 fun t6_3 w_4 =>
 opK Try.prog E (xCall (Value.func (.func 58) #[] #[]) [x0, t6_3, (Value.func (.func 63) #[] #[])]) w_4 fun t7_5 w_6 =>
 R t7_5 w_6
noncomputable def c35 : Code := Try.f35.body.getD .skip
def h35 : Hint := (.seq .none (.seq .none .none))
theorem F35_eq (x0 x1 : Value) (w : World) (R : Value → World → Prop) (E : Pan) : F35 x0 x1 w R E = callX Try.prog [.tmp 4] c35 h35 [x0, x1] w R E := by kernel_rfl
theorem F35_ok {x0 x1 : Value} {w : World} {R : Value → World → Prop} {E : Pan} (h : F35 x0 x1 w R E) : Cv Try.prog 35 #[x0, x1] w R E := by
 refine callX_sound (args := [x0, x1]) (c := c35) (h := h35) (rs := [.tmp 4]) Try.func35 (by kernel_rfl) (by kernel_rfl) (Nat.le_of_ble_eq_true (by kernel_rfl)) (by kernel_rfl) (by kernel_rfl) (by kernel_rfl) ?_
 rw [← F35_eq]
 exact h

/- function 36: (*gnomon/step.state).divides -/
def F36 (x0 x1 : Value) (w : World) (R : Value → World → Prop) (E : Pan) : Prop :=
 opK Try.prog E (xV (Instr.box 52 x1)) w fun t3_1 w_2 =>
 opK Try.prog E (xV (Instr.loadAt 52 t3_1)) w_2 fun t6_3 w_4 =>
 opK Try.prog E (xCall (Value.func (.func 58) #[] #[]) [x0, t6_3, (Value.func (.func 64) #[] #[])]) w_4 fun t7_5 w_6 =>
 R t7_5 w_6
noncomputable def c36 : Code := Try.f36.body.getD .skip
def h36 : Hint := (.seq .none (.seq .none .none))
theorem F36_eq (x0 x1 : Value) (w : World) (R : Value → World → Prop) (E : Pan) : F36 x0 x1 w R E = callX Try.prog [.tmp 4] c36 h36 [x0, x1] w R E := by kernel_rfl
theorem F36_ok {x0 x1 : Value} {w : World} {R : Value → World → Prop} {E : Pan} (h : F36 x0 x1 w R E) : Cv Try.prog 36 #[x0, x1] w R E := by
 refine callX_sound (args := [x0, x1]) (c := c36) (h := h36) (rs := [.tmp 4]) Try.func36 (by kernel_rfl) (by kernel_rfl) (Nat.le_of_ble_eq_true (by kernel_rfl)) (by kernel_rfl) (by kernel_rfl) (by kernel_rfl) ?_
 rw [← F36_eq]
 exact h

/- function 37: (*gnomon/step.state).rests -/
def F37 (x0 x1 : Value) (w : World) (R : Value → World → Prop) (E : Pan) : Prop :=
 opK Try.prog E (xV (Instr.box 52 x1)) w fun t3_1 w_2 =>
 opK Try.prog E (xV (Instr.loadAt 52 t3_1)) w_2 fun t6_3 w_4 =>
 opK Try.prog E (xCall (Value.func (.func 58) #[] #[]) [x0, t6_3, (Value.func (.func 65) #[] #[])]) w_4 fun t7_5 w_6 =>
 R t7_5 w_6
noncomputable def c37 : Code := Try.f37.body.getD .skip
def h37 : Hint := (.seq .none (.seq .none .none))
theorem F37_eq (x0 x1 : Value) (w : World) (R : Value → World → Prop) (E : Pan) : F37 x0 x1 w R E = callX Try.prog [.tmp 4] c37 h37 [x0, x1] w R E := by kernel_rfl
theorem F37_ok {x0 x1 : Value} {w : World} {R : Value → World → Prop} {E : Pan} (h : F37 x0 x1 w R E) : Cv Try.prog 37 #[x0, x1] w R E := by
 refine callX_sound (args := [x0, x1]) (c := c37) (h := h37) (rs := [.tmp 4]) Try.func37 (by kernel_rfl) (by kernel_rfl) (Nat.le_of_ble_eq_true (by kernel_rfl)) (by kernel_rfl) (by kernel_rfl) (by kernel_rfl) ?_
 rw [← F37_eq]
 exact h

/- function 38: (*gnomon/step.state).takes -/
def F38 (x0 x1 : Value) (w : World) (R : Value → World → Prop) (E : Pan) : Prop :=
 opK Try.prog E (xV (Instr.box 52 x1)) w fun t3_1 w_2 =>
 opK Try.prog E (xNil x0) w_2 fun t7_3 w_4 =>
 opK Try.prog E (xV (Instr.fieldAt 58 t7_3 5)) w_4 fun t8_5 w_6 =>
 opK Try.prog E (xV (Instr.loadAt 27 t8_5)) w_6 fun t9_7 w_8 =>
 opK Try.prog E (xV (Instr.indexAt 27 t9_7 (Value.int .i64 0))) w_8 fun t10_9 w_10 =>
 opK Try.prog E (xV (Instr.loadAt 2 t10_9)) w_10 fun t11_11 w_12 =>
 opK Try.prog E (xNil x0) w_12 fun t14_13 w_14 =>
 opK Try.prog E (xV (Instr.fieldAt 58 t14_13 5)) w_14 fun t15_15 w_16 =>
 opK Try.prog E (xV (Instr.loadAt 27 t15_15)) w_16 fun t16_17 w_18 =>
 opK Try.prog E (xV (Instr.sliceAt 27 t16_17 (some (Value.int .i64 1)) none none)) w_18 fun t17_19 w_20 =>
 opK Try.prog E (xNil x0) w_20 fun t18_21 w_22 =>
 opK Try.prog E (xV (Instr.fieldAt 58 t18_21 5)) w_22 fun t19_23 w_24 =>
 opK Try.prog E (xU (Instr.storeAt 27 t19_23 t17_19)) w_24 fun _z_25 w_26 =>
 dX w_26 fun w_27 =>
 qP Try.prog (xNil x0) fun t21_28 =>
 qP Try.prog (xV (Instr.fieldAt 58 t21_28 3)) fun t22_29 =>
 qP Try.prog (xV (Instr.fieldAt 52 t3_1 3)) fun t24_30 =>
 qL Try.prog w_27 (blk t22_29) (xV (Instr.loadAt 27 t22_29)) fun t23_31 =>
 qL Try.prog w_27 (blk t24_30) (xV (Instr.loadAt 3 t24_30)) fun t25_32 =>
 qP Try.prog (xV (Instr.indexAt 27 t23_31 t25_32)) fun t27_33 =>
 opK Try.prog E (xU (Instr.storeAt 2 t27_33 t11_11)) w_27 fun _z_34 w_35 =>
 keepX [] w_27 w_35 (opK Try.prog E (xNil x0) w_35 fun t30_36 w_37 =>
 opK Try.prog E (xV (Instr.fieldAt 58 t30_36 6)) w_37 fun t31_38 w_39 =>
 opK Try.prog E (xV (Instr.loadAt 31 t31_38)) w_39 fun t32_40 w_41 =>
 opK Try.prog E (xV (Instr.build 74 #[(0, (Value.bool true)), (1, t11_11)])) w_41 fun t34_42 w_43 =>
 opK Try.prog E (xV (Instr.buildSlice 31 1 #[(0, t34_42)])) w_43 fun t35_44 w_45 =>
 opK Try.prog E (xBuiltin .append #[31, 31] 31 [false, false] [t32_40, t35_44]) w_45 fun t36_46 w_47 =>
 opK Try.prog E (xNil x0) w_47 fun t37_48 w_49 =>
 opK Try.prog E (xV (Instr.fieldAt 58 t37_48 6)) w_49 fun t38_50 w_51 =>
 opK Try.prog E (xU (Instr.storeAt 31 t38_50 t36_46)) w_51 fun _z_52 w_53 =>
 R (Value.int .i64 0) w_53)
noncomputable def c38 : Code := Try.f38.body.getD .skip
def h38 : Hint := (.seq .none (.seq .none (.seq .none (.seq (.reg [(0, 1048576, 1), (1, 2097152, 1048576), (2, 4194304, 2097152), (4, 8388608, 4194304), (0, 16777216, 8), (16, 33554432, 16777216), (0, 67108864, 32), (127, 134217728, 41943040), (255, 0, 201326592)] [40, 40, 40, 32, 40, 8, 40, 40, 0] (.early 0 (.early 1 (.early 2 (.early 4 (.early 6 (.load 3 (.load 5 (.early 7 (.step 8 .done)))))))))) (.seq .none (.seq .none .none))))))
theorem F38_eq (x0 x1 : Value) (w : World) (R : Value → World → Prop) (E : Pan) : F38 x0 x1 w R E = callX Try.prog [.tmp 4] c38 h38 [x0, x1] w R E := by kernel_rfl
theorem F38_ok {x0 x1 : Value} {w : World} {R : Value → World → Prop} {E : Pan} (h : F38 x0 x1 w R E) : Cv Try.prog 38 #[x0, x1] w R E := by
 refine callX_sound (args := [x0, x1]) (c := c38) (h := h38) (rs := [.tmp 4]) Try.func38 (by kernel_rfl) (by kernel_rfl) (Nat.le_of_ble_eq_true (by kernel_rfl)) (by kernel_rfl) (by kernel_rfl) (by kernel_rfl) ?_
 rw [← F38_eq]
 exact h

/- function 39: (*gnomon/step.state).loads -/
def F39 (x0 x1 : Value) (w : World) (R : Value → World → Prop) (E : Pan) : Prop :=
 opK Try.prog E (xV (Instr.box 52 x1)) w fun t3_1 w_2 =>
 opK Try.prog E (xV (Instr.loadAt 52 t3_1)) w_2 fun t7_3 w_4 =>
 opK Try.prog E (xCall (Value.func (.func 66) #[] #[]) [x0, t7_3]) w_4 fun t8_5 w_6 =>
 opK Try.prog E (xBin .eql 104 (.tmp 9) (.const (Value.pointer none)) t8_5 (Value.pointer none)) w_6 fun t10_7 w_8 =>
 xcond t10_7
 (R (Value.int .i64 3) w_8)
 (dX w_8 fun w_9 =>
 qP Try.prog (xNil x0) fun t12_10 =>
 qP Try.prog (xV (Instr.fieldAt 58 t12_10 3)) fun t13_11 =>
 qP Try.prog (xV (Instr.fieldAt 52 t3_1 3)) fun t15_12 =>
 qP Try.prog (xNil t8_5) fun t18_13 =>
 qL Try.prog w_9 (blk t13_11) (xV (Instr.loadAt 27 t13_11)) fun t14_14 =>
 qL Try.prog w_9 (blk t15_12) (xV (Instr.loadAt 3 t15_12)) fun t16_15 =>
 qL Try.prog w_9 (blk t18_13) (xV (Instr.loadAt 2 t18_13)) fun t19_16 =>
 qP Try.prog (xV (Instr.indexAt 27 t14_14 t16_15)) fun t20_17 =>
 opK Try.prog E (xU (Instr.storeAt 2 t20_17 t19_16)) w_9 fun _z_18 w_19 =>
 keepX [] w_9 w_19 (R (Value.int .i64 0) w_19))
noncomputable def c39 : Code := Try.f39.body.getD .skip
def h39 : Hint := (.seq .none (.seq .none (.seq (.seq .none (.cond (.seq .none .none) .none)) (.seq (.reg [(0, 2048, 1), (1, 4096, 2048), (2, 8192, 4096), (4, 16384, 8192), (0, 32768, 8), (16, 65536, 32768), (0, 131072, 32), (64, 262144, 131072), (128, 524288, 262144), (511, 1048576, 81920), (1023, 0, 1572864)] [296, 296, 296, 288, 296, 264, 296, 296, 40, 296, 0] (.early 0 (.early 1 (.early 2 (.early 4 (.early 6 (.early 7 (.load 3 (.load 5 (.load 8 (.early 9 (.step 10 .done)))))))))))) (.seq .none .none)))))
theorem F39_eq (x0 x1 : Value) (w : World) (R : Value → World → Prop) (E : Pan) : F39 x0 x1 w R E = callX Try.prog [.tmp 4] c39 h39 [x0, x1] w R E := by kernel_rfl
theorem F39_ok {x0 x1 : Value} {w : World} {R : Value → World → Prop} {E : Pan} (h : F39 x0 x1 w R E) : Cv Try.prog 39 #[x0, x1] w R E := by
 refine callX_sound (args := [x0, x1]) (c := c39) (h := h39) (rs := [.tmp 4]) Try.func39 (by kernel_rfl) (by kernel_rfl) (Nat.le_of_ble_eq_true (by kernel_rfl)) (by kernel_rfl) (by kernel_rfl) (by kernel_rfl) ?_
 rw [← F39_eq]
 exact h

/- function 40: (*gnomon/step.state).stores -/
def F40 (x0 x1 : Value) (w : World) (R : Value → World → Prop) (E : Pan) : Prop :=
 opK Try.prog E (xV (Instr.box 52 x1)) w fun t3_1 w_2 =>
 opK Try.prog E (xV (Instr.loadAt 52 t3_1)) w_2 fun t7_3 w_4 =>
 opK Try.prog E (xCall (Value.func (.func 66) #[] #[]) [x0, t7_3]) w_4 fun t8_5 w_6 =>
 opK Try.prog E (xBin .eql 104 (.tmp 9) (.const (Value.pointer none)) t8_5 (Value.pointer none)) w_6 fun t10_7 w_8 =>
 xcond t10_7
 (R (Value.int .i64 3) w_8)
 (opK Try.prog E (xV (Instr.fieldAt 52 t3_1 7)) w_8 fun t13_9 w_10 =>
 opK Try.prog E (xV (Instr.loadAt 50 t13_9)) w_10 fun t14_11 w_12 =>
 opK Try.prog E (xCall (Value.func (.func 44) #[] #[]) [x0, t14_11]) w_12 fun t15_13 w_14 =>
 opK Try.prog E (xNil t8_5) w_14 fun t16_15 w_16 =>
 opK Try.prog E (xU (Instr.storeAt 2 t16_15 t15_13)) w_16 fun _z_17 w_18 =>
 R (Value.int .i64 0) w_18)
noncomputable def c40 : Code := Try.f40.body.getD .skip
def h40 : Hint := (.seq .none (.seq .none (.seq (.seq .none (.cond (.seq .none .none) .none)) (.seq .none (.seq .none .none)))))
theorem F40_eq (x0 x1 : Value) (w : World) (R : Value → World → Prop) (E : Pan) : F40 x0 x1 w R E = callX Try.prog [.tmp 4] c40 h40 [x0, x1] w R E := by kernel_rfl
theorem F40_ok {x0 x1 : Value} {w : World} {R : Value → World → Prop} {E : Pan} (h : F40 x0 x1 w R E) : Cv Try.prog 40 #[x0, x1] w R E := by
 refine callX_sound (args := [x0, x1]) (c := c40) (h := h40) (rs := [.tmp 4]) Try.func40 (by kernel_rfl) (by kernel_rfl) (Nat.le_of_ble_eq_true (by kernel_rfl)) (by kernel_rfl) (by kernel_rfl) (by kernel_rfl) ?_
 rw [← F40_eq]
 exact h

/- function 41: (*gnomon/step.state).passes -/
def F41 (x0 x1 : Value) (w : World) (R : Value → World → Prop) (E : Pan) : Prop :=
 opK Try.prog E (xV (Instr.box 52 x1)) w fun _t3_1 w_2 =>
 opK Try.prog E (xNil x0) w_2 fun t7_3 w_4 =>
 opK Try.prog E (xV (Instr.fieldAt 58 t7_3 6)) w_4 fun t8_5 w_6 =>
 opK Try.prog E (xV (Instr.loadAt 31 t8_5)) w_6 fun t9_7 w_8 =>
 opK Try.prog E (xV (Instr.build 74 #[(2, (Value.bool true))])) w_8 fun t10_9 w_10 =>
 opK Try.prog E (xV (Instr.buildSlice 31 1 #[(0, t10_9)])) w_10 fun t11_11 w_12 =>
 opK Try.prog E (xBuiltin .append #[31, 31] 31 [false, false] [t9_7, t11_11]) w_12 fun t12_13 w_14 =>
 opK Try.prog E (xNil x0) w_14 fun t13_15 w_16 =>
 opK Try.prog E (xV (Instr.fieldAt 58 t13_15 6)) w_16 fun t14_17 w_18 =>
 opK Try.prog E (xU (Instr.storeAt 31 t14_17 t12_13)) w_18 fun _z_19 w_20 =>
 R (Value.int .i64 0) w_20
noncomputable def c41 : Code := Try.f41.body.getD .skip
def h41 : Hint := (.seq .none (.seq .none (.seq .none .none)))
theorem F41_eq (x0 x1 : Value) (w : World) (R : Value → World → Prop) (E : Pan) : F41 x0 x1 w R E = callX Try.prog [.tmp 4] c41 h41 [x0, x1] w R E := by kernel_rfl
theorem F41_ok {x0 x1 : Value} {w : World} {R : Value → World → Prop} {E : Pan} (h : F41 x0 x1 w R E) : Cv Try.prog 41 #[x0, x1] w R E := by
 refine callX_sound (args := [x0, x1]) (c := c41) (h := h41) (rs := [.tmp 4]) Try.func41 (by kernel_rfl) (by kernel_rfl) (Nat.le_of_ble_eq_true (by kernel_rfl)) (by kernel_rfl) (by kernel_rfl) (by kernel_rfl) ?_
 rw [← F41_eq]
 exact h

/- function 42: (*gnomon/step.state).fails -/
def F42 (x0 x1 : Value) (w : World) (R : Value → World → Prop) (E : Pan) : Prop :=
 opK Try.prog E (xV (Instr.box 52 x1)) w fun _t3_1 w_2 =>
 opK Try.prog E (xNil x0) w_2 fun t7_3 w_4 =>
 opK Try.prog E (xV (Instr.fieldAt 58 t7_3 6)) w_4 fun t8_5 w_6 =>
 opK Try.prog E (xV (Instr.loadAt 31 t8_5)) w_6 fun t9_7 w_8 =>
 opK Try.prog E (xV (Instr.build 74 #[])) w_8 fun t10_9 w_10 =>
 opK Try.prog E (xV (Instr.buildSlice 31 1 #[(0, t10_9)])) w_10 fun t11_11 w_12 =>
 opK Try.prog E (xBuiltin .append #[31, 31] 31 [false, false] [t9_7, t11_11]) w_12 fun t12_13 w_14 =>
 opK Try.prog E (xNil x0) w_14 fun t13_15 w_16 =>
 opK Try.prog E (xV (Instr.fieldAt 58 t13_15 6)) w_16 fun t14_17 w_18 =>
 opK Try.prog E (xU (Instr.storeAt 31 t14_17 t12_13)) w_18 fun _z_19 w_20 =>
 R (Value.int .i64 4) w_20
noncomputable def c42 : Code := Try.f42.body.getD .skip
def h42 : Hint := (.seq .none (.seq .none (.seq .none .none)))
theorem F42_eq (x0 x1 : Value) (w : World) (R : Value → World → Prop) (E : Pan) : F42 x0 x1 w R E = callX Try.prog [.tmp 4] c42 h42 [x0, x1] w R E := by kernel_rfl
theorem F42_ok {x0 x1 : Value} {w : World} {R : Value → World → Prop} {E : Pan} (h : F42 x0 x1 w R E) : Cv Try.prog 42 #[x0, x1] w R E := by
 refine callX_sound (args := [x0, x1]) (c := c42) (h := h42) (rs := [.tmp 4]) Try.func42 (by kernel_rfl) (by kernel_rfl) (Nat.le_of_ble_eq_true (by kernel_rfl)) (by kernel_rfl) (by kernel_rfl) (by kernel_rfl) ?_
 rw [← F42_eq]
 exact h

/- function 43: gnomon/num.Cmp -/
def F43 (x0 x1 x2 : Value) (w : World) (R : Value → World → Prop) (E : Pan) : Prop :=
 opK Try.prog E (xBin .lss 3 (.tmp 7) (.const (Value.int .i64 1)) x0 (Value.int .i64 1)) w fun t8_1 w_2 =>
 opK Try.prog E (gsem (asB t8_1) false (xBin .gtr 3 (.tmp 10) (.const (Value.int .i64 6)) (gval (asB t8_1) false x0) (Value.int .i64 6))) w_2 fun t11_3 w_4 =>
 opK Try.prog E (xPick t8_1 (Value.bool true) t11_3) w_4 fun t12_5 w_6 =>
 xcond t12_5
 (R (Value.bool false) w_6)
 (opK Try.prog E (xCall (Value.func (.func 67) #[] #[]) []) w_6 fun t13_7 w_8 =>
 opK Try.prog E (xV (Instr.index 107 t13_7 x0)) w_8 fun t15_9 w_10 =>
 opK Try.prog E (xCall t15_9 [x1, x2]) w_10 fun t18_11 w_12 =>
 R t18_11 w_12)
noncomputable def c43 : Code := Try.f43.body.getD .skip
def h43 : Hint := (.seq .none (.seq (.seq .none (.cond (.seq .none .none) .none)) (.seq .none .none)))
theorem F43_eq (x0 x1 x2 : Value) (w : World) (R : Value → World → Prop) (E : Pan) : F43 x0 x1 x2 w R E = callX Try.prog [.tmp 6] c43 h43 [x0, x1, x2] w R E := by kernel_rfl
theorem F43_ok {x0 x1 x2 : Value} {w : World} {R : Value → World → Prop} {E : Pan} (h : F43 x0 x1 x2 w R E) : Cv Try.prog 43 #[x0, x1, x2] w R E := by
 refine callX_sound (args := [x0, x1, x2]) (c := c43) (h := h43) (rs := [.tmp 6]) Try.func43 (by kernel_rfl) (by kernel_rfl) (Nat.le_of_ble_eq_true (by kernel_rfl)) (by kernel_rfl) (by kernel_rfl) (by kernel_rfl) ?_
 rw [← F43_eq]
 exact h

/- function 44: (*gnomon/step.state).value -/
def F44 (x0 x1 : Value) (w : World) (R : Value → World → Prop) (E : Pan) : Prop :=
 opK Try.prog E (xV (Instr.box 50 x1)) w fun t3_1 w_2 =>
 opK Try.prog E (xV (Instr.fieldAt 50 t3_1 0)) w_2 fun t5_3 w_4 =>
 opK Try.prog E (xV (Instr.loadAt 3 t5_3)) w_4 fun t6_5 w_6 =>
 opK Try.prog E (xBin .lss 3 (.tmp 6) (.const (Value.int .i64 0)) t6_5 (Value.int .i64 0)) w_6 fun t7_7 w_8 =>
 xcond t7_7
 (opK Try.prog E (xV (Instr.fieldAt 50 t3_1 1)) w_8 fun t8_9 w_10 =>
 opK Try.prog E (xV (Instr.loadAt 2 t8_9)) w_10 fun t9_11 w_12 =>
 R t9_11 w_12)
 (dX w_8 fun w_13 =>
 qP Try.prog (xNil x0) fun t11_14 =>
 qP Try.prog (xV (Instr.fieldAt 58 t11_14 3)) fun t12_15 =>
 qP Try.prog (xV (Instr.fieldAt 50 t3_1 0)) fun t14_16 =>
 qL Try.prog w_13 (blk t12_15) (xV (Instr.loadAt 27 t12_15)) fun t13_17 =>
 qL Try.prog w_13 (blk t14_16) (xV (Instr.loadAt 3 t14_16)) fun t15_18 =>
 qP Try.prog (xV (Instr.indexAt 27 t13_17 t15_18)) fun t16_19 =>
 qL Try.prog w_13 (blk t16_19) (xV (Instr.loadAt 2 t16_19)) fun t17_20 =>
 R t17_20 w_13)
noncomputable def c44 : Code := Try.f44.body.getD .skip
def h44 : Hint := (.seq .none (.seq (.seq .none (.cond (.seq .none .none) .none)) (.seq (.reg [(0, 1024, 1), (1, 2048, 1024), (2, 4096, 2048), (4, 8192, 4096), (0, 16384, 8), (16, 32768, 16384), (40, 65536, 40960), (64, 131072, 65536), (255, 16, 131072)] [168, 168, 168, 160, 168, 136, 168, 40, 168] (.early 0 (.early 1 (.early 2 (.early 4 (.load 3 (.load 5 (.early 6 (.load 7 (.early 8 .done)))))))))) .none)))
theorem F44_eq (x0 x1 : Value) (w : World) (R : Value → World → Prop) (E : Pan) : F44 x0 x1 w R E = callX Try.prog [.tmp 4] c44 h44 [x0, x1] w R E := by kernel_rfl
theorem F44_ok {x0 x1 : Value} {w : World} {R : Value → World → Prop} {E : Pan} (h : F44 x0 x1 w R E) : Cv Try.prog 44 #[x0, x1] w R E := by
 refine callX_sound (args := [x0, x1]) (c := c44) (h := h44) (rs := [.tmp 4]) Try.func44 (by kernel_rfl) (by kernel_rfl) (Nat.le_of_ble_eq_true (by kernel_rfl)) (by kernel_rfl) (by kernel_rfl) (by kernel_rfl) ?_
 rw [← F44_eq]
 exact h

/- function 45: gnomon/gnomonref9.Right -/
def F45_j1 (x1 x2 x3 x7 x8 x9 : Value) (w : World) (R : Value → World → Prop) (E : Pan) : Prop :=
 ∀ _τ : Fr, (opK Try.prog E (gsem (asB x7) true (xV (Instr.fieldAt 52 x3 3))) w fun t35_3 w_4 =>
 opK Try.prog E (gsem (asB x7) true (xV (Instr.loadAt 3 t35_3))) w_4 fun t36_5 w_6 =>
 opK Try.prog E (gsem (asB x7) true (xBin .lss 3 (.tmp 36) (.const (Value.int .i64 0)) t36_5 (Value.int .i64 0))) w_6 fun t37_7 w_8 =>
 opK Try.prog E (gsem (asB (gval (asB x7) true t37_7)) false (xV (Instr.fieldAt 52 x3 3))) w_8 fun t39_9 w_10 =>
 opK Try.prog E (gsem (asB (gval (asB x7) true t37_7)) false (xV (Instr.loadAt 3 t39_9))) w_10 fun t40_11 w_12 =>
 opK Try.prog E (gsem (asB (gval (asB x7) true t37_7)) false (xBin .geq 3 (.tmp 40) (.tmp 41) t40_11 (gval (asB (gval (asB x7) true t37_7)) false x1))) w_12 fun t42_13 w_14 =>
 opK Try.prog E (gsem (asB x7) true (xPick (gval (asB x7) true t37_7) (Value.bool true) t42_13)) w_14 fun t43_15 w_16 =>
 opK Try.prog E (xPick x7 t43_15 (Value.bool false)) w_16 fun t44_17 w_18 =>
 opK Try.prog E (gsem (asB t44_17) false (xV (Op.unary .not (gval (asB t44_17) false x7)))) w_18 fun t47_19 w_20 =>
 opK Try.prog E (gsem (asB (gval (asB t44_17) false t47_19)) true (xV (Instr.fieldAt 52 x3 3))) w_20 fun t49_21 w_22 =>
 opK Try.prog E (gsem (asB (gval (asB t44_17) false t47_19)) true (xV (Instr.loadAt 3 t49_21))) w_22 fun t50_23 w_24 =>
 opK Try.prog E (gsem (asB (gval (asB t44_17) false t47_19)) true (xBin .neq 3 (.tmp 50) (.const (Value.int .i64 (-1))) t50_23 (Value.int .i64 (-1)))) w_24 fun t51_25 w_26 =>
 opK Try.prog E (gsem (asB t44_17) false (xPick (gval (asB t44_17) false t47_19) t51_25 (Value.bool false))) w_26 fun t52_27 w_28 =>
 opK Try.prog E (xPick t44_17 (Value.bool true) t52_27) w_28 fun t53_29 w_30 =>
 xcond t53_29
 (R (Value.bool false) w_30)
 (opK Try.prog E (xV (Instr.fieldAt 52 x3 2)) w_30 fun t54_31 w_32 =>
 opK Try.prog E (xV (Instr.loadAt 3 t54_31)) w_32 fun t55_33 w_34 =>
 opK Try.prog E (xBin .eql 3 (.tmp 55) (.const (Value.int .i64 10)) t55_33 (Value.int .i64 10)) w_34 fun t56_35 w_36 =>
 opK Try.prog E (gsem (asB t56_35) false (xV (Instr.fieldAt 52 x3 2))) w_36 fun t58_37 w_38 =>
 opK Try.prog E (gsem (asB t56_35) false (xV (Instr.loadAt 3 t58_37))) w_38 fun t59_39 w_40 =>
 opK Try.prog E (gsem (asB t56_35) false (xBin .eql 3 (.tmp 59) (.const (Value.int .i64 11)) t59_39 (Value.int .i64 11))) w_40 fun t60_41 w_42 =>
 opK Try.prog E (xPick t56_35 (Value.bool true) t60_41) w_42 fun t61_43 w_44 =>
 opK Try.prog E (gsem (asB t61_43) true (xV (Instr.fieldAt 52 x3 4))) w_44 fun t64_45 w_46 =>
 opK Try.prog E (gsem (asB t61_43) true (xV (Instr.loadAt 3 t64_45))) w_46 fun t65_47 w_48 =>
 opK Try.prog E (gsem (asB t61_43) true (xBin .lss 3 (.tmp 65) (.const (Value.int .i64 0)) t65_47 (Value.int .i64 0))) w_48 fun t66_49 w_50 =>
 opK Try.prog E (gsem (asB (gval (asB t61_43) true t66_49)) false (xV (Instr.fieldAt 52 x3 4))) w_50 fun t68_51 w_52 =>
 opK Try.prog E (gsem (asB (gval (asB t61_43) true t66_49)) false (xV (Instr.loadAt 3 t68_51))) w_52 fun t69_53 w_54 =>
 opK Try.prog E (gsem (asB (gval (asB t61_43) true t66_49)) false (xBin .geq 3 (.tmp 69) (.tmp 70) t69_53 (gval (asB (gval (asB t61_43) true t66_49)) false x2))) w_54 fun t71_55 w_56 =>
 opK Try.prog E (gsem (asB t61_43) true (xPick (gval (asB t61_43) true t66_49) (Value.bool true) t71_55)) w_56 fun t72_57 w_58 =>
 opK Try.prog E (xPick t61_43 t72_57 (Value.bool false)) w_58 fun t73_59 w_60 =>
 opK Try.prog E (gsem (asB t73_59) false (xV (Op.unary .not (gval (asB t73_59) false t61_43)))) w_60 fun t76_61 w_62 =>
 opK Try.prog E (gsem (asB (gval (asB t73_59) false t76_61)) true (xV (Instr.fieldAt 52 x3 4))) w_62 fun t78_63 w_64 =>
 opK Try.prog E (gsem (asB (gval (asB t73_59) false t76_61)) true (xV (Instr.loadAt 3 t78_63))) w_64 fun t79_65 w_66 =>
 opK Try.prog E (gsem (asB (gval (asB t73_59) false t76_61)) true (xBin .neq 3 (.tmp 79) (.const (Value.int .i64 (-1))) t79_65 (Value.int .i64 (-1)))) w_66 fun t80_67 w_68 =>
 opK Try.prog E (gsem (asB t73_59) false (xPick (gval (asB t73_59) false t76_61) t80_67 (Value.bool false))) w_68 fun t81_69 w_70 =>
 opK Try.prog E (xPick t73_59 (Value.bool true) t81_69) w_70 fun t82_71 w_72 =>
 xcond t82_71
 (R (Value.bool false) w_72)
 (opK Try.prog E (xV (Instr.fieldAt 52 x3 2)) w_72 fun t83_73 w_74 =>
 opK Try.prog E (xV (Instr.loadAt 3 t83_73)) w_74 fun t84_75 w_76 =>
 opK Try.prog E (xBin .eql 3 (.tmp 84) (.const (Value.int .i64 12)) t84_75 (Value.int .i64 12)) w_76 fun t85_77 w_78 =>
 opK Try.prog E (gsem (asB t85_77) true (xV (Instr.fieldAt 52 x3 5))) w_78 fun t87_79 w_80 =>
 opK Try.prog E (gsem (asB t85_77) true (xV (Instr.loadAt 3 t87_79))) w_80 fun t88_81 w_82 =>
 opK Try.prog E (gsem (asB t85_77) true (xBin .lss 3 (.tmp 88) (.const (Value.int .i64 1)) t88_81 (Value.int .i64 1))) w_82 fun t89_83 w_84 =>
 opK Try.prog E (gsem (asB (gval (asB t85_77) true t89_83)) false (xV (Instr.fieldAt 52 x3 5))) w_84 fun t91_85 w_86 =>
 opK Try.prog E (gsem (asB (gval (asB t85_77) true t89_83)) false (xV (Instr.loadAt 3 t91_85))) w_86 fun t92_87 w_88 =>
 opK Try.prog E (gsem (asB (gval (asB t85_77) true t89_83)) false (xBin .gtr 3 (.tmp 92) (.const (Value.int .i64 6)) t92_87 (Value.int .i64 6))) w_88 fun t93_89 w_90 =>
 opK Try.prog E (gsem (asB t85_77) true (xPick (gval (asB t85_77) true t89_83) (Value.bool true) t93_89)) w_90 fun t94_91 w_92 =>
 opK Try.prog E (xPick t85_77 t94_91 (Value.bool false)) w_92 fun t95_93 w_94 =>
 opK Try.prog E (gsem (asB t95_93) false (xV (Instr.fieldAt 52 x3 2))) w_94 fun t97_95 w_96 =>
 opK Try.prog E (gsem (asB t95_93) false (xV (Instr.loadAt 3 t97_95))) w_96 fun t98_97 w_98 =>
 opK Try.prog E (gsem (asB t95_93) false (xBin .neq 3 (.tmp 98) (.const (Value.int .i64 12)) t98_97 (Value.int .i64 12))) w_98 fun t99_99 w_100 =>
 opK Try.prog E (gsem (asB (gval (asB t95_93) false t99_99)) true (xV (Instr.fieldAt 52 x3 5))) w_100 fun t101_101 w_102 =>
 opK Try.prog E (gsem (asB (gval (asB t95_93) false t99_99)) true (xV (Instr.loadAt 3 t101_101))) w_102 fun t102_103 w_104 =>
 opK Try.prog E (gsem (asB (gval (asB t95_93) false t99_99)) true (xBin .neq 3 (.tmp 102) (.const (Value.int .i64 0)) t102_103 (Value.int .i64 0))) w_104 fun t103_105 w_106 =>
 opK Try.prog E (gsem (asB t95_93) false (xPick (gval (asB t95_93) false t99_99) t103_105 (Value.bool false))) w_106 fun t104_107 w_108 =>
 opK Try.prog E (xPick t95_93 (Value.bool true) t104_107) w_108 fun t105_109 w_110 =>
 xcond t105_109
 (R (Value.bool false) w_110)
 (opK Try.prog E (xV (Instr.fieldAt 52 x3 6)) w_110 fun t106_111 w_112 =>
 opK Try.prog E (xV (Instr.loadAt 50 t106_111)) w_112 fun t107_113 w_114 =>
 opK Try.prog E (xCall (Value.func (.func 68) #[] #[]) [t107_113, x8, x1]) w_114 fun t110_115 w_116 =>
 opK Try.prog E (gsem (asB t110_115) true (xV (Instr.fieldAt 52 x3 7))) w_116 fun t112_117 w_118 =>
 opK Try.prog E (gsem (asB t110_115) true (xV (Instr.loadAt 50 t112_117))) w_118 fun t113_119 w_120 =>
 opK Try.prog E (gsem (asB t110_115) true (xCall (Value.func (.func 68) #[] #[]) [t113_119, (gval (asB t110_115) true x9), (gval (asB t110_115) true x1)])) w_120 fun t116_121 w_122 =>
 opK Try.prog E (xPick t110_115 t116_121 (Value.bool false)) w_122 fun t117_123 w_124 =>
 R t117_123 w_124))))
def F45_j5 (_x1 _x2 _x3 x7 x30 : Value) (w : World) (j1 : List Value → World → Prop) (R : Value → World → Prop) (_E : Pan) : Prop :=
 ∀ _τ : Fr, (xcond x30
 (j1 [x7, (Value.bool true), (Value.bool true)] w)
 (R (Value.bool false) w))
def F45_j4 (x1 x2 x3 x7 x8 x9 x12 x20 : Value) (w : World) (j1 : List Value → World → Prop) (R : Value → World → Prop) (E : Pan) : Prop :=
 ∀ _τ : Fr, (xcond x20
 (j1 [(Value.bool true), (Value.bool true), (Value.bool true)] w)
 (opK Try.prog E (xBin .eql 3 (.tmp 12) (.const (Value.int .i64 9)) x12 (Value.int .i64 9)) w fun t27_131 w_132 =>
 xcond t27_131
 (j1 [(Value.bool true), x8, x9] w_132)
 (opK Try.prog E (xBin .eql 3 (.tmp 12) (.const (Value.int .i64 10)) x12 (Value.int .i64 10)) w_132 fun t29_133 w_134 =>
 xcond t29_133
 (j1 [(Value.bool true), (Value.bool true), x9] w_134)
 (xcut (fun l_135 w_136 => F45_j5 x1 x2 x3 x7 (nth l_135 0) w_136 j1 R E) fun j5 =>
 opK Try.prog E (xBin .eql 3 (.tmp 12) (.const (Value.int .i64 11)) x12 (Value.int .i64 11)) w_134 fun t31_137 w_138 =>
 xcond t31_137
 (j5 [t31_137] w_138)
 (opK Try.prog E (xBin .eql 3 (.tmp 12) (.const (Value.int .i64 12)) x12 (Value.int .i64 12)) w_138 fun t32_139 w_140 =>
 j5 [t32_139] w_140)))))
def F45_j3 (x1 x2 x3 x7 x8 x9 x12 x17 : Value) (w : World) (j1 : List Value → World → Prop) (R : Value → World → Prop) (E : Pan) : Prop :=
 ∀ _τ : Fr, (xcond x17
 (j1 [(Value.bool true), (Value.bool true), x9] w)
 (xcut (fun l_141 w_142 => F45_j4 x1 x2 x3 x7 x8 x9 x12 (nth l_141 0) w_142 j1 R E) fun j4 =>
 opK Try.prog E (xBin .eql 3 (.tmp 12) (.const (Value.int .i64 4)) x12 (Value.int .i64 4)) w fun t21_143 w_144 =>
 xcond t21_143
 (j4 [t21_143] w_144)
 (opK Try.prog E (xBin .eql 3 (.tmp 12) (.const (Value.int .i64 5)) x12 (Value.int .i64 5)) w_144 fun t22_145 w_146 =>
 xcond t22_145
 (j4 [t22_145] w_146)
 (opK Try.prog E (xBin .eql 3 (.tmp 12) (.const (Value.int .i64 6)) x12 (Value.int .i64 6)) w_146 fun t23_147 w_148 =>
 xcond t23_147
 (j4 [t23_147] w_148)
 (opK Try.prog E (xBin .eql 3 (.tmp 12) (.const (Value.int .i64 7)) x12 (Value.int .i64 7)) w_148 fun t24_149 w_150 =>
 xcond t24_149
 (j4 [t24_149] w_150)
 (opK Try.prog E (xBin .eql 3 (.tmp 12) (.const (Value.int .i64 8)) x12 (Value.int .i64 8)) w_150 fun t25_151 w_152 =>
 j4 [t25_151] w_152))))))
def F45_j2 (x1 x2 x3 x7 x8 x9 x12 x13 : Value) (w : World) (j1 : List Value → World → Prop) (R : Value → World → Prop) (E : Pan) : Prop :=
 ∀ _τ : Fr, (xcond x13
 (j1 [x7, x8, x9] w)
 (xcut (fun l_153 w_154 => F45_j3 x1 x2 x3 x7 x8 x9 x12 (nth l_153 0) w_154 j1 R E) fun j3 =>
 opK Try.prog E (xBin .eql 3 (.tmp 12) (.const (Value.int .i64 2)) x12 (Value.int .i64 2)) w fun t18_155 w_156 =>
 xcond t18_155
 (j3 [t18_155] w_156)
 (opK Try.prog E (xBin .eql 3 (.tmp 12) (.const (Value.int .i64 3)) x12 (Value.int .i64 3)) w_156 fun t19_157 w_158 =>
 j3 [t19_157] w_158)))
def F45 (x0 x1 x2 : Value) (w : World) (R : Value → World → Prop) (E : Pan) : Prop :=
 opK Try.prog E (xV (Instr.box 52 x0)) w fun t3_1 w_2 =>
 xcut (fun l_125 w_126 => F45_j1 x1 x2 t3_1 (nth l_125 0) (nth l_125.tail 0) (nth l_125.tail.tail 0) w_126 R E) fun j1 =>
 opK Try.prog E (xV (Instr.fieldAt 52 t3_1 2)) w_2 fun t11_127 w_128 =>
 opK Try.prog E (xV (Instr.loadAt 3 t11_127)) w_128 fun t12_129 w_130 =>
 xcut (fun l_159 w_160 => F45_j2 x1 x2 t3_1 (Value.bool false) (Value.bool false) (Value.bool false) t12_129 (nth l_159 0) w_160 j1 R E) fun j2 =>
 opK Try.prog E (xBin .eql 3 (.tmp 12) (.const (Value.int .i64 1)) t12_129 (Value.int .i64 1)) w_130 fun t14_161 w_162 =>
 xcond t14_161
 (j2 [t14_161] w_162)
 (opK Try.prog E (xBin .eql 3 (.tmp 12) (.const (Value.int .i64 13)) t12_129 (Value.int .i64 13)) w_162 fun t15_163 w_164 =>
 xcond t15_163
 (j2 [t15_163] w_164)
 (opK Try.prog E (xBin .eql 3 (.tmp 12) (.const (Value.int .i64 14)) t12_129 (Value.int .i64 14)) w_164 fun t16_165 w_166 =>
 j2 [t16_165] w_166))
noncomputable def c45 : Code := Try.f45.body.getD .skip
def h45 : Hint := (.seq .none (.seq .none (.cut [7, 8, 9] (.seq .none (.block (.cut [13] (.seq .none (.cond .none (.seq .none (.cond .none .none)))) (.cond .none (.cut [17] (.seq .none (.cond .none .none)) (.cond .none (.cut [20] (.seq .none (.cond .none (.seq .none (.cond .none (.seq .none (.cond .none (.seq .none (.cond .none .none)))))))) (.cond .none (.seq .none (.cond .none (.seq .none (.cond .none (.cut [30] (.seq .none (.cond .none .none)) (.cond .none (.seq .none .none))))))))))))))) (.seq (.seq .none (.cond (.seq .none .none) .none)) (.seq .none (.seq (.seq .none (.cond (.seq .none .none) .none)) (.seq (.seq .none (.cond (.seq .none .none) .none)) (.seq .none .none))))))))
theorem F45_eq (x0 x1 x2 : Value) (w : World) (R : Value → World → Prop) (E : Pan) : F45 x0 x1 x2 w R E = callX Try.prog [.tmp 6] c45 h45 [x0, x1, x2] w R E := by kernel_rfl
theorem F45_ok {x0 x1 x2 : Value} {w : World} {R : Value → World → Prop} {E : Pan} (h : F45 x0 x1 x2 w R E) : Cv Try.prog 45 #[x0, x1, x2] w R E := by
 refine callX_sound (args := [x0, x1, x2]) (c := c45) (h := h45) (rs := [.tmp 6]) Try.func45 (by kernel_rfl) (by kernel_rfl) (Nat.le_of_ble_eq_true (by kernel_rfl)) (by kernel_rfl) (by kernel_rfl) (by kernel_rfl) ?_
 rw [← F45_eq]
 exact h

/- function 46: gnomon/gnomonref9.fork -/
def F46 (x0 x1 : Value) (w : World) (R : Value → World → Prop) (E : Pan) : Prop :=
 opK Try.prog E (xV (Instr.box 26 x0)) w fun t2_1 w_2 =>
 opK Try.prog E (xBuiltin .len #[68] 3 [false] [x1]) w_2 fun t8_3 w_4 =>
 opK Try.prog E (xBin .eql 3 (.tmp 8) (.const (Value.int .i64 0)) t8_3 (Value.int .i64 0)) w_4 fun t9_5 w_6 =>
 xcond t9_5
 (R (Value.bool true) w_6)
 (dX w_6 fun w_7 =>
 qP Try.prog (xV (Instr.fieldAt 26 t2_1 5)) fun t10_8 =>
 qP Try.prog (xV (Instr.indexAt 68 x1 (Value.int .i64 0))) fun t13_9 =>
 qL Try.prog w_7 (blk t10_8) (xV (Instr.loadAt 24 t10_8)) fun t11_10 =>
 qL Try.prog w_7 (blk t13_9) (xV (Instr.loadAt 3 t13_9)) fun t14_11 =>
 qP Try.prog (xV (Instr.indexAt 24 t11_10 t14_11)) fun t15_12 =>
 qL Try.prog w_7 (blk t15_12) (xV (Instr.loadAt 52 t15_12)) fun t16_13 =>
 opK Try.prog E (xV (Instr.alloc 52 true (.tuple #[]))) w_7 fun t5_14 w_15 =>
 keepX [(blk t15_12), (blk t13_9), (blk t10_8)] w_7 w_15 (opK Try.prog E (xU (Instr.storeAt 52 t5_14 t16_13)) w_15 fun _z_16 w_17 =>
 keepX [] w_15 w_17 (opK Try.prog E (xBuiltin .len #[68] 3 [false] [x1]) w_17 fun t18_18 w_19 =>
 opK Try.prog E (xBin .eql 3 (.tmp 18) (.const (Value.int .i64 1)) t18_18 (Value.int .i64 1)) w_19 fun t19_20 w_21 =>
 xcond t19_20
 (opK Try.prog E (xV (Instr.fieldAt 52 t5_14 2)) w_21 fun t20_22 w_23 =>
 opK Try.prog E (xV (Instr.loadAt 3 t20_22)) w_23 fun t21_24 w_25 =>
 opK Try.prog E (xBin .neq 3 (.tmp 21) (.const (Value.int .i64 12)) t21_24 (Value.int .i64 12)) w_25 fun t22_26 w_27 =>
 R t22_26 w_27)
 (dX w_21 fun w_28 =>
 qP Try.prog (xV (Instr.fieldAt 26 t2_1 5)) fun t23_29 =>
 qP Try.prog (xV (Instr.indexAt 68 x1 (Value.int .i64 1))) fun t26_30 =>
 qL Try.prog w_28 (blk t23_29) (xV (Instr.loadAt 24 t23_29)) fun t24_31 =>
 qL Try.prog w_28 (blk t26_30) (xV (Instr.loadAt 3 t26_30)) fun t27_32 =>
 qP Try.prog (xV (Instr.indexAt 24 t24_31 t27_32)) fun t28_33 =>
 qL Try.prog w_28 (blk t28_33) (xV (Instr.loadAt 52 t28_33)) fun t29_34 =>
 opK Try.prog E (xV (Instr.alloc 52 true (.tuple #[]))) w_28 fun t6_35 w_36 =>
 keepX [(blk t28_33), (blk t26_30), (blk t23_29)] w_28 w_36 (opK Try.prog E (xU (Instr.storeAt 52 t6_35 t29_34)) w_36 fun _z_37 w_38 =>
 keepX [] w_36 w_38 (dX w_38 fun w_39 =>
 qP Try.prog (xBuiltin .len #[68] 3 [false] [x1]) fun t31_40 =>
 qP Try.prog (xBin .eql 3 (.tmp 31) (.const (Value.int .i64 2)) t31_40 (Value.int .i64 2)) fun t32_41 =>
 qP Try.prog (gsem (asB t32_41) true (xV (Instr.fieldAt 52 t5_14 2))) fun t34_42 =>
 qL Try.prog w_39 (blk t34_42) (gsem (asB t32_41) true (xV (Instr.loadAt 3 t34_42))) fun t35_43 =>
 qP Try.prog (gsem (asB t32_41) true (xBin .eql 3 (.tmp 35) (.const (Value.int .i64 12)) t35_43 (Value.int .i64 12))) fun t36_44 =>
 qP Try.prog (xPick t32_41 t36_44 (Value.bool false)) fun t37_45 =>
 qP Try.prog (gsem (asB t37_45) true (xV (Instr.fieldAt 52 t6_35 2))) fun t39_46 =>
 qL Try.prog w_39 (blk t39_46) (gsem (asB t37_45) true (xV (Instr.loadAt 3 t39_46))) fun t40_47 =>
 qP Try.prog (gsem (asB t37_45) true (xBin .eql 3 (.tmp 40) (.const (Value.int .i64 12)) t40_47 (Value.int .i64 12))) fun t41_48 =>
 qP Try.prog (xPick t37_45 t41_48 (Value.bool false)) fun t42_49 =>
 qP Try.prog (gsem (asB t42_49) true (xV (Instr.fieldAt 52 t5_14 6))) fun t44_50 =>
 qP Try.prog (gsem (asB t42_49) true (xV (Instr.fieldAt 52 t6_35 6))) fun t46_51 =>
 qL Try.prog w_39 (blk t44_50) (gsem (asB t42_49) true (xV (Instr.loadAt 50 t44_50))) fun t45_52 =>
 qL Try.prog w_39 (blk t46_51) (gsem (asB t42_49) true (xV (Instr.loadAt 50 t46_51))) fun t47_53 =>
 qP Try.prog (gsem (asB t42_49) true (xBin .eql 50 (.tmp 45) (.tmp 47) t45_52 t47_53)) fun t48_54 =>
 qP Try.prog (xPick t42_49 t48_54 (Value.bool false)) fun t49_55 =>
 qP Try.prog (gsem (asB t49_55) true (xV (Instr.fieldAt 52 t5_14 7))) fun t51_56 =>
 qP Try.prog (gsem (asB t49_55) true (xV (Instr.fieldAt 52 t6_35 7))) fun t53_57 =>
 qL Try.prog w_39 (blk t51_56) (gsem (asB t49_55) true (xV (Instr.loadAt 50 t51_56))) fun t52_58 =>
 qL Try.prog w_39 (blk t53_57) (gsem (asB t49_55) true (xV (Instr.loadAt 50 t53_57))) fun t54_59 =>
 qP Try.prog (gsem (asB t49_55) true (xBin .eql 50 (.tmp 52) (.tmp 54) t52_58 t54_59)) fun t55_60 =>
 qP Try.prog (xPick t49_55 t55_60 (Value.bool false)) fun t56_61 =>
 qP Try.prog (gsem (asB t56_61) true (xV (Instr.fieldAt 52 t6_35 5))) fun t58_62 =>
 qP Try.prog (gsem (asB t56_61) true (xV (Instr.fieldAt 52 t5_14 5))) fun t60_63 =>
 qL Try.prog w_39 (blk t58_62) (gsem (asB t56_61) true (xV (Instr.loadAt 3 t58_62))) fun t59_64 =>
 qL Try.prog w_39 (blk t60_63) (gsem (asB t56_61) true (xV (Instr.loadAt 3 t60_63))) fun t61_65 =>
 opK Try.prog E (gsem (asB t56_61) true (xCall (Value.func (.func 69) #[] #[]) [t61_65])) w_39 fun t62_66 w_67 =>
 keepX [(blk t58_62)] w_39 w_67 (qP Try.prog (gsem (asB t56_61) true (xBin .eql 3 (.tmp 59) (.tmp 62) t59_64 t62_66)) fun t63_68 =>
 qP Try.prog (xPick t56_61 t63_68 (Value.bool false)) fun t64_69 =>
 R t64_69 w_67)))))))
noncomputable def c46 : Code := Try.f46.body.getD .skip
def h46 : Hint := (.seq .none (.seq (.seq .none (.cond (.seq .none .none) .none)) (.seq (.reg [(0, 1024, 4), (1, 2048, 1024), (0, 4096, 2), (4, 8192, 4096), (8, 16384, 8192), (18, 32768, 18432), (32, 65536, 32768), (0, 32, 0), (255, 0, 65568)] [82, 80, 82, 82, 66, 82, 18, 82, 0] (.early 0 (.early 2 (.early 3 (.load 1 (.load 4 (.early 5 (.load 6 (.step 7 (.step 8 .done)))))))))) (.seq (.seq .none (.cond (.seq .none .none) .none)) (.seq (.reg [(0, 8388608, 4), (1, 16777216, 8388608), (0, 33554432, 2), (4, 67108864, 33554432), (8, 134217728, 67108864), (18, 268435456, 150994944), (32, 536870912, 268435456), (0, 64, 0), (255, 0, 536870976)] [82, 80, 82, 82, 66, 82, 18, 82, 0] (.early 0 (.early 2 (.early 3 (.load 1 (.load 4 (.early 5 (.load 6 (.step 7 (.step 8 .done)))))))))) (.seq (.reg [(0, 1073741824, 2), (1, 2147483648, 1073741824), (2, 4294967296, 2147483648), (4, 8589934592, 4294967296), (8, 17179869184, 8589934624), (24, 34359738368, 25769803776), (40, 68719476736, 42949672960), (72, 137438953472, 77309411328), (136, 274877906944, 137438953472), (256, 549755813888, 274877907008), (768, 1099511627776, 824633720832), (1280, 2199023255552, 1374389534720), (2304, 4398046511104, 2473901162496), (4352, 8796093022208, 4398046511104), (8192, 17592186044416, 8796093022240), (24576, 35184372088832, 26388279066624), (8192, 70368744177664, 8796093022272), (73728, 140737488355328, 79164837199872), (172032, 281474976710656, 184717953466368), (270336, 562949953421312, 290271069732864), (532480, 1125899906842624, 562949953421312), (1048576, 2251799813685248, 1125899906842656), (3145728, 4503599627370496, 3377699720527872), (1048576, 9007199254740992, 1125899906842688), (9437184, 18014398509481984, 10133099161583616), (22020096, 36028797018963968, 23643898043695104), (34603008, 72057594037927936, 37154696925806592), (68157440, 144115188075855872, 72057594037927936), (134217728, 288230376151711744, 144115188075855936), (402653184, 576460752303423488, 432345564227567616), (134217728, 1152921504606846976, 144115188075855904), (1207959552, 2305843009213693952, 1297036692682702848), (2281701376, 4611686018427387904, 2449958197289549824), (4966055936, 9223372036854775808, 5332261958806667264), (8724152320, 18446744073709551616, 9367487224930631680), (34359738367, 16, 18446744073709551616)] [2705490976, 2705490976, 2705490976, 2705490976, 2705490976, 2705490944, 2705490976, 2705490976, 2705490976, 2705490976, 2705489952, 2705490976, 2705490976, 2705490976, 2705490976, 2705458208, 2705490976, 2705359904, 2705490976, 2705490976, 2705490976, 2705490976, 2701296672, 2705490976, 2688713760, 2705490976, 2705490976, 2705490976, 2705490976, 2168620064, 2705490976, 558007328, 536870912, 2705490976, 2705490976, 2705490976] (.early 0 (.early 1 (.early 2 (.early 3 (.early 4 (.load 5 (.early 6 (.early 7 (.early 8 (.early 9 (.load 10 (.early 11 (.early 12 (.early 13 (.early 14 (.early 16 (.load 15 (.load 17 (.early 18 (.early 19 (.early 20 (.early 21 (.early 23 (.load 22 (.load 24 (.early 25 (.early 26 (.early 27 (.early 28 (.early 30 (.load 29 (.load 31 (.step 32 (.early 33 (.early 34 (.early 35 .done))))))))))))))))))))))))))))))))))))) .none))))))
theorem F46_eq (x0 x1 : Value) (w : World) (R : Value → World → Prop) (E : Pan) : F46 x0 x1 w R E = callX Try.prog [.tmp 4] c46 h46 [x0, x1] w R E := by kernel_rfl
theorem F46_ok {x0 x1 : Value} {w : World} {R : Value → World → Prop} {E : Pan} (h : F46 x0 x1 w R E) : Cv Try.prog 46 #[x0, x1] w R E := by
 refine callX_sound (args := [x0, x1]) (c := c46) (h := h46) (rs := [.tmp 4]) Try.func46 (by kernel_rfl) (by kernel_rfl) (Nat.le_of_ble_eq_true (by kernel_rfl)) (by kernel_rfl) (by kernel_rfl) (by kernel_rfl) ?_
 rw [← F46_eq]
 exact h

/- function 47: gnomon/gnomonref7.Cmp -/
def F47 (x0 x1 x2 : Value) (w : World) (R : Value → World → Prop) (E : Pan) : Prop :=
 opK Try.prog E (xBin .eql 3 (.tmp 7) (.const (Value.int .i64 1)) x0 (Value.int .i64 1)) w fun t9_1 w_2 =>
 xcond t9_1
 (opK Try.prog E (xBin .lss 2 (.tmp 10) (.tmp 11) x1 x2) w_2 fun t12_3 w_4 =>
 R t12_3 w_4)
 (opK Try.prog E (xBin .eql 3 (.tmp 7) (.const (Value.int .i64 2)) x0 (Value.int .i64 2)) w_2 fun t14_5 w_6 =>
 xcond t14_5
 (opK Try.prog E (xBin .leq 2 (.tmp 15) (.tmp 16) x1 x2) w_6 fun t17_7 w_8 =>
 R t17_7 w_8)
 (opK Try.prog E (xBin .eql 3 (.tmp 7) (.const (Value.int .i64 3)) x0 (Value.int .i64 3)) w_6 fun t19_9 w_10 =>
 xcond t19_9
 (opK Try.prog E (xBin .eql 2 (.tmp 20) (.tmp 21) x1 x2) w_10 fun t22_11 w_12 =>
 R t22_11 w_12)
 (opK Try.prog E (xBin .eql 3 (.tmp 7) (.const (Value.int .i64 4)) x0 (Value.int .i64 4)) w_10 fun t24_13 w_14 =>
 xcond t24_13
 (opK Try.prog E (xBin .neq 2 (.tmp 25) (.tmp 26) x1 x2) w_14 fun t27_15 w_16 =>
 R t27_15 w_16)
 (opK Try.prog E (xBin .eql 3 (.tmp 7) (.const (Value.int .i64 5)) x0 (Value.int .i64 5)) w_14 fun t29_17 w_18 =>
 xcond t29_17
 (opK Try.prog E (xBin .gtr 2 (.tmp 30) (.tmp 31) x1 x2) w_18 fun t32_19 w_20 =>
 R t32_19 w_20)
 (opK Try.prog E (xBin .eql 3 (.tmp 7) (.const (Value.int .i64 6)) x0 (Value.int .i64 6)) w_18 fun t34_21 w_22 =>
 xcond t34_21
 (opK Try.prog E (xBin .geq 2 (.tmp 35) (.tmp 36) x1 x2) w_22 fun t37_23 w_24 =>
 R t37_23 w_24)
 (R (Value.bool false) w_22))))))
noncomputable def c47 : Code := Try.f47.body.getD .skip
def h47 : Hint := (.seq .none (.seq (.seq .none (.block (.seq .none (.cond (.seq .none .none) (.seq .none (.cond (.seq .none .none) (.seq .none (.cond (.seq .none .none) (.seq .none (.cond (.seq .none .none) (.seq .none (.cond (.seq .none .none) (.seq .none (.cond (.seq .none .none) .none)))))))))))))) (.seq .none .none)))
theorem F47_eq (x0 x1 x2 : Value) (w : World) (R : Value → World → Prop) (E : Pan) : F47 x0 x1 x2 w R E = callX Try.prog [.tmp 6] c47 h47 [x0, x1, x2] w R E := by kernel_rfl
theorem F47_ok {x0 x1 x2 : Value} {w : World} {R : Value → World → Prop} {E : Pan} (h : F47 x0 x1 x2 w R E) : Cv Try.prog 47 #[x0, x1, x2] w R E := by
 refine callX_sound (args := [x0, x1, x2]) (c := c47) (h := h47) (rs := [.tmp 6]) Try.func47 (by kernel_rfl) (by kernel_rfl) (Nat.le_of_ble_eq_true (by kernel_rfl)) (by kernel_rfl) (by kernel_rfl) (by kernel_rfl) ?_
 rw [← F47_eq]
 exact h

/- function 48: (*gnomon/gnomonref10.state).value -/
def F48 (x0 x1 : Value) (w : World) (R : Value → World → Prop) (E : Pan) : Prop :=
 opK Try.prog E (xV (Instr.box 50 x1)) w fun t3_1 w_2 =>
 opK Try.prog E (xV (Instr.fieldAt 50 t3_1 0)) w_2 fun t5_3 w_4 =>
 opK Try.prog E (xV (Instr.loadAt 3 t5_3)) w_4 fun t6_5 w_6 =>
 opK Try.prog E (xBin .lss 3 (.tmp 6) (.const (Value.int .i64 0)) t6_5 (Value.int .i64 0)) w_6 fun t7_7 w_8 =>
 xcond t7_7
 (opK Try.prog E (xV (Instr.fieldAt 50 t3_1 1)) w_8 fun t8_9 w_10 =>
 opK Try.prog E (xV (Instr.loadAt 2 t8_9)) w_10 fun t9_11 w_12 =>
 R t9_11 w_12)
 (dX w_8 fun w_13 =>
 qP Try.prog (xNil x0) fun t11_14 =>
 qP Try.prog (xV (Instr.fieldAt 71 t11_14 0)) fun t12_15 =>
 qP Try.prog (xV (Instr.fieldAt 50 t3_1 0)) fun t14_16 =>
 qL Try.prog w_13 (blk t12_15) (xV (Instr.loadAt 27 t12_15)) fun t13_17 =>
 qL Try.prog w_13 (blk t14_16) (xV (Instr.loadAt 3 t14_16)) fun t15_18 =>
 qP Try.prog (xV (Instr.indexAt 27 t13_17 t15_18)) fun t16_19 =>
 qL Try.prog w_13 (blk t16_19) (xV (Instr.loadAt 2 t16_19)) fun t17_20 =>
 R t17_20 w_13)
noncomputable def c48 : Code := Try.f48.body.getD .skip
def h48 : Hint := (.seq .none (.seq (.seq .none (.cond (.seq .none .none) .none)) (.seq (.reg [(0, 1024, 1), (1, 2048, 1024), (2, 4096, 2048), (4, 8192, 4096), (0, 16384, 8), (16, 32768, 16384), (40, 65536, 40960), (64, 131072, 65536), (255, 16, 131072)] [168, 168, 168, 160, 168, 136, 168, 40, 168] (.early 0 (.early 1 (.early 2 (.early 4 (.load 3 (.load 5 (.early 6 (.load 7 (.early 8 .done)))))))))) .none)))
theorem F48_eq (x0 x1 : Value) (w : World) (R : Value → World → Prop) (E : Pan) : F48 x0 x1 w R E = callX Try.prog [.tmp 4] c48 h48 [x0, x1] w R E := by kernel_rfl
theorem F48_ok {x0 x1 : Value} {w : World} {R : Value → World → Prop} {E : Pan} (h : F48 x0 x1 w R E) : Cv Try.prog 48 #[x0, x1] w R E := by
 refine callX_sound (args := [x0, x1]) (c := c48) (h := h48) (rs := [.tmp 4]) Try.func48 (by kernel_rfl) (by kernel_rfl) (Nat.le_of_ble_eq_true (by kernel_rfl)) (by kernel_rfl) (by kernel_rfl) (by kernel_rfl) ?_
 rw [← F48_eq]
 exact h

/- function 49: gnomon/gnomonref7.Do -/
def F49 (x0 x1 x2 : Value) (w : World) (R : Value → World → Prop) (E : Pan) : Prop :=
 opK Try.prog E (xBin .eql 3 (.tmp 8) (.const (Value.int .i64 5)) x0 (Value.int .i64 5)) w fun t10_1 w_2 =>
 xcond t10_1
 (opK Try.prog E (xCall (Value.func (.func 70) #[] #[]) [x1]) w_2 fun t12_3 w_4 =>
 opK Try.prog E (xV (Instr.extract t12_3 0)) w_4 fun t13_5 w_6 =>
 opK Try.prog E (xV (Instr.extract t12_3 1)) w_6 fun t14_7 w_8 =>
 R (Value.tuple #[t13_5, t14_7]) w_8)
 (opK Try.prog E (xBin .eql 3 (.tmp 8) (.const (Value.int .i64 6)) x0 (Value.int .i64 6)) w_2 fun t16_9 w_10 =>
 xcond t16_9
 (opK Try.prog E (xCall (Value.func (.func 71) #[] #[]) [x1, x2]) w_10 fun t19_11 w_12 =>
 opK Try.prog E (xV (Instr.extract t19_11 0)) w_12 fun t20_13 w_14 =>
 opK Try.prog E (xV (Instr.extract t19_11 1)) w_14 fun t21_15 w_16 =>
 R (Value.tuple #[t20_13, t21_15]) w_16)
 (opK Try.prog E (xBin .eql 3 (.tmp 8) (.const (Value.int .i64 7)) x0 (Value.int .i64 7)) w_10 fun t23_17 w_18 =>
 xcond t23_17
 (opK Try.prog E (xCall (Value.func (.func 72) #[] #[]) [x1, x2]) w_18 fun t26_19 w_20 =>
 opK Try.prog E (xV (Instr.extract t26_19 0)) w_20 fun t27_21 w_22 =>
 opK Try.prog E (xV (Instr.extract t26_19 1)) w_22 fun t28_23 w_24 =>
 R (Value.tuple #[t27_21, t28_23]) w_24)
 (opK Try.prog E (xBin .eql 3 (.tmp 8) (.const (Value.int .i64 8)) x0 (Value.int .i64 8)) w_18 fun t30_25 w_26 =>
 xcond t30_25
 (opK Try.prog E (xCall (Value.func (.func 73) #[] #[]) [x1, x2]) w_26 fun t33_27 w_28 =>
 opK Try.prog E (xV (Instr.extract t33_27 0)) w_28 fun t34_29 w_30 =>
 opK Try.prog E (xV (Instr.extract t33_27 1)) w_30 fun t35_31 w_32 =>
 R (Value.tuple #[t34_29, t35_31]) w_32)
 (opK Try.prog E (xBin .eql 3 (.tmp 8) (.const (Value.int .i64 9)) x0 (Value.int .i64 9)) w_26 fun t37_33 w_34 =>
 xcond t37_33
 (opK Try.prog E (xCall (Value.func (.func 74) #[] #[]) [x1, x2]) w_34 fun t40_35 w_36 =>
 opK Try.prog E (xV (Instr.extract t40_35 0)) w_36 fun t41_37 w_38 =>
 opK Try.prog E (xV (Instr.extract t40_35 1)) w_38 fun t42_39 w_40 =>
 R (Value.tuple #[t41_37, t42_39]) w_40)
 (opK Try.prog E (xCall (Value.func (.func 75) #[] #[]) [x1, x2]) w_34 fun t45_41 w_42 =>
 opK Try.prog E (xV (Instr.extract t45_41 0)) w_42 fun t46_43 w_44 =>
 opK Try.prog E (xV (Instr.extract t45_41 1)) w_44 fun t47_45 w_46 =>
 R (Value.tuple #[t46_43, t47_45]) w_46)))))
noncomputable def c49 : Code := Try.f49.body.getD .skip
def h49 : Hint := (.seq .none (.seq (.seq .none (.block (.seq .none (.cond (.seq .none .none) (.seq .none (.cond (.seq .none .none) (.seq .none (.cond (.seq .none .none) (.seq .none (.cond (.seq .none .none) (.seq .none (.cond (.seq .none .none) .none)))))))))))) (.seq .none .none)))
theorem F49_eq (x0 x1 x2 : Value) (w : World) (R : Value → World → Prop) (E : Pan) : F49 x0 x1 x2 w R E = callX Try.prog [.tmp 6, .tmp 7] c49 h49 [x0, x1, x2] w R E := by kernel_rfl
theorem F49_ok {x0 x1 x2 : Value} {w : World} {R : Value → World → Prop} {E : Pan} (h : F49 x0 x1 x2 w R E) : Cv Try.prog 49 #[x0, x1, x2] w R E := by
 refine callX_sound (args := [x0, x1, x2]) (c := c49) (h := h49) (rs := [.tmp 6, .tmp 7]) Try.func49 (by kernel_rfl) (by kernel_rfl) (Nat.le_of_ble_eq_true (by kernel_rfl)) (by kernel_rfl) (by kernel_rfl) (by kernel_rfl) ?_
 rw [← F49_eq]
 exact h

/- function 50: (*gnomon/gnomonref10.state).place -/
def F50 (x0 x1 x2 : Value) (w : World) (R : Value → World → Prop) (E : Pan) : Prop :=
 opK Try.prog E (xBin .geq 2 (.tmp 7) (.const (Value.int .i64 0)) x2 (Value.int .i64 0)) w fun t8_1 w_2 =>
 opK Try.prog E (gsem (asB t8_1) true (xNil (gval (asB t8_1) true x0))) w_2 fun t12_3 w_4 =>
 opK Try.prog E (gsem (asB t8_1) true (xV (Instr.fieldAt 71 t12_3 1))) w_4 fun t13_5 w_6 =>
 opK Try.prog E (gsem (asB t8_1) true (xV (Instr.loadAt 32 t13_5))) w_6 fun t14_7 w_8 =>
 opK Try.prog E (gsem (asB t8_1) true (xV (Instr.indexAt 32 t14_7 (gval (asB t8_1) true x1)))) w_8 fun t16_9 w_10 =>
 opK Try.prog E (gsem (asB t8_1) true (xV (Instr.loadAt 27 t16_9))) w_10 fun t17_11 w_12 =>
 opK Try.prog E (gsem (asB t8_1) true (xBuiltin .len #[27] 3 [false] [t17_11])) w_12 fun t18_13 w_14 =>
 opK Try.prog E (gsem (asB t8_1) true (xBin .lss 2 (.tmp 10) (.tmp 18) (gval (asB t8_1) true x2) t18_13)) w_14 fun t19_15 w_16 =>
 opK Try.prog E (xPick t8_1 t19_15 (Value.bool false)) w_16 fun t20_17 w_18 =>
 R t20_17 w_18
noncomputable def c50 : Code := Try.f50.body.getD .skip
def h50 : Hint := (.seq .none (.seq .none .none))
theorem F50_eq (x0 x1 x2 : Value) (w : World) (R : Value → World → Prop) (E : Pan) : F50 x0 x1 x2 w R E = callX Try.prog [.tmp 6] c50 h50 [x0, x1, x2] w R E := by kernel_rfl
theorem F50_ok {x0 x1 x2 : Value} {w : World} {R : Value → World → Prop} {E : Pan} (h : F50 x0 x1 x2 w R E) : Cv Try.prog 50 #[x0, x1, x2] w R E := by
 refine callX_sound (args := [x0, x1, x2]) (c := c50) (h := h50) (rs := [.tmp 6]) Try.func50 (by kernel_rfl) (by kernel_rfl) (Nat.le_of_ble_eq_true (by kernel_rfl)) (by kernel_rfl) (by kernel_rfl) (by kernel_rfl) ?_
 rw [← F50_eq]
 exact h

/- function 51: gnomon/cfg.wantsOf -/
def F51_j1 (x2 x3 : Value) (w : World) (R : Value → World → Prop) (E : Pan) : Prop :=
 ∀ _τ : Fr, (opK Try.prog E (xV (Instr.loadAt 95 x3)) w fun t34_9 w_10 =>
 opK Try.prog E (xU (Instr.storeAt 95 x2 t34_9)) w_10 fun _z_11 w_12 =>
 xcell Try.prog 95 x2 w_12 fun r_13 =>
 R r_13 w_12)
def F51_j3 (x2 x3 x5 x11 : Value) (w : World) (j1 : List Value → World → Prop) (R : Value → World → Prop) (E : Pan) : Prop :=
 ∀ _τ : Fr, (xcond x11
 (opK Try.prog E (xV (Instr.fieldAt 95 x3 0)) w fun t17_20 w_21 =>
 opK Try.prog E (xU (Instr.storeAt 4 t17_20 (Value.bool true))) w_21 fun _z_22 w_23 =>
 opK Try.prog E (xV (Instr.fieldAt 95 x3 4)) w_23 fun t18_24 w_25 =>
 opK Try.prog E (xU (Instr.storeAt 4 t18_24 (Value.bool true))) w_25 fun _z_26 w_27 =>
 j1 [] w_27)
 (opK Try.prog E (xBin .eql 3 (.tmp 5) (.const (Value.int .i64 9)) x5 (Value.int .i64 9)) w fun t20_28 w_29 =>
 xcond t20_28
 (opK Try.prog E (xV (Instr.build 95 #[(0, (Value.bool true))])) w_29 fun t21_30 w_31 =>
 opK Try.prog E (xU (Instr.storeAt 95 x2 t21_30)) w_31 fun _z_32 w_33 =>
 xcell Try.prog 95 x2 w_33 fun r_34 =>
 R r_34 w_33)
 (opK Try.prog E (xBin .eql 3 (.tmp 5) (.const (Value.int .i64 10)) x5 (Value.int .i64 10)) w_29 fun t23_35 w_36 =>
 xcond t23_35
 (opK Try.prog E (xV (Instr.fieldAt 95 x3 0)) w_36 fun t24_37 w_38 =>
 opK Try.prog E (xU (Instr.storeAt 4 t24_37 (Value.bool true))) w_38 fun _z_39 w_40 =>
 opK Try.prog E (xV (Instr.fieldAt 95 x3 1)) w_40 fun t25_41 w_42 =>
 opK Try.prog E (xU (Instr.storeAt 4 t25_41 (Value.bool true))) w_42 fun _z_43 w_44 =>
 j1 [] w_44)
 (opK Try.prog E (xBin .eql 3 (.tmp 5) (.const (Value.int .i64 11)) x5 (Value.int .i64 11)) w_36 fun t27_45 w_46 =>
 xcond t27_45
 (opK Try.prog E (xV (Instr.fieldAt 95 x3 1)) w_46 fun t28_47 w_48 =>
 opK Try.prog E (xU (Instr.storeAt 4 t28_47 (Value.bool true))) w_48 fun _z_49 w_50 =>
 opK Try.prog E (xV (Instr.fieldAt 95 x3 4)) w_50 fun t29_51 w_52 =>
 opK Try.prog E (xU (Instr.storeAt 4 t29_51 (Value.bool true))) w_52 fun _z_53 w_54 =>
 j1 [] w_54)
 (opK Try.prog E (xBin .eql 3 (.tmp 5) (.const (Value.int .i64 12)) x5 (Value.int .i64 12)) w_46 fun t31_55 w_56 =>
 xcond t31_55
 (opK Try.prog E (xV (Instr.fieldAt 95 x3 2)) w_56 fun t32_57 w_58 =>
 opK Try.prog E (xU (Instr.storeAt 4 t32_57 (Value.bool true))) w_58 fun _z_59 w_60 =>
 opK Try.prog E (xV (Instr.fieldAt 95 x3 4)) w_60 fun t33_61 w_62 =>
 opK Try.prog E (xU (Instr.storeAt 4 t33_61 (Value.bool true))) w_62 fun _z_63 w_64 =>
 j1 [] w_64)
 (opK Try.prog E (xV (Instr.build 95 #[])) w_56 fun t6_65 w_66 =>
 opK Try.prog E (xU (Instr.storeAt 95 x2 t6_65)) w_66 fun _z_67 w_68 =>
 xcell Try.prog 95 x2 w_68 fun r_69 =>
 R r_69 w_68))))))
def F51_j2 (x2 x3 x5 x7 : Value) (w : World) (j1 : List Value → World → Prop) (R : Value → World → Prop) (E : Pan) : Prop :=
 ∀ _τ : Fr, (xcond x7
 (opK Try.prog E (xV (Instr.fieldAt 95 x3 0)) w fun t10_16 w_17 =>
 opK Try.prog E (xU (Instr.storeAt 4 t10_16 (Value.bool true))) w_17 fun _z_18 w_19 =>
 j1 [] w_19)
 (xcut (fun l_70 w_71 => F51_j3 x2 x3 x5 (nth l_70 0) w_71 j1 R E) fun j3 =>
 opK Try.prog E (xBin .eql 3 (.tmp 5) (.const (Value.int .i64 4)) x5 (Value.int .i64 4)) w fun t12_72 w_73 =>
 xcond t12_72
 (j3 [t12_72] w_73)
 (opK Try.prog E (xBin .eql 3 (.tmp 5) (.const (Value.int .i64 5)) x5 (Value.int .i64 5)) w_73 fun t13_74 w_75 =>
 xcond t13_74
 (j3 [t13_74] w_75)
 (opK Try.prog E (xBin .eql 3 (.tmp 5) (.const (Value.int .i64 6)) x5 (Value.int .i64 6)) w_75 fun t14_76 w_77 =>
 xcond t14_76
 (j3 [t14_76] w_77)
 (opK Try.prog E (xBin .eql 3 (.tmp 5) (.const (Value.int .i64 7)) x5 (Value.int .i64 7)) w_77 fun t15_78 w_79 =>
 xcond t15_78
 (j3 [t15_78] w_79)
 (opK Try.prog E (xBin .eql 3 (.tmp 5) (.const (Value.int .i64 8)) x5 (Value.int .i64 8)) w_79 fun t16_80 w_81 =>
 j3 [t16_80] w_81))))))
def F51 (x0 : Value) (w : World) (R : Value → World → Prop) (E : Pan) : Prop :=
 opK Try.prog E (xV (Instr.alloc 95 true (.tuple #[]))) w fun t2_1 w_2 =>
 opK Try.prog E (xV (Instr.build 95 #[(3, (Value.bool true))])) w_2 fun t4_3 w_4 =>
 opK Try.prog E (xV (Instr.alloc 95 true (.tuple #[]))) w_4 fun t3_5 w_6 =>
 opK Try.prog E (xU (Instr.storeAt 95 t3_5 t4_3)) w_6 fun _z_7 w_8 =>
 xcut (fun _ w_15 => F51_j1 t2_1 t3_5 w_15 R E) fun j1 =>
 xcut (fun l_82 w_83 => F51_j2 t2_1 t3_5 x0 (nth l_82 0) w_83 j1 R E) fun j2 =>
 opK Try.prog E (xBin .eql 3 (.tmp 5) (.const (Value.int .i64 2)) x0 (Value.int .i64 2)) w_8 fun t8_84 w_85 =>
 xcond t8_84
 (j2 [t8_84] w_85)
 (opK Try.prog E (xBin .eql 3 (.tmp 5) (.const (Value.int .i64 3)) x0 (Value.int .i64 3)) w_85 fun t9_86 w_87 =>
 j2 [t9_86] w_87)
noncomputable def c51 : Code := Try.f51.body.getD .skip
def h51 : Hint := (.seq .none (.seq .none (.cut [] (.seq .none (.block (.cut [7] (.seq .none (.cond .none .none)) (.cond .none (.cut [11] (.seq .none (.cond .none (.seq .none (.cond .none (.seq .none (.cond .none (.seq .none (.cond .none .none)))))))) (.cond .none (.seq .none (.cond (.seq .none .none) (.seq .none (.cond .none (.seq .none (.cond .none (.seq .none (.cond .none (.seq .none .none))))))))))))))) (.seq .none .none))))
theorem F51_eq (x0 : Value) (w : World) (R : Value → World → Prop) (E : Pan) : F51 x0 w R E = callX Try.prog [.cell 2 95] c51 h51 [x0] w R E := by kernel_rfl
theorem F51_ok {x0 : Value} {w : World} {R : Value → World → Prop} {E : Pan} (h : F51 x0 w R E) : Cv Try.prog 51 #[x0] w R E := by
 refine callX_sound (args := [x0]) (c := c51) (h := h51) (rs := [.cell 2 95]) Try.func51 (by kernel_rfl) (by kernel_rfl) (Nat.le_of_ble_eq_true (by kernel_rfl)) (by kernel_rfl) (by kernel_rfl) (by kernel_rfl) ?_
 rw [← F51_eq]
 exact h

/- function 52: gnomon/cfg.has -/
def F52 (x0 x1 x2 : Value) (w : World) (R : Value → World → Prop) (_E : Pan) : Prop :=
 xcond x0
 (R x1 w)
 (R x2 w)
noncomputable def c52 : Code := Try.f52.body.getD .skip
def h52 : Hint := (.seq .none (.seq (.seq .none (.cond (.seq .none .none) .none)) (.seq .none .none)))
theorem F52_eq (x0 x1 x2 : Value) (w : World) (R : Value → World → Prop) (E : Pan) : F52 x0 x1 x2 w R E = callX Try.prog [.tmp 6] c52 h52 [x0, x1, x2] w R E := by kernel_rfl
theorem F52_ok {x0 x1 x2 : Value} {w : World} {R : Value → World → Prop} {E : Pan} (h : F52 x0 x1 x2 w R E) : Cv Try.prog 52 #[x0, x1, x2] w R E := by
 refine callX_sound (args := [x0, x1, x2]) (c := c52) (h := h52) (rs := [.tmp 6]) Try.func52 (by kernel_rfl) (by kernel_rfl) (Nat.le_of_ble_eq_true (by kernel_rfl)) (by kernel_rfl) (by kernel_rfl) (by kernel_rfl) ?_
 rw [← F52_eq]
 exact h

end Go.Proofs.Ytgapepdglhcglaa
