/-
  The second reading of some of the program's functions, printed by gen.py off the code; each is held against the code by the kernel.
-/
import Derived.Test.YtpdeflgmldomeaaDoorProg
import Derived.Test.YtpdeflgmldomeaaDoorEY
import Derived.KernelRfl
namespace Go.Proofs.YtpdeflgmldomeaaDoor
open Go.RowKit

/- function 21: gnomon/text.steps -/
def F21 (x0 : Value) (w : World) (R : Value → World → Prop) : Prop :=
  opK Tryd.prog (xV (Instr.box 9 x0)) w fun t1_1 w_2 =>
  opK Tryd.prog (xV (Instr.makeFunc (.func 25) #[] #[t1_1])) w_2 fun t3_3 w_4 =>
  R t3_3 w_4
noncomputable def c21 : Code := Tryd.f21.body.getD .skip
def h21 : Hint := (.seq .none (.seq .none .none))
set_option maxRecDepth 100000 in
theorem F21_eq (x0 : Value) (w : World) (R : Value → World → Prop) : F21 x0 w R = callX Tryd.prog [.tmp 2] c21 h21 [x0] w R := by kernel_rfl
theorem F21_ok {x0 : Value} {w : World} {R : Value → World → Prop} (h : F21 x0 w R) : Cv Tryd.prog 21 #[x0] w R :=
  callX_sound (args := [x0]) (c := c21) (h := h21) Tryd.func21 (by kernel_rfl) (Nat.le_of_ble_eq_true (by kernel_rfl)) (by kernel_rfl) (by kernel_rfl) (by kernel_rfl) ((F21_eq x0 w R).mp h)

/- function 25: gnomon/text.steps$1 -/
def F25_l1 (x0 x3 x8 : Value) (w : World) (next1 : List Value → World → Prop) (R : Value → World → Prop) : Prop :=
  opK Tryd.prog (xV (Instr.next x8 true 0)) w fun t9_14 w_15 =>
  opK Tryd.prog (xV (Instr.extract t9_14 0)) w_15 fun t10_16 w_17 =>
  xcond t10_16
  (opK Tryd.prog (xV (Instr.extract t9_14 1)) w_17 fun t11_19 w_20 =>
  opK Tryd.prog (xV (Instr.extract t9_14 2)) w_20 fun t12_21 w_22 =>
  opK Tryd.prog (xV (Instr.loadAt 33 x3)) w_22 fun t13_24 w_25 =>
  opK Tryd.prog (xCall (Value.func (.func 23) #[] #[]) [t13_24, t12_21]) w_25 fun t15_26 w_27 =>
  opK Tryd.prog (xU (Instr.storeAt 33 x3 t15_26)) w_27 fun _z_28 w_29 =>
  opK Tryd.prog (xV (Instr.loadAt 33 x3)) w_29 fun t18_31 w_32 =>
  opY Tryd.prog (xCall x0 [t11_19, t18_31]) w_32 fun t19_33 w_34 =>
  opK Tryd.prog (xV (Op.unary .not t19_33)) w_34 fun t20_35 w_36 =>
  xcond t20_35
  (R (Value.tuple #[]) w_36)
  ((([] : List Nat) = [] ∧ next1 [] w_36)))
  (R (Value.tuple #[]) w_17)
def F25 (x0 x1 : Value) (w : World) (R : Value → World → Prop) : Prop :=
  opK Tryd.prog (xCall (Value.func (.func 20) #[] #[]) []) w fun t6_2 w_3 =>
  opK Tryd.prog (xV (Instr.alloc 33 true (.tuple #[]))) w_3 fun t3_4 w_5 =>
  opK Tryd.prog (xU (Instr.storeAt 33 t3_4 t6_2)) w_5 fun _z_6 w_7 =>
  opK Tryd.prog (xV (Instr.loadAt 9 x1)) w_7 fun t7_9 w_10 =>
  opK Tryd.prog (xV (Instr.range 9 t7_9)) w_10 fun t8_11 w_12 =>
  xloop [] [] w_12 fun _ w_38 next1 =>
  F25_l1 x0 t3_4 t8_11 w_38 next1 R
noncomputable def c25 : Code := Tryd.f25.body.getD .skip
def h25 : HintY := (.seq .none (.seq .none (.block (.loop [] (.seq .none (.seq (.cond .none .none) (.block (.seq .none (.seq .none (.seq .none (.cond .none .none)))))))))))
set_option maxRecDepth 100000 in
theorem F25_eq (x0 x1 : Value) (w : World) (R : Value → World → Prop) : F25 x0 x1 w R = callY Tryd.prog [] c25 h25 [x0, x1] w R := by kernel_rfl
theorem F25_ok {x0 x1 : Value} {w : World} {R : Value → World → Prop} (h : F25 x0 x1 w R) : Cv Tryd.prog 25 #[x0, x1] w R :=
  callY_sound (args := [x0, x1]) (c := c25) (h := h25) Tryd.func25 (by kernel_rfl) (Nat.le_of_ble_eq_true (by kernel_rfl)) (by kernel_rfl) (by kernel_rfl) (by kernel_rfl) ((F25_eq x0 x1 w R).mp h)

/- function 13: gnomon/text.At -/
def F13_b1 (x4 x5 : Value) (ds : List Nat) (w : World) (R : Value → World → Prop) : Prop :=
  opK Tryd.prog (xV (Instr.loadAt 33 x5)) w fun t17_17 w_18 =>
  opK Tryd.prog (xU (Instr.storeAt 33 x4 t17_17)) w_18 fun _z_19 w_20 =>
  closeM ds w_20 fun w_21 => xcell Tryd.prog 33 x4 w_21 fun r_22 =>
  R r_22 w_21
def F13 (x0 x1 : Value) (w : World) (R : Value → World → Prop) : Prop :=
  opK Tryd.prog (xV (Instr.box 3 x1)) w fun t3_2 w_3 =>
  opK Tryd.prog (xV (Instr.alloc 33 true (.tuple #[]))) w_3 fun t4_4 w_5 =>
  opK Tryd.prog (xCall (Value.func (.func 20) #[] #[]) []) w_5 fun t8_7 w_8 =>
  opK Tryd.prog (xV (Instr.alloc 33 true (.tuple #[]))) w_8 fun t5_9 w_10 =>
  opK Tryd.prog (xU (Instr.storeAt 33 t5_9 t8_7)) w_10 fun _z_11 w_12 =>
  opK Tryd.prog (xCall (Value.func (.func 21) #[] #[]) [x0]) w_12 fun t10_14 w_15 =>
  xrange Tryd.prog t10_14 2 w_15 (fun rec_23 ar_24 W_25 E_26 =>
  opK Tryd.prog (xV (Instr.alloc 33 true (.tuple #[]))) W_25 fun t7_29 w_30 =>
  opK Tryd.prog (xU (Instr.storeAt 33 t7_29 (nth ar_24 1))) w_30 fun _z_31 w_32 =>
  beginY (w_15.heap.size + 1) rec_23 w_32 fun w_33 =>
  opK Tryd.prog (xV (Instr.loadAt 3 t3_2)) w_33 fun t14_35 w_36 =>
  opK Tryd.prog (xBin .geq 3 (.tmp 13) (.tmp 14) (nth ar_24 0) t14_35) w_36 fun t15_37 w_38 =>
  xcond t15_37
  (E_26 (.exit 0) w_38)
  (opK Tryd.prog (xV (Instr.loadAt 33 t7_29)) w_38 fun t16_40 w_41 =>
  opK Tryd.prog (xU (Instr.storeAt 33 t5_9 t16_40)) w_41 fun _z_42 w_43 =>
  E_26 .normal w_43))
  (fun W_44 => F13_b1 t4_4 t5_9 (w_15.heap.size :: []) W_44 R) (fun W_45 => closeM (w_15.heap.size :: []) W_45 fun w_48 => xcell Tryd.prog 33 t4_4 w_48 fun r_49 =>
  R r_49 w_48) (fun id_47 W_46 => (bif Nat.beq id_47 0 then F13_b1 t4_4 t5_9 (w_15.heap.size :: []) W_46 R else False))
noncomputable def c13 : Code := Tryd.f13.body.getD .skip
def h13 : HintY := (.seq .none (.seq .none (.seq (.seq .none (.block (.range (.seq .none .none) (.block (.seq (.seq .none (.cond .none .none)) .none))))) (.seq .none .none))))
set_option maxRecDepth 100000 in
theorem F13_eq (x0 x1 : Value) (w : World) (R : Value → World → Prop) : F13 x0 x1 w R = callY Tryd.prog [.cell 4 33] c13 h13 [x0, x1] w R := by kernel_rfl
theorem F13_ok {x0 x1 : Value} {w : World} {R : Value → World → Prop} (h : F13 x0 x1 w R) : Cv Tryd.prog 13 #[x0, x1] w R :=
  callY_sound (args := [x0, x1]) (c := c13) (h := h13) Tryd.func13 (by kernel_rfl) (Nat.le_of_ble_eq_true (by kernel_rfl)) (by kernel_rfl) (by kernel_rfl) (by kernel_rfl) ((F13_eq x0 x1 w R).mp h)

/- function 15: gnomon/text.Places -/
def F15 (x0 : Value) (w : World) (R : Value → World → Prop) : Prop :=
  opK Tryd.prog (xV (Instr.box 9 x0)) w fun t1_1 w_2 =>
  opK Tryd.prog (xV (Instr.makeFunc (.func 22) #[] #[t1_1])) w_2 fun t3_3 w_4 =>
  R t3_3 w_4
noncomputable def c15 : Code := Tryd.f15.body.getD .skip
def h15 : Hint := (.seq .none (.seq .none .none))
set_option maxRecDepth 100000 in
theorem F15_eq (x0 : Value) (w : World) (R : Value → World → Prop) : F15 x0 w R = callX Tryd.prog [.tmp 2] c15 h15 [x0] w R := by kernel_rfl
theorem F15_ok {x0 : Value} {w : World} {R : Value → World → Prop} (h : F15 x0 w R) : Cv Tryd.prog 15 #[x0] w R :=
  callX_sound (args := [x0]) (c := c15) (h := h15) Tryd.func15 (by kernel_rfl) (Nat.le_of_ble_eq_true (by kernel_rfl)) (by kernel_rfl) (by kernel_rfl) (by kernel_rfl) ((F15_eq x0 w R).mp h)

/- function 22: gnomon/text.Places$1 -/
def F22_l1 (x0 x3 x8 : Value) (w : World) (next1 : List Value → World → Prop) (R : Value → World → Prop) : Prop :=
  opK Tryd.prog (xV (Instr.next x8 true 0)) w fun t9_14 w_15 =>
  opK Tryd.prog (xV (Instr.extract t9_14 0)) w_15 fun t10_16 w_17 =>
  xcond t10_16
  (opK Tryd.prog (xV (Instr.extract t9_14 2)) w_17 fun t11_19 w_20 =>
  opK Tryd.prog (xV (Instr.loadAt 33 x3)) w_20 fun t13_22 w_23 =>
  opY Tryd.prog (xCall x0 [t13_22, t11_19]) w_23 fun t15_24 w_25 =>
  opK Tryd.prog (xV (Op.unary .not t15_24)) w_25 fun t16_26 w_27 =>
  xcond t16_26
  (R (Value.tuple #[]) w_27)
  (opK Tryd.prog (xV (Instr.loadAt 33 x3)) w_27 fun t17_29 w_30 =>
  opK Tryd.prog (xCall (Value.func (.func 23) #[] #[]) [t17_29, t11_19]) w_30 fun t19_31 w_32 =>
  opK Tryd.prog (xU (Instr.storeAt 33 x3 t19_31)) w_32 fun _z_33 w_34 =>
  (([] : List Nat) = [] ∧ next1 [] w_34)))
  (R (Value.tuple #[]) w_17)
def F22 (x0 x1 : Value) (w : World) (R : Value → World → Prop) : Prop :=
  opK Tryd.prog (xCall (Value.func (.func 20) #[] #[]) []) w fun t6_2 w_3 =>
  opK Tryd.prog (xV (Instr.alloc 33 true (.tuple #[]))) w_3 fun t3_4 w_5 =>
  opK Tryd.prog (xU (Instr.storeAt 33 t3_4 t6_2)) w_5 fun _z_6 w_7 =>
  opK Tryd.prog (xV (Instr.loadAt 9 x1)) w_7 fun t7_9 w_10 =>
  opK Tryd.prog (xV (Instr.range 9 t7_9)) w_10 fun t8_11 w_12 =>
  xloop [] [] w_12 fun _ w_36 next1 =>
  F22_l1 x0 t3_4 t8_11 w_36 next1 R
noncomputable def c22 : Code := Tryd.f22.body.getD .skip
def h22 : HintY := (.seq .none (.seq .none (.block (.loop [] (.seq .none (.seq (.cond .none .none) (.block (.seq .none (.seq (.seq .none (.cond .none .none)) .none)))))))))
set_option maxRecDepth 100000 in
theorem F22_eq (x0 x1 : Value) (w : World) (R : Value → World → Prop) : F22 x0 x1 w R = callY Tryd.prog [] c22 h22 [x0, x1] w R := by kernel_rfl
theorem F22_ok {x0 x1 : Value} {w : World} {R : Value → World → Prop} (h : F22 x0 x1 w R) : Cv Tryd.prog 22 #[x0, x1] w R :=
  callY_sound (args := [x0, x1]) (c := c22) (h := h22) Tryd.func22 (by kernel_rfl) (Nat.le_of_ble_eq_true (by kernel_rfl)) (by kernel_rfl) (by kernel_rfl) (by kernel_rfl) ((F22_eq x0 x1 w R).mp h)

/- function 7: gnomon/gnomonlaw1.TextPlaces -/
def F7_b2 (x3 x6 x9 : Value) (ds : List Nat) (w : World) (R : Value → World → Prop) : Prop :=
  opK Tryd.prog (xV (Instr.loadAt 3 x9)) w fun t65_56 w_57 =>
  opK Tryd.prog (xV (Instr.loadAt 9 x3)) w_57 fun t66_58 w_59 =>
  opK Tryd.prog (xBuiltin .len #[9] 3 [false] [t66_58]) w_59 fun t67_60 w_61 =>
  opK Tryd.prog (xBin .eql 3 (.tmp 65) (.tmp 67) t65_56 t67_60) w_61 fun t68_62 w_63 =>
  opK Tryd.prog (xU (Instr.storeAt 4 x6 t68_62)) w_63 fun _z_64 w_65 =>
  closeM ds w_65 fun w_66 => xcell Tryd.prog 4 x6 w_66 fun r_67 =>
  R r_67 w_66
def F7_b1 (x3 x6 x7 : Value) (ds : List Nat) (w : World) (R : Value → World → Prop) : Prop :=
  opK Tryd.prog (xV (Instr.alloc 3 true (.tuple #[]))) w fun t9_50 w_51 =>
  opK Tryd.prog (xU (Instr.storeAt 3 t9_50 (Value.int .i64 0))) w_51 fun _z_52 w_53 =>
  xrange Tryd.prog x7 2 w_53 (fun rec_68 ar_69 W_70 E_71 =>
  opK Tryd.prog (xV (Instr.alloc 33 true (.tuple #[]))) W_70 fun t10_73 w_74 =>
  opK Tryd.prog (xU (Instr.storeAt 33 t10_73 (nth ar_69 0))) w_74 fun _z_75 w_76 =>
  beginY (w_53.heap.size + 1) rec_68 w_76 fun w_78 =>
  opK Tryd.prog (xV (Instr.loadAt 3 t9_50)) w_78 fun t40_80 w_81 =>
  opK Tryd.prog (xV (Instr.loadAt 9 x3)) w_81 fun t41_82 w_83 =>
  opK Tryd.prog (xBuiltin .len #[9] 3 [false] [t41_82]) w_83 fun t42_84 w_85 =>
  opK Tryd.prog (xBin .geq 3 (.tmp 40) (.tmp 42) t40_80 t42_84) w_85 fun t43_86 w_87 =>
  xcond t43_86
  (opK Tryd.prog (xU (Instr.storeAt 4 x6 (Value.bool false))) w_87 fun _z_89 w_90 =>
  E_71 .ret w_90)
  (opK Tryd.prog (xV (Instr.loadAt 9 x3)) w_87 fun t45_92 w_93 =>
  opK Tryd.prog (xV (Instr.loadAt 3 t9_50)) w_93 fun t46_94 w_95 =>
  opK Tryd.prog (xCall (Value.func (.func 16) #[] #[]) [t45_92, t46_94]) w_95 fun t47_96 w_97 =>
  opK Tryd.prog (xV (Instr.extract t47_96 0)) w_97 fun t48_98 w_99 =>
  opK Tryd.prog (xV (Instr.extract t47_96 1)) w_99 fun t49_100 w_101 =>
  opK Tryd.prog (xV (Instr.extract t47_96 2)) w_101 fun _t50_102 w_103 =>
  qK Tryd.prog w_103 (xV (convert 21 3 (nth ar_69 1))) fun t52_104 =>
  qK Tryd.prog w_103 (xBin .neq 3 (.tmp 52) (.tmp 53) t52_104 t48_98) fun t54_105 =>
  qK Tryd.prog w_103 (gsem (asB t54_105) false (xV (Instr.loadAt 33 t10_73))) fun t56_106 =>
  qK Tryd.prog w_103 (gsem (asB t54_105) false (xV (Instr.loadAt 9 x3))) fun t57_107 =>
  qK Tryd.prog w_103 (gsem (asB t54_105) false (xV (Instr.loadAt 3 t9_50))) fun t58_108 =>
  qK Tryd.prog w_103 (gsem (asB t54_105) false (xCall (Value.func (.func 14) #[] #[]) [t57_107, t58_108])) fun t59_109 =>
  qK Tryd.prog w_103 (gsem (asB t54_105) false (xBin .neq 33 (.tmp 56) (.tmp 59) t56_106 t59_109)) fun t60_110 =>
  qK Tryd.prog w_103 (xPick t54_105 (Value.bool true) t60_110) fun t61_111 =>
  ∀ w_112 : World, Ext w_103 w_112 → (xcond t61_111
  (opK Tryd.prog (xU (Instr.storeAt 4 x6 (Value.bool false))) w_112 fun _z_114 w_115 =>
  E_71 .ret w_115)
  (opK Tryd.prog (xV (Instr.loadAt 3 t9_50)) w_112 fun t62_117 w_118 =>
  opK Tryd.prog (xBin .add 3 (.tmp 62) (.tmp 63) t62_117 t49_100) w_118 fun t64_119 w_120 =>
  opK Tryd.prog (xU (Instr.storeAt 3 t9_50 t64_119)) w_120 fun _z_121 w_122 =>
  E_71 .normal w_122))))
  (fun W_123 => F7_b2 x3 x6 t9_50 (w_53.heap.size :: ds) W_123 R) (fun W_124 => closeM (w_53.heap.size :: ds) W_124 fun w_127 => xcell Tryd.prog 4 x6 w_127 fun r_128 =>
  R r_128 w_127) (fun id_126 W_125 => (bif Nat.beq id_126 2 then F7_b2 x3 x6 t9_50 (w_53.heap.size :: ds) W_125 R else False))
def F7 (x0 x1 x2 : Value) (w : World) (R : Value → World → Prop) : Prop :=
  opK Tryd.prog (xV (Instr.box 9 x0)) w fun t3_2 w_3 =>
  opK Tryd.prog (xV (Instr.box 3 x2)) w_3 fun t5_4 w_5 =>
  opK Tryd.prog (xV (Instr.alloc 4 true (.tuple #[]))) w_5 fun t6_6 w_7 =>
  opK Tryd.prog (xCall (Value.func (.func 8) #[] #[]) []) w_7 fun t15_9 w_10 =>
  opK Tryd.prog (xV (Op.unary .not t15_9)) w_10 fun t16_11 w_12 =>
  xcond t16_11
  (opK Tryd.prog (xU (Instr.storeAt 4 t6_6 (Value.bool false))) w_12 fun _z_14 w_15 =>
  xcell Tryd.prog 4 t6_6 w_15 fun r_16 =>
  R r_16 w_15)
  (opK Tryd.prog (xV (Instr.loadAt 9 t3_2)) w_12 fun t17_18 w_19 =>
  opK Tryd.prog (xBuiltin .len #[9] 3 [false] [t17_18]) w_19 fun t18_20 w_21 =>
  opK Tryd.prog (xBin .gtr 3 (.tmp 18) (.const (Value.int .i64 3000)) t18_20 (Value.int .i64 3000)) w_21 fun t19_22 w_23 =>
  xcond t19_22
  (opK Tryd.prog (xU (Instr.storeAt 4 t6_6 (Value.bool true))) w_23 fun _z_25 w_26 =>
  xcell Tryd.prog 4 t6_6 w_26 fun r_27 =>
  R r_27 w_26)
  (qK Tryd.prog w_23 (xV (Instr.loadAt 9 t3_2)) fun t20_28 =>
  qK Tryd.prog w_23 (xCall (Value.func (.func 13) #[] #[]) [t20_28, x1]) fun t22_29 =>
  qK Tryd.prog w_23 (xV (Instr.loadAt 9 t3_2)) fun t23_30 =>
  qK Tryd.prog w_23 (xCall (Value.func (.func 14) #[] #[]) [t23_30, x1]) fun t25_31 =>
  qK Tryd.prog w_23 (xBin .neq 33 (.tmp 22) (.tmp 25) t22_29 t25_31) fun t26_32 =>
  ∀ w_33 : World, Ext w_23 w_33 → (xcond t26_32
  (opK Tryd.prog (xU (Instr.storeAt 4 t6_6 (Value.bool false))) w_33 fun _z_35 w_36 =>
  xcell Tryd.prog 4 t6_6 w_36 fun r_37 =>
  R r_37 w_36)
  (opK Tryd.prog (xV (Instr.loadAt 9 t3_2)) w_33 fun t27_39 w_40 =>
  opK Tryd.prog (xCall (Value.func (.func 15) #[] #[]) [t27_39]) w_40 fun t28_41 w_42 =>
  opK Tryd.prog (xV (Instr.alloc 3 true (.tuple #[]))) w_42 fun t8_44 w_45 =>
  opK Tryd.prog (xU (Instr.storeAt 3 t8_44 (Value.int .i64 0))) w_45 fun _z_46 w_47 =>
  xrange Tryd.prog t28_41 2 w_47 (fun rec_129 _ar_130 W_131 E_132 =>
  beginY (w_47.heap.size + 1) rec_129 W_131 fun w_133 =>
  opK Tryd.prog (xV (Instr.loadAt 3 t8_44)) w_133 fun t32_135 w_136 =>
  opK Tryd.prog (xV (Instr.loadAt 3 t5_4)) w_136 fun t33_137 w_138 =>
  opK Tryd.prog (xBin .eql 3 (.tmp 32) (.tmp 33) t32_135 t33_137) w_138 fun t34_139 w_140 =>
  xcond t34_139
  (E_132 (.exit 0) w_140)
  (opK Tryd.prog (xV (Instr.loadAt 3 t8_44)) w_140 fun t35_142 w_143 =>
  opK Tryd.prog (xBin .add 3 (.tmp 35) (.const (Value.int .i64 1)) t35_142 (Value.int .i64 1)) w_143 fun t36_144 w_145 =>
  opK Tryd.prog (xU (Instr.storeAt 3 t8_44 t36_144)) w_145 fun _z_146 w_147 =>
  E_132 .normal w_147))
  (fun W_148 => F7_b1 t3_2 t6_6 t28_41 (w_47.heap.size :: []) W_148 R) (fun W_149 => closeM (w_47.heap.size :: []) W_149 fun w_152 => xcell Tryd.prog 4 t6_6 w_152 fun r_153 =>
  R r_153 w_152) (fun id_151 W_150 => (bif Nat.beq id_151 0 then F7_b1 t3_2 t6_6 t28_41 (w_47.heap.size :: []) W_150 R else False))))))
noncomputable def c7 : Code := Tryd.f7.body.getD .skip
def h7 : HintY := (.seq .none (.seq (.seq .none (.cond (.seq .none .none) .none)) (.seq (.seq .none (.cond (.seq .none .none) .none)) (.seq (.seq .none (.cond (.seq .none .none) .none)) (.seq .none (.seq .none (.seq (.seq .none (.block (.range .none (.block (.seq (.seq .none (.cond .none .none)) .none))))) (.seq .none (.seq (.seq .none (.block (.range (.seq .none .none) (.block (.seq (.seq .none (.cond (.seq .none .none) .none)) (.seq .none (.seq (.seq .none (.cond (.seq .none .none) .none)) .none))))))) (.seq .none .none))))))))))
set_option maxRecDepth 100000 in
theorem F7_eq (x0 x1 x2 : Value) (w : World) (R : Value → World → Prop) : F7 x0 x1 x2 w R = callY Tryd.prog [.cell 6 4] c7 h7 [x0, x1, x2] w R := by kernel_rfl
theorem F7_ok {x0 x1 x2 : Value} {w : World} {R : Value → World → Prop} (h : F7 x0 x1 x2 w R) : Cv Tryd.prog 7 #[x0, x1, x2] w R :=
  callY_sound (args := [x0, x1, x2]) (c := c7) (h := h7) Tryd.func7 (by kernel_rfl) (Nat.le_of_ble_eq_true (by kernel_rfl)) (by kernel_rfl) (by kernel_rfl) (by kernel_rfl) ((F7_eq x0 x1 x2 w R).mp h)

end Go.Proofs.YtpdeflgmldomeaaDoor
