/-
  The second reading of some of the program's functions, printed by gen.py off the code; each is held against the code by the kernel.
-/
import Derived.Test.YtpdeflgmldomeaaDoorProg
import Derived.Test.YtpdeflgmldomeaaDoorE0
import Derived.KernelRfl
namespace Go.Proofs.YtpdeflgmldomeaaDoor
open Go.RowKit

/- function 9: gnomon/text.Check -/
def F9_j1 (w : World) (R : Value → World → Prop) : Prop :=
  ∀ _τ : Fr, (R (Value.tuple #[(Value.int .i64 0), (Value.int .i64 0)]) w)
def F9_l2 (x0 x12 : Value) (w : World) (next2 : List Value → World → Prop) (j1 : List Value → World → Prop) (R : Value → World → Prop) : Prop :=
  opK Tryd.prog (xV (Instr.next x12 true 0)) w fun t13_9 w_10 =>
  opK Tryd.prog (xV (Instr.extract t13_9 0)) w_10 fun t14_11 w_12 =>
  xcond t14_11
  (opK Tryd.prog (xV (Instr.extract t13_9 1)) w_12 fun t15_13 w_14 =>
  opK Tryd.prog (xV (Instr.extract t13_9 2)) w_14 fun t16_15 w_16 =>
  opK Tryd.prog (xBin .neq 21 (.tmp 17) (.const (Value.int .i32 65533)) t16_15 (Value.int .i32 65533)) w_16 fun t18_17 w_18 =>
  xcond t18_17
  (next2 [] w_18)
  (opK Tryd.prog (xV (Instr.sliceAt 9 x0 (some t15_13) none none)) w_18 fun t22_19 w_20 =>
  opK Tryd.prog (xCall (Value.func (.func 17) #[] #[]) [t22_19]) w_20 fun t23_21 w_22 =>
  opK Tryd.prog (xV (Instr.extract t23_21 0)) w_22 fun _t24_23 w_24 =>
  opK Tryd.prog (xV (Instr.extract t23_21 1)) w_24 fun t25_25 w_26 =>
  opK Tryd.prog (xBin .eql 3 (.tmp 26) (.const (Value.int .i64 1)) t25_25 (Value.int .i64 1)) w_26 fun t27_27 w_28 =>
  xcond t27_27
  (R (Value.tuple #[t15_13, (Value.int .i64 11)]) w_28)
  (next2 [] w_28)))
  (j1 [] w_12)
def F9 (x0 : Value) (w : World) (R : Value → World → Prop) : Prop :=
  opK Tryd.prog (xBuiltin .len #[9] 3 [false] [x0]) w fun t9_1 w_2 =>
  opK Tryd.prog (xBin .gtr 3 (.tmp 9) (.const (Value.int .i64 65536)) t9_1 (Value.int .i64 65536)) w_2 fun t10_3 w_4 =>
  xcond t10_3
  (R (Value.tuple #[(Value.int .i64 0), (Value.int .i64 10)]) w_4)
  (xcut (fun _ w_6 => F9_j1 w_6 R) fun j1 =>
  opK Tryd.prog (xV (Instr.range 9 x0)) w_4 fun t12_7 w_8 =>
  xloop [] [] w_8 fun _ w_30 next2 =>
  F9_l2 x0 t12_7 w_30 next2 j1 R)
noncomputable def c9 : Code := Tryd.f9.body.getD .skip
def h9 : Hint := (.seq .none (.seq (.seq .none (.cond (.seq .none .none) .none)) (.cut [] (.seq .none (.block (.loop [] (.seq .none (.seq (.cond .none .none) (.block (.seq .none (.seq (.seq .none (.cond .none .none)) (.seq .none (.seq .none (.cond (.seq .none .none) .none))))))))))) (.seq .none .none))))
set_option maxRecDepth 100000 in
theorem F9_eq (x0 : Value) (w : World) (R : Value → World → Prop) : F9 x0 w R = callX Tryd.prog [.tmp 2, .tmp 3] c9 h9 [x0] w R := by kernel_rfl
theorem F9_ok {x0 : Value} {w : World} {R : Value → World → Prop} (h : F9 x0 w R) : Cv Tryd.prog 9 #[x0] w R :=
  callX_sound (args := [x0]) (c := c9) (h := h9) Tryd.func9 (by kernel_rfl) (Nat.le_of_ble_eq_true (by kernel_rfl)) (by kernel_rfl) (by kernel_rfl) (by kernel_rfl) ((F9_eq x0 w R).mp h)

/- function 10: gnomon/gnomonref1.Check -/
def F10_j1 (w : World) (R : Value → World → Prop) : Prop :=
  ∀ _τ : Fr, (R (Value.tuple #[(Value.int .i64 0), (Value.int .i64 0)]) w)
def F10_l2 (x0 x4 : Value) (w : World) (next2 : List Value → World → Prop) (j1 : List Value → World → Prop) (R : Value → World → Prop) : Prop :=
  opK Tryd.prog (xBuiltin .len #[9] 3 [false] [x0]) w fun t13_7 w_8 =>
  opK Tryd.prog (xBin .lss 3 (.tmp 11) (.tmp 13) x4 t13_7) w_8 fun t14_9 w_10 =>
  xcond t14_9
  (opK Tryd.prog (xCall (Value.func (.func 16) #[] #[]) [x0, x4]) w_10 fun t18_11 w_12 =>
  opK Tryd.prog (xV (Instr.extract t18_11 0)) w_12 fun _t19_13 w_14 =>
  opK Tryd.prog (xV (Instr.extract t18_11 1)) w_14 fun t20_15 w_16 =>
  opK Tryd.prog (xV (Instr.extract t18_11 2)) w_16 fun t21_17 w_18 =>
  opK Tryd.prog (xV (Op.unary .not t21_17)) w_18 fun t23_19 w_20 =>
  xcond t23_19
  (R (Value.tuple #[x4, (Value.int .i64 11)]) w_20)
  (opK Tryd.prog (xBin .add 3 (.tmp 25) (.tmp 26) x4 t20_15) w_20 fun t27_21 w_22 =>
  next2 [t27_21] w_22))
  (j1 [] w_10)
def F10 (x0 : Value) (w : World) (R : Value → World → Prop) : Prop :=
  opK Tryd.prog (xBuiltin .len #[9] 3 [false] [x0]) w fun t9_1 w_2 =>
  opK Tryd.prog (xBin .gtr 3 (.tmp 9) (.const (Value.int .i64 65536)) t9_1 (Value.int .i64 65536)) w_2 fun t10_3 w_4 =>
  xcond t10_3
  (R (Value.tuple #[(Value.int .i64 0), (Value.int .i64 10)]) w_4)
  (xcut (fun _ w_6 => F10_j1 w_6 R) fun j1 =>
  xloop [4] [(Value.int .i64 0)] w_4 fun τ_23 w_24 next2 =>
  F10_l2 x0 (τ_23 4) w_24 next2 j1 R)
noncomputable def c10 : Code := Tryd.f10.body.getD .skip
def h10 : Hint := (.seq .none (.seq (.seq .none (.cond (.seq .none .none) .none)) (.cut [] (.seq .none (.block (.loop [4] (.seq (.seq .none (.cond .none .none)) (.block (.seq .none (.seq (.seq .none (.cond (.seq .none .none) .none)) .none))))))) (.seq .none .none))))
set_option maxRecDepth 100000 in
theorem F10_eq (x0 : Value) (w : World) (R : Value → World → Prop) : F10 x0 w R = callX Tryd.prog [.tmp 2, .tmp 3] c10 h10 [x0] w R := by kernel_rfl
theorem F10_ok {x0 : Value} {w : World} {R : Value → World → Prop} (h : F10 x0 w R) : Cv Tryd.prog 10 #[x0] w R :=
  callX_sound (args := [x0]) (c := c10) (h := h10) Tryd.func10 (by kernel_rfl) (Nat.le_of_ble_eq_true (by kernel_rfl)) (by kernel_rfl) (by kernel_rfl) (by kernel_rfl) ((F10_eq x0 w R).mp h)

/- function 11: gnomon/text.Class -/
def F11_j4 (x39 : Value) (w : World) (R : Value → World → Prop) : Prop :=
  ∀ _τ : Fr, (xcond x39
  (R (Value.int .i64 3) w)
  (R (Value.int .i64 6) w))
def F11_j3 (x1 x31 : Value) (w : World) (R : Value → World → Prop) : Prop :=
  ∀ _τ : Fr, (xcond x31
  (R (Value.int .i64 6) w)
  (opK Tryd.prog (xV (Instr.makeFunc (.func 18) #[] #[x1])) w fun t35_7 w_8 =>
  opK Tryd.prog (xCall t35_7 [(Value.int .i32 48), (Value.int .i32 57)]) w_8 fun t38_9 w_10 =>
  xcond t38_9
  (R (Value.int .i64 4) w_10)
  (xcut (fun l_11 w_12 => F11_j4 (nth l_11 0) w_12 R) fun j4 =>
  opK Tryd.prog (xV (Instr.loadAt 21 x1)) w_10 fun t40_13 w_14 =>
  opK Tryd.prog (xBin .eql 21 (.tmp 40) (.const (Value.int .i32 95)) t40_13 (Value.int .i32 95)) w_14 fun t41_15 w_16 =>
  xcond t41_15
  (j4 [t41_15] w_16)
  (opK Tryd.prog (xCall t35_7 [(Value.int .i32 97), (Value.int .i32 122)]) w_16 fun t43_17 w_18 =>
  xcond t43_17
  (j4 [t43_17] w_18)
  (opK Tryd.prog (xCall t35_7 [(Value.int .i32 65), (Value.int .i32 90)]) w_18 fun t45_19 w_20 =>
  xcond t45_19
  (j4 [t45_19] w_20)
  (opK Tryd.prog (xCall t35_7 [(Value.int .i32 192), (Value.int .i32 591)]) w_20 fun t47_21 w_22 =>
  xcond t47_21
  (j4 [t47_21] w_22)
  (opK Tryd.prog (xCall t35_7 [(Value.int .i32 913), (Value.int .i32 969)]) w_22 fun t49_23 w_24 =>
  xcond t49_23
  (j4 [t49_23] w_24)
  (opK Tryd.prog (xCall t35_7 [(Value.int .i32 1040), (Value.int .i32 1103)]) w_24 fun t51_25 w_26 =>
  j4 [t51_25] w_26))))))))
def F11_j2 (x1 x4 x11 : Value) (w : World) (R : Value → World → Prop) : Prop :=
  ∀ _τ : Fr, (xcond x11
  (R (Value.int .i64 5) w)
  (xcut (fun l_27 w_28 => F11_j3 x1 (nth l_27 0) w_28 R) fun j3 =>
  opK Tryd.prog (xBin .eql 21 (.tmp 4) (.const (Value.int .i32 215)) x4 (Value.int .i32 215)) w fun t32_29 w_30 =>
  xcond t32_29
  (j3 [t32_29] w_30)
  (opK Tryd.prog (xBin .eql 21 (.tmp 4) (.const (Value.int .i32 247)) x4 (Value.int .i32 247)) w_30 fun t33_31 w_32 =>
  xcond t33_31
  (j3 [t33_31] w_32)
  (opK Tryd.prog (xBin .eql 21 (.tmp 4) (.const (Value.int .i32 930)) x4 (Value.int .i32 930)) w_32 fun t34_33 w_34 =>
  j3 [t34_33] w_34))))
def F11_j1 (x1 x4 x5 : Value) (w : World) (R : Value → World → Prop) : Prop :=
  ∀ _τ : Fr, (xcond x5
  (R (Value.int .i64 1) w)
  (opK Tryd.prog (xBin .eql 21 (.tmp 4) (.const (Value.int .i32 10)) x4 (Value.int .i32 10)) w fun t10_5 w_6 =>
  xcond t10_5
  (R (Value.int .i64 2) w_6)
  (xcut (fun l_35 w_36 => F11_j2 x1 x4 (nth l_35 0) w_36 R) fun j2 =>
  opK Tryd.prog (xBin .eql 21 (.tmp 4) (.const (Value.int .i32 59)) x4 (Value.int .i32 59)) w_6 fun t12_37 w_38 =>
  xcond t12_37
  (j2 [t12_37] w_38)
  (opK Tryd.prog (xBin .eql 21 (.tmp 4) (.const (Value.int .i32 44)) x4 (Value.int .i32 44)) w_38 fun t13_39 w_40 =>
  xcond t13_39
  (j2 [t13_39] w_40)
  (opK Tryd.prog (xBin .eql 21 (.tmp 4) (.const (Value.int .i32 123)) x4 (Value.int .i32 123)) w_40 fun t14_41 w_42 =>
  xcond t14_41
  (j2 [t14_41] w_42)
  (opK Tryd.prog (xBin .eql 21 (.tmp 4) (.const (Value.int .i32 125)) x4 (Value.int .i32 125)) w_42 fun t15_43 w_44 =>
  xcond t15_43
  (j2 [t15_43] w_44)
  (opK Tryd.prog (xBin .eql 21 (.tmp 4) (.const (Value.int .i32 40)) x4 (Value.int .i32 40)) w_44 fun t16_45 w_46 =>
  xcond t16_45
  (j2 [t16_45] w_46)
  (opK Tryd.prog (xBin .eql 21 (.tmp 4) (.const (Value.int .i32 41)) x4 (Value.int .i32 41)) w_46 fun t17_47 w_48 =>
  xcond t17_47
  (j2 [t17_47] w_48)
  (opK Tryd.prog (xBin .eql 21 (.tmp 4) (.const (Value.int .i32 91)) x4 (Value.int .i32 91)) w_48 fun t18_49 w_50 =>
  xcond t18_49
  (j2 [t18_49] w_50)
  (opK Tryd.prog (xBin .eql 21 (.tmp 4) (.const (Value.int .i32 93)) x4 (Value.int .i32 93)) w_50 fun t19_51 w_52 =>
  xcond t19_51
  (j2 [t19_51] w_52)
  (opK Tryd.prog (xBin .eql 21 (.tmp 4) (.const (Value.int .i32 61)) x4 (Value.int .i32 61)) w_52 fun t20_53 w_54 =>
  xcond t20_53
  (j2 [t20_53] w_54)
  (opK Tryd.prog (xBin .eql 21 (.tmp 4) (.const (Value.int .i32 33)) x4 (Value.int .i32 33)) w_54 fun t21_55 w_56 =>
  xcond t21_55
  (j2 [t21_55] w_56)
  (opK Tryd.prog (xBin .eql 21 (.tmp 4) (.const (Value.int .i32 60)) x4 (Value.int .i32 60)) w_56 fun t22_57 w_58 =>
  xcond t22_57
  (j2 [t22_57] w_58)
  (opK Tryd.prog (xBin .eql 21 (.tmp 4) (.const (Value.int .i32 62)) x4 (Value.int .i32 62)) w_58 fun t23_59 w_60 =>
  xcond t23_59
  (j2 [t23_59] w_60)
  (opK Tryd.prog (xBin .eql 21 (.tmp 4) (.const (Value.int .i32 43)) x4 (Value.int .i32 43)) w_60 fun t24_61 w_62 =>
  xcond t24_61
  (j2 [t24_61] w_62)
  (opK Tryd.prog (xBin .eql 21 (.tmp 4) (.const (Value.int .i32 45)) x4 (Value.int .i32 45)) w_62 fun t25_63 w_64 =>
  xcond t25_63
  (j2 [t25_63] w_64)
  (opK Tryd.prog (xBin .eql 21 (.tmp 4) (.const (Value.int .i32 42)) x4 (Value.int .i32 42)) w_64 fun t26_65 w_66 =>
  xcond t26_65
  (j2 [t26_65] w_66)
  (opK Tryd.prog (xBin .eql 21 (.tmp 4) (.const (Value.int .i32 47)) x4 (Value.int .i32 47)) w_66 fun t27_67 w_68 =>
  xcond t27_67
  (j2 [t27_67] w_68)
  (opK Tryd.prog (xBin .eql 21 (.tmp 4) (.const (Value.int .i32 37)) x4 (Value.int .i32 37)) w_68 fun t28_69 w_70 =>
  xcond t28_69
  (j2 [t28_69] w_70)
  (opK Tryd.prog (xBin .eql 21 (.tmp 4) (.const (Value.int .i32 38)) x4 (Value.int .i32 38)) w_70 fun t29_71 w_72 =>
  xcond t29_71
  (j2 [t29_71] w_72)
  (opK Tryd.prog (xBin .eql 21 (.tmp 4) (.const (Value.int .i32 124)) x4 (Value.int .i32 124)) w_72 fun t30_73 w_74 =>
  j2 [t30_73] w_74)))))))))))))))))))))
def F11 (x0 : Value) (w : World) (R : Value → World → Prop) : Prop :=
  opK Tryd.prog (xV (Instr.box 21 x0)) w fun t1_1 w_2 =>
  opK Tryd.prog (xV (Instr.loadAt 21 t1_1)) w_2 fun t4_3 w_4 =>
  xcut (fun l_75 w_76 => F11_j1 t1_1 t4_3 (nth l_75 0) w_76 R) fun j1 =>
  opK Tryd.prog (xBin .eql 21 (.tmp 4) (.const (Value.int .i32 32)) t4_3 (Value.int .i32 32)) w_4 fun t6_77 w_78 =>
  xcond t6_77
  (j1 [t6_77] w_78)
  (opK Tryd.prog (xBin .eql 21 (.tmp 4) (.const (Value.int .i32 9)) t4_3 (Value.int .i32 9)) w_78 fun t7_79 w_80 =>
  xcond t7_79
  (j1 [t7_79] w_80)
  (opK Tryd.prog (xBin .eql 21 (.tmp 4) (.const (Value.int .i32 13)) t4_3 (Value.int .i32 13)) w_80 fun t8_81 w_82 =>
  j1 [t8_81] w_82))
noncomputable def c11 : Code := Tryd.f11.body.getD .skip
def h11 : Hint := (.seq .none (.seq (.seq .none (.block (.cut [5] (.seq .none (.cond .none (.seq .none (.cond .none .none)))) (.cond (.seq .none .none) (.seq .none (.cond (.seq .none .none) (.cut [11] (.seq .none (.cond .none (.seq .none (.cond .none (.seq .none (.cond .none (.seq .none (.cond .none (.seq .none (.cond .none (.seq .none (.cond .none (.seq .none (.cond .none (.seq .none (.cond .none (.seq .none (.cond .none (.seq .none (.cond .none (.seq .none (.cond .none (.seq .none (.cond .none (.seq .none (.cond .none (.seq .none (.cond .none (.seq .none (.cond .none (.seq .none (.cond .none (.seq .none (.cond .none (.seq .none (.cond .none .none)))))))))))))))))))))))))))))))))))) (.cond (.seq .none .none) (.cut [31] (.seq .none (.cond .none (.seq .none (.cond .none .none)))) (.cond (.seq .none .none) .none)))))))))) (.seq .none (.seq (.block (.seq .none (.cond (.seq .none .none) (.cut [39] (.seq .none (.cond .none (.seq .none (.cond .none (.seq .none (.cond .none (.seq .none (.cond .none (.seq .none (.cond .none .none)))))))))) (.cond (.seq .none .none) .none))))) (.seq .none .none)))))
set_option maxRecDepth 100000 in
theorem F11_eq (x0 : Value) (w : World) (R : Value → World → Prop) : F11 x0 w R = callX Tryd.prog [.tmp 2] c11 h11 [x0] w R := by kernel_rfl
theorem F11_ok {x0 : Value} {w : World} {R : Value → World → Prop} (h : F11 x0 w R) : Cv Tryd.prog 11 #[x0] w R :=
  callX_sound (args := [x0]) (c := c11) (h := h11) Tryd.func11 (by kernel_rfl) (Nat.le_of_ble_eq_true (by kernel_rfl)) (by kernel_rfl) (by kernel_rfl) (by kernel_rfl) ((F11_eq x0 w R).mp h)

/- function 12: gnomon/gnomonref1.Class -/
def F12_j1 (w : World) (R : Value → World → Prop) : Prop :=
  ∀ _τ : Fr, (R (Value.int .i64 6) w)
def F12_l2 (x0 x3 x4 : Value) (w : World) (next2 : List Value → World → Prop) (j1 : List Value → World → Prop) (R : Value → World → Prop) : Prop :=
  opK Tryd.prog (xBuiltin .len #[9] 3 [false] [x3]) w fun t55_51 w_52 =>
  opK Tryd.prog (xBin .lss 3 (.tmp 53) (.tmp 55) x4 t55_51) w_52 fun t56_53 w_54 =>
  xcond t56_53
  (opK Tryd.prog (xV (Instr.index 9 x3 x4)) w_54 fun t62_55 w_56 =>
  opK Tryd.prog (xV (convert 5 3 t62_55)) w_56 fun t63_57 w_58 =>
  opK Tryd.prog (xBin .eql 3 (.tmp 59) (.tmp 63) x0 t63_57) w_58 fun t64_59 w_60 =>
  xcond t64_59
  (R (Value.int .i64 5) w_60)
  (opK Tryd.prog (xBin .add 3 (.tmp 57) (.const (Value.int .i64 1)) x4 (Value.int .i64 1)) w_60 fun t58_61 w_62 =>
  next2 [t58_61] w_62))
  (j1 [] w_54)
def F12 (x0 : Value) (w : World) (R : Value → World → Prop) : Prop :=
  opK Tryd.prog (xBin .eql 3 (.tmp 5) (.const (Value.int .i64 32)) x0 (Value.int .i64 32)) w fun t6_1 w_2 =>
  opK Tryd.prog (gsem (asB t6_1) false (xBin .eql 3 (.tmp 8) (.const (Value.int .i64 9)) (gval (asB t6_1) false x0) (Value.int .i64 9))) w_2 fun t9_3 w_4 =>
  opK Tryd.prog (xPick t6_1 (Value.bool true) t9_3) w_4 fun t10_5 w_6 =>
  opK Tryd.prog (gsem (asB t10_5) false (xBin .eql 3 (.tmp 12) (.const (Value.int .i64 13)) (gval (asB t10_5) false x0) (Value.int .i64 13))) w_6 fun t13_7 w_8 =>
  opK Tryd.prog (xPick t10_5 (Value.bool true) t13_7) w_8 fun t14_9 w_10 =>
  xcond t14_9
  (R (Value.int .i64 1) w_10)
  (opK Tryd.prog (xBin .eql 3 (.tmp 15) (.const (Value.int .i64 10)) x0 (Value.int .i64 10)) w_10 fun t16_11 w_12 =>
  xcond t16_11
  (R (Value.int .i64 2) w_12)
  (opK Tryd.prog (xCall (Value.func (.func 19) #[] #[]) [x0, (Value.int .i64 48), (Value.int .i64 57)]) w_12 fun t18_13 w_14 =>
  xcond t18_13
  (R (Value.int .i64 4) w_14)
  (opK Tryd.prog (xCall (Value.func (.func 19) #[] #[]) [x0, (Value.int .i64 97), (Value.int .i64 122)]) w_14 fun t20_15 w_16 =>
  opK Tryd.prog (gsem (asB t20_15) false (xCall (Value.func (.func 19) #[] #[]) [(gval (asB t20_15) false x0), (Value.int .i64 65), (Value.int .i64 90)])) w_16 fun t23_17 w_18 =>
  opK Tryd.prog (xPick t20_15 (Value.bool true) t23_17) w_18 fun t24_19 w_20 =>
  opK Tryd.prog (gsem (asB t24_19) false (xBin .eql 3 (.tmp 26) (.const (Value.int .i64 95)) (gval (asB t24_19) false x0) (Value.int .i64 95))) w_20 fun t27_21 w_22 =>
  opK Tryd.prog (xPick t24_19 (Value.bool true) t27_21) w_22 fun t28_23 w_24 =>
  opK Tryd.prog (gsem (asB t28_23) false (xCall (Value.func (.func 19) #[] #[]) [(gval (asB t28_23) false x0), (Value.int .i64 192), (Value.int .i64 591)])) w_24 fun t31_25 w_26 =>
  opK Tryd.prog (gsem (asB (gval (asB t28_23) false t31_25)) true (xBin .neq 3 (.tmp 33) (.const (Value.int .i64 215)) (gval (asB (gval (asB t28_23) false t31_25)) true x0) (Value.int .i64 215))) w_26 fun t34_27 w_28 =>
  opK Tryd.prog (gsem (asB t28_23) false (xPick (gval (asB t28_23) false t31_25) t34_27 (Value.bool false))) w_28 fun t35_29 w_30 =>
  opK Tryd.prog (gsem (asB (gval (asB t28_23) false t35_29)) true (xBin .neq 3 (.tmp 37) (.const (Value.int .i64 247)) (gval (asB (gval (asB t28_23) false t35_29)) true x0) (Value.int .i64 247))) w_30 fun t38_31 w_32 =>
  opK Tryd.prog (gsem (asB t28_23) false (xPick (gval (asB t28_23) false t35_29) t38_31 (Value.bool false))) w_32 fun t39_33 w_34 =>
  opK Tryd.prog (xPick t28_23 (Value.bool true) t39_33) w_34 fun t40_35 w_36 =>
  opK Tryd.prog (gsem (asB t40_35) false (xCall (Value.func (.func 19) #[] #[]) [(gval (asB t40_35) false x0), (Value.int .i64 913), (Value.int .i64 969)])) w_36 fun t43_37 w_38 =>
  opK Tryd.prog (gsem (asB (gval (asB t40_35) false t43_37)) true (xBin .neq 3 (.tmp 45) (.const (Value.int .i64 930)) (gval (asB (gval (asB t40_35) false t43_37)) true x0) (Value.int .i64 930))) w_38 fun t46_39 w_40 =>
  opK Tryd.prog (gsem (asB t40_35) false (xPick (gval (asB t40_35) false t43_37) t46_39 (Value.bool false))) w_40 fun t47_41 w_42 =>
  opK Tryd.prog (xPick t40_35 (Value.bool true) t47_41) w_42 fun t48_43 w_44 =>
  opK Tryd.prog (gsem (asB t48_43) false (xCall (Value.func (.func 19) #[] #[]) [(gval (asB t48_43) false x0), (Value.int .i64 1040), (Value.int .i64 1103)])) w_44 fun t51_45 w_46 =>
  opK Tryd.prog (xPick t48_43 (Value.bool true) t51_45) w_46 fun t52_47 w_48 =>
  xcond t52_47
  (R (Value.int .i64 3) w_48)
  (xcut (fun _ w_50 => F12_j1 w_50 R) fun j1 =>
  xloop [4] [(Value.int .i64 0)] w_48 fun τ_63 w_64 next2 =>
  F12_l2 x0 (Value.string ⟨#[59, 44, 123, 125, 40, 41, 91, 93, 61, 33, 60, 62, 43, 45, 42, 47, 37, 38, 124]⟩) (τ_63 4) w_64 next2 j1 R))))
noncomputable def c12 : Code := Tryd.f12.body.getD .skip
def h12 : Hint := (.seq .none (.seq (.seq .none (.cond (.seq .none .none) .none)) (.seq (.seq .none (.cond (.seq .none .none) .none)) (.seq (.seq .none (.cond (.seq .none .none) .none)) (.seq (.seq .none (.cond (.seq .none .none) .none)) (.seq .none (.cut [] (.seq .none (.block (.loop [4] (.seq (.seq .none (.cond .none .none)) (.seq (.block (.seq .none (.cond (.seq .none .none) .none))) .none))))) (.seq .none .none))))))))
set_option maxRecDepth 100000 in
theorem F12_eq (x0 : Value) (w : World) (R : Value → World → Prop) : F12 x0 w R = callX Tryd.prog [.tmp 2] c12 h12 [x0] w R := by kernel_rfl
theorem F12_ok {x0 : Value} {w : World} {R : Value → World → Prop} (h : F12 x0 w R) : Cv Tryd.prog 12 #[x0] w R :=
  callX_sound (args := [x0]) (c := c12) (h := h12) Tryd.func12 (by kernel_rfl) (Nat.le_of_ble_eq_true (by kernel_rfl)) (by kernel_rfl) (by kernel_rfl) (by kernel_rfl) ((F12_eq x0 w R).mp h)

/- function 14: gnomon/gnomonref1.At -/
def F14_j1 (x4 x5 : Value) (w : World) (R : Value → World → Prop) : Prop :=
  ∀ _τ : Fr, (opK Tryd.prog (xV (Instr.loadAt 33 x5)) w fun t41_9 w_10 =>
  opK Tryd.prog (xU (Instr.storeAt 33 x4 t41_9)) w_10 fun _z_11 w_12 =>
  xcell Tryd.prog 33 x4 w_12 fun r_13 =>
  R r_13 w_12)
def F14_j3 (_x0 _x1 _x4 _x5 x6 x8 : Value) (w : World) (next2 : List Value → World → Prop) (_R : Value → World → Prop) : Prop :=
  ∀ _τ : Fr, (opK Tryd.prog (xBin .add 3 (.tmp 38) (.tmp 39) x6 x8) w fun t40_42 w_43 =>
  next2 [t40_42] w_43)
def F14_l2 (x0 x1 x4 x5 x6 : Value) (w : World) (next2 : List Value → World → Prop) (j1 : List Value → World → Prop) (R : Value → World → Prop) : Prop :=
  opK Tryd.prog (xBuiltin .len #[9] 3 [false] [x0]) w fun t13_16 w_17 =>
  opK Tryd.prog (xBin .lss 3 (.tmp 11) (.tmp 13) x6 t13_16) w_17 fun t14_18 w_19 =>
  opK Tryd.prog (gsem (asB t14_18) true (xBin .lss 3 (.tmp 16) (.tmp 17) (gval (asB t14_18) true x6) (gval (asB t14_18) true x1))) w_19 fun t18_20 w_21 =>
  opK Tryd.prog (xPick t14_18 t18_20 (Value.bool false)) w_21 fun t19_22 w_23 =>
  xcond t19_22
  (opK Tryd.prog (xCall (Value.func (.func 16) #[] #[]) [x0, x6]) w_23 fun t23_24 w_25 =>
  opK Tryd.prog (xV (Instr.extract t23_24 0)) w_25 fun t24_26 w_27 =>
  opK Tryd.prog (xV (Instr.extract t23_24 1)) w_27 fun t25_28 w_29 =>
  opK Tryd.prog (xV (Instr.extract t23_24 2)) w_29 fun _t26_30 w_31 =>
  opK Tryd.prog (xV (Instr.fieldAt 33 x5 1)) w_31 fun t27_32 w_33 =>
  opK Tryd.prog (xV (Instr.loadAt 3 t27_32)) w_33 fun t28_34 w_35 =>
  opK Tryd.prog (xBin .add 3 (.tmp 28) (.const (Value.int .i64 1)) t28_34 (Value.int .i64 1)) w_35 fun t29_36 w_37 =>
  opK Tryd.prog (xV (Instr.fieldAt 33 x5 1)) w_37 fun t30_38 w_39 =>
  opK Tryd.prog (xU (Instr.storeAt 3 t30_38 t29_36)) w_39 fun _z_40 w_41 =>
  xcut (fun _ w_45 => F14_j3 x0 x1 x4 x5 x6 t25_28 w_45 next2 R) fun j3 =>
  opK Tryd.prog (xBin .eql 3 (.tmp 31) (.const (Value.int .i64 10)) t24_26 (Value.int .i64 10)) w_41 fun t32_46 w_47 =>
  xcond t32_46
  (opK Tryd.prog (xV (Instr.fieldAt 33 x5 0)) w_47 fun t33_48 w_49 =>
  opK Tryd.prog (xV (Instr.loadAt 3 t33_48)) w_49 fun t34_50 w_51 =>
  opK Tryd.prog (xBin .add 3 (.tmp 34) (.const (Value.int .i64 1)) t34_50 (Value.int .i64 1)) w_51 fun t35_52 w_53 =>
  opK Tryd.prog (xV (Instr.fieldAt 33 x5 0)) w_53 fun t36_54 w_55 =>
  opK Tryd.prog (xU (Instr.storeAt 3 t36_54 t35_52)) w_55 fun _z_56 w_57 =>
  opK Tryd.prog (xV (Instr.fieldAt 33 x5 1)) w_57 fun t37_58 w_59 =>
  opK Tryd.prog (xU (Instr.storeAt 3 t37_58 (Value.int .i64 1))) w_59 fun _z_60 w_61 =>
  j3 [] w_61)
  (j3 [] w_47))
  (j1 [] w_23)
def F14 (x0 x1 : Value) (w : World) (R : Value → World → Prop) : Prop :=
  opK Tryd.prog (xV (Instr.alloc 33 true (.tuple #[]))) w fun t4_1 w_2 =>
  opK Tryd.prog (xV (Instr.build 33 #[(0, (Value.int .i64 1)), (1, (Value.int .i64 1))])) w_2 fun t10_3 w_4 =>
  opK Tryd.prog (xV (Instr.alloc 33 true (.tuple #[]))) w_4 fun t5_5 w_6 =>
  opK Tryd.prog (xU (Instr.storeAt 33 t5_5 t10_3)) w_6 fun _z_7 w_8 =>
  xcut (fun _ w_15 => F14_j1 t4_1 t5_5 w_15 R) fun j1 =>
  xloop [6] [(Value.int .i64 0)] w_8 fun τ_62 w_63 next2 =>
  F14_l2 x0 x1 t4_1 t5_5 (τ_62 6) w_63 next2 j1 R
noncomputable def c14 : Code := Tryd.f14.body.getD .skip
def h14 : Hint := (.seq .none (.seq .none (.cut [] (.seq .none (.block (.loop [6] (.seq (.seq .none (.cond .none .none)) (.block (.seq .none (.seq .none (.cut [] (.seq .none (.cond (.seq .none .none) .none)) .none)))))))) (.seq .none .none))))
set_option maxRecDepth 100000 in
theorem F14_eq (x0 x1 : Value) (w : World) (R : Value → World → Prop) : F14 x0 x1 w R = callX Tryd.prog [.cell 4 33] c14 h14 [x0, x1] w R := by kernel_rfl
theorem F14_ok {x0 x1 : Value} {w : World} {R : Value → World → Prop} (h : F14 x0 x1 w R) : Cv Tryd.prog 14 #[x0, x1] w R :=
  callX_sound (args := [x0, x1]) (c := c14) (h := h14) Tryd.func14 (by kernel_rfl) (Nat.le_of_ble_eq_true (by kernel_rfl)) (by kernel_rfl) (by kernel_rfl) (by kernel_rfl) ((F14_eq x0 x1 w R).mp h)

/- function 16: gnomon/gnomonref1.Rune -/
def F16_j2 (x8 x9 x10 : Value) (w : World) (R : Value → World → Prop) : Prop :=
  ∀ _τ : Fr, (opK Tryd.prog (xBin .lss 3 (.tmp 84) (.tmp 85) x10 x9) w fun t86_5 w_6 =>
  opK Tryd.prog (gsem (asB t86_5) false (xBin .gtr 3 (.tmp 88) (.const (Value.int .i64 1114111)) (gval (asB t86_5) false x10) (Value.int .i64 1114111))) w_6 fun t89_7 w_8 =>
  opK Tryd.prog (xPick t86_5 (Value.bool true) t89_7) w_8 fun t90_9 w_10 =>
  opK Tryd.prog (gsem (asB t90_9) false (xBin .geq 3 (.tmp 92) (.const (Value.int .i64 55296)) (gval (asB t90_9) false x10) (Value.int .i64 55296))) w_10 fun t93_11 w_12 =>
  opK Tryd.prog (gsem (asB (gval (asB t90_9) false t93_11)) true (xBin .lss 3 (.tmp 95) (.const (Value.int .i64 57344)) (gval (asB (gval (asB t90_9) false t93_11)) true x10) (Value.int .i64 57344))) w_12 fun t96_13 w_14 =>
  opK Tryd.prog (gsem (asB t90_9) false (xPick (gval (asB t90_9) false t93_11) t96_13 (Value.bool false))) w_14 fun t97_15 w_16 =>
  opK Tryd.prog (xPick t90_9 (Value.bool true) t97_15) w_16 fun t98_17 w_18 =>
  xcond t98_17
  (R (Value.tuple #[(Value.int .i64 65533), (Value.int .i64 1), (Value.bool false)]) w_18)
  (R (Value.tuple #[x10, x8, (Value.bool true)]) w_18))
def F16_l3 (x0 x1 x8 _x9 x10 x11 : Value) (w : World) (next3 : List Value → World → Prop) (j2 : List Value → World → Prop) (R : Value → World → Prop) : Prop :=
  opK Tryd.prog (xBin .lss 3 (.tmp 47) (.tmp 48) x11 x8) w fun t49_21 w_22 =>
  xcond t49_21
  (opK Tryd.prog (xBin .add 3 (.tmp 52) (.tmp 53) x1 x11) w_22 fun t54_23 w_24 =>
  opK Tryd.prog (xBuiltin .len #[9] 3 [false] [x0]) w_24 fun t56_25 w_26 =>
  opK Tryd.prog (xBin .geq 3 (.tmp 54) (.tmp 56) t54_23 t56_25) w_26 fun t57_27 w_28 =>
  opK Tryd.prog (gsem (asB t57_27) false (xBin .add 3 (.tmp 60) (.tmp 61) (gval (asB t57_27) false x1) (gval (asB t57_27) false x11))) w_28 fun t62_29 w_30 =>
  opK Tryd.prog (gsem (asB t57_27) false (xV (Instr.index 9 (gval (asB t57_27) false x0) t62_29))) w_30 fun t63_31 w_32 =>
  opK Tryd.prog (gsem (asB t57_27) false (xBin .lss 5 (.tmp 63) (.const (Value.int .u8 128)) t63_31 (Value.int .u8 128))) w_32 fun t64_33 w_34 =>
  opK Tryd.prog (xPick t57_27 (Value.bool true) t64_33) w_34 fun t65_35 w_36 =>
  opK Tryd.prog (gsem (asB t65_35) false (xBin .add 3 (.tmp 68) (.tmp 69) (gval (asB t65_35) false x1) (gval (asB t65_35) false x11))) w_36 fun t70_37 w_38 =>
  opK Tryd.prog (gsem (asB t65_35) false (xV (Instr.index 9 (gval (asB t65_35) false x0) t70_37))) w_38 fun t71_39 w_40 =>
  opK Tryd.prog (gsem (asB t65_35) false (xBin .geq 5 (.tmp 71) (.const (Value.int .u8 192)) t71_39 (Value.int .u8 192))) w_40 fun t72_41 w_42 =>
  opK Tryd.prog (xPick t65_35 (Value.bool true) t72_41) w_42 fun t73_43 w_44 =>
  xcond t73_43
  (R (Value.tuple #[(Value.int .i64 65533), (Value.int .i64 1), (Value.bool false)]) w_44)
  (opK Tryd.prog (xBin .mul 3 (.const (Value.int .i64 64)) (.tmp 74) (Value.int .i64 64) x10) w_44 fun t75_45 w_46 =>
  opK Tryd.prog (xBin .add 3 (.tmp 77) (.tmp 78) x1 x11) w_46 fun t79_47 w_48 =>
  opK Tryd.prog (xV (Instr.index 9 x0 t79_47)) w_48 fun t80_49 w_50 =>
  opK Tryd.prog (xV (convert 5 3 t80_49)) w_50 fun t81_51 w_52 =>
  opK Tryd.prog (xBin .add 3 (.tmp 75) (.tmp 81) t75_45 t81_51) w_52 fun t82_53 w_54 =>
  opK Tryd.prog (xBin .sub 3 (.tmp 82) (.const (Value.int .i64 128)) t82_53 (Value.int .i64 128)) w_54 fun t83_55 w_56 =>
  opK Tryd.prog (xBin .add 3 (.tmp 50) (.const (Value.int .i64 1)) x11 (Value.int .i64 1)) w_56 fun t51_57 w_58 =>
  next3 [t83_55, t51_57] w_58))
  (j2 [x10] w_22)
def F16_j1 (x0 x1 x8 x9 x10 : Value) (w : World) (R : Value → World → Prop) : Prop :=
  ∀ _τ : Fr, (xcut (fun l_19 w_20 => F16_j2 x8 x9 (nth l_19 0) w_20 R) fun j2 =>
  xloop [10, 11] [x10, (Value.int .i64 1)] w fun τ_59 w_60 next3 =>
  F16_l3 x0 x1 x8 x9 (τ_59 10) (τ_59 11) w_60 next3 j2 R)
def F16 (x0 x1 : Value) (w : World) (R : Value → World → Prop) : Prop :=
  opK Tryd.prog (xV (Instr.index 9 x0 x1)) w fun t14_1 w_2 =>
  opK Tryd.prog (xV (convert 5 3 t14_1)) w_2 fun t15_3 w_4 =>
  xcut (fun l_61 w_62 => F16_j1 x0 x1 (nth l_61 0) (nth l_61 1) (nth l_61 2) w_62 R) fun j1 =>
  opK Tryd.prog (xBin .lss 3 (.tmp 17) (.const (Value.int .i64 128)) t15_3 (Value.int .i64 128)) w_4 fun t18_63 w_64 =>
  xcond t18_63
  (R (Value.tuple #[t15_3, (Value.int .i64 1), (Value.bool true)]) w_64)
  (opK Tryd.prog (xBin .geq 3 (.tmp 21) (.const (Value.int .i64 194)) t15_3 (Value.int .i64 194)) w_64 fun t22_65 w_66 =>
  opK Tryd.prog (gsem (asB t22_65) true (xBin .lss 3 (.tmp 24) (.const (Value.int .i64 224)) (gval (asB t22_65) true t15_3) (Value.int .i64 224))) w_66 fun t25_67 w_68 =>
  opK Tryd.prog (xPick t22_65 t25_67 (Value.bool false)) w_68 fun t26_69 w_70 =>
  xcond t26_69
  (opK Tryd.prog (xBin .sub 3 (.tmp 27) (.const (Value.int .i64 192)) t15_3 (Value.int .i64 192)) w_70 fun t28_71 w_72 =>
  j1 [(Value.int .i64 2), (Value.int .i64 128), t28_71] w_72)
  (opK Tryd.prog (xBin .geq 3 (.tmp 30) (.const (Value.int .i64 224)) t15_3 (Value.int .i64 224)) w_70 fun t31_73 w_74 =>
  opK Tryd.prog (gsem (asB t31_73) true (xBin .lss 3 (.tmp 33) (.const (Value.int .i64 240)) (gval (asB t31_73) true t15_3) (Value.int .i64 240))) w_74 fun t34_75 w_76 =>
  opK Tryd.prog (xPick t31_73 t34_75 (Value.bool false)) w_76 fun t35_77 w_78 =>
  xcond t35_77
  (opK Tryd.prog (xBin .sub 3 (.tmp 36) (.const (Value.int .i64 224)) t15_3 (Value.int .i64 224)) w_78 fun t37_79 w_80 =>
  j1 [(Value.int .i64 3), (Value.int .i64 2048), t37_79] w_80)
  (opK Tryd.prog (xBin .geq 3 (.tmp 39) (.const (Value.int .i64 240)) t15_3 (Value.int .i64 240)) w_78 fun t40_81 w_82 =>
  opK Tryd.prog (gsem (asB t40_81) true (xBin .lss 3 (.tmp 42) (.const (Value.int .i64 245)) (gval (asB t40_81) true t15_3) (Value.int .i64 245))) w_82 fun t43_83 w_84 =>
  opK Tryd.prog (xPick t40_81 t43_83 (Value.bool false)) w_84 fun t44_85 w_86 =>
  xcond t44_85
  (opK Tryd.prog (xBin .sub 3 (.tmp 45) (.const (Value.int .i64 240)) t15_3 (Value.int .i64 240)) w_86 fun t46_87 w_88 =>
  j1 [(Value.int .i64 4), (Value.int .i64 65536), t46_87] w_88)
  (R (Value.tuple #[(Value.int .i64 65533), (Value.int .i64 1), (Value.bool false)]) w_86))))
noncomputable def c16 : Code := Tryd.f16.body.getD .skip
def h16 : Hint := (.seq .none (.seq .none (.seq .none (.cut [8, 9, 10] (.block (.seq .none (.cond (.seq .none .none) (.seq .none (.cond .none (.seq .none (.cond .none (.seq .none (.cond .none (.seq .none .none)))))))))) (.cut [10] (.seq .none (.block (.loop [10, 11] (.seq (.seq .none (.cond .none .none)) (.seq (.block (.seq (.seq .none (.cond (.seq .none .none) .none)) .none)) .none))))) (.seq (.seq .none (.cond (.seq .none .none) .none)) (.seq .none .none)))))))
set_option maxRecDepth 100000 in
theorem F16_eq (x0 x1 : Value) (w : World) (R : Value → World → Prop) : F16 x0 x1 w R = callX Tryd.prog [.tmp 4, .tmp 5, .tmp 6] c16 h16 [x0, x1] w R := by kernel_rfl
theorem F16_ok {x0 x1 : Value} {w : World} {R : Value → World → Prop} (h : F16 x0 x1 w R) : Cv Tryd.prog 16 #[x0, x1] w R :=
  callX_sound (args := [x0, x1]) (c := c16) (h := h16) Tryd.func16 (by kernel_rfl) (Nat.le_of_ble_eq_true (by kernel_rfl)) (by kernel_rfl) (by kernel_rfl) (by kernel_rfl) ((F16_eq x0 x1 w R).mp h)

/- function 18: gnomon/text.Class$1 -/
def F18 (x0 x1 x2 : Value) (w : World) (R : Value → World → Prop) : Prop :=
  opK Tryd.prog (xV (Instr.loadAt 21 x2)) w fun t7_1 w_2 =>
  opK Tryd.prog (xBin .leq 21 (.tmp 6) (.tmp 7) x0 t7_1) w_2 fun t8_3 w_4 =>
  opK Tryd.prog (gsem (asB t8_3) true (xV (Instr.loadAt 21 x2))) w_4 fun t10_5 w_6 =>
  opK Tryd.prog (gsem (asB t8_3) true (xBin .leq 21 (.tmp 10) (.tmp 11) t10_5 (gval (asB t8_3) true x1))) w_6 fun t12_7 w_8 =>
  opK Tryd.prog (xPick t8_3 t12_7 (Value.bool false)) w_8 fun t13_9 w_10 =>
  R t13_9 w_10
noncomputable def c18 : Code := Tryd.f18.body.getD .skip
def h18 : Hint := (.seq .none (.seq .none .none))
set_option maxRecDepth 100000 in
theorem F18_eq (x0 x1 x2 : Value) (w : World) (R : Value → World → Prop) : F18 x0 x1 x2 w R = callX Tryd.prog [.tmp 5] c18 h18 [x0, x1, x2] w R := by kernel_rfl
theorem F18_ok {x0 x1 x2 : Value} {w : World} {R : Value → World → Prop} (h : F18 x0 x1 x2 w R) : Cv Tryd.prog 18 #[x0, x1, x2] w R :=
  callX_sound (args := [x0, x1, x2]) (c := c18) (h := h18) Tryd.func18 (by kernel_rfl) (Nat.le_of_ble_eq_true (by kernel_rfl)) (by kernel_rfl) (by kernel_rfl) (by kernel_rfl) ((F18_eq x0 x1 x2 w R).mp h)

/- function 19: gnomon/gnomonref1.between -/
def F19 (x0 x1 x2 : Value) (w : World) (R : Value → World → Prop) : Prop :=
  opK Tryd.prog (xBin .geq 3 (.tmp 7) (.tmp 8) x0 x1) w fun t9_1 w_2 =>
  opK Tryd.prog (gsem (asB t9_1) true (xBin .leq 3 (.tmp 11) (.tmp 12) (gval (asB t9_1) true x0) (gval (asB t9_1) true x2))) w_2 fun t13_3 w_4 =>
  opK Tryd.prog (xPick t9_1 t13_3 (Value.bool false)) w_4 fun t14_5 w_6 =>
  R t14_5 w_6
noncomputable def c19 : Code := Tryd.f19.body.getD .skip
def h19 : Hint := (.seq .none (.seq .none .none))
set_option maxRecDepth 100000 in
theorem F19_eq (x0 x1 x2 : Value) (w : World) (R : Value → World → Prop) : F19 x0 x1 x2 w R = callX Tryd.prog [.tmp 6] c19 h19 [x0, x1, x2] w R := by kernel_rfl
theorem F19_ok {x0 x1 x2 : Value} {w : World} {R : Value → World → Prop} (h : F19 x0 x1 x2 w R) : Cv Tryd.prog 19 #[x0, x1, x2] w R :=
  callX_sound (args := [x0, x1, x2]) (c := c19) (h := h19) Tryd.func19 (by kernel_rfl) (Nat.le_of_ble_eq_true (by kernel_rfl)) (by kernel_rfl) (by kernel_rfl) (by kernel_rfl) ((F19_eq x0 x1 x2 w R).mp h)

/- function 20: gnomon/text.first -/
def F20 (w : World) (R : Value → World → Prop) : Prop :=
  opK Tryd.prog (xV (Instr.alloc 33 true (.tuple #[]))) w fun t0_1 w_2 =>
  opK Tryd.prog (xV (Instr.build 33 #[(0, (Value.int .i64 1)), (1, (Value.int .i64 1))])) w_2 fun t1_3 w_4 =>
  opK Tryd.prog (xU (Instr.storeAt 33 t0_1 t1_3)) w_4 fun _z_5 w_6 =>
  xcell Tryd.prog 33 t0_1 w_6 fun r_7 =>
  R r_7 w_6
noncomputable def c20 : Code := Tryd.f20.body.getD .skip
def h20 : Hint := (.seq .none (.seq .none .none))
set_option maxRecDepth 100000 in
theorem F20_eq (w : World) (R : Value → World → Prop) : F20  w R = callX Tryd.prog [.cell 0 33] c20 h20 [] w R := by kernel_rfl
theorem F20_ok {w : World} {R : Value → World → Prop} (h : F20  w R) : Cv Tryd.prog 20 #[] w R :=
  callX_sound (args := []) (c := c20) (h := h20) Tryd.func20 (by kernel_rfl) (Nat.le_of_ble_eq_true (by kernel_rfl)) (by kernel_rfl) (by kernel_rfl) (by kernel_rfl) ((F20_eq  w R).mp h)

/- function 23: gnomon/text.next -/
def F23 (x0 x1 : Value) (w : World) (R : Value → World → Prop) : Prop :=
  opK Tryd.prog (xV (Instr.box 33 x0)) w fun t2_1 w_2 =>
  opK Tryd.prog (xV (Instr.alloc 33 true (.tuple #[]))) w_2 fun t4_3 w_4 =>
  opK Tryd.prog (xBin .eql 21 (.tmp 5) (.const (Value.int .i32 10)) x1 (Value.int .i32 10)) w_4 fun t6_5 w_6 =>
  xcond t6_5
  (opK Tryd.prog (xV (Instr.fieldAt 33 t2_1 0)) w_6 fun t7_7 w_8 =>
  opK Tryd.prog (xV (Instr.loadAt 3 t7_7)) w_8 fun t8_9 w_10 =>
  opK Tryd.prog (xBin .add 3 (.tmp 8) (.const (Value.int .i64 1)) t8_9 (Value.int .i64 1)) w_10 fun t9_11 w_12 =>
  opK Tryd.prog (xV (Instr.build 33 #[(0, t9_11), (1, (Value.int .i64 1))])) w_12 fun t10_13 w_14 =>
  opK Tryd.prog (xU (Instr.storeAt 33 t4_3 t10_13)) w_14 fun _z_15 w_16 =>
  xcell Tryd.prog 33 t4_3 w_16 fun r_17 =>
  R r_17 w_16)
  (opK Tryd.prog (xV (Instr.fieldAt 33 t2_1 0)) w_6 fun t11_18 w_19 =>
  opK Tryd.prog (xV (Instr.loadAt 3 t11_18)) w_19 fun t12_20 w_21 =>
  opK Tryd.prog (xV (Instr.fieldAt 33 t2_1 1)) w_21 fun t13_22 w_23 =>
  opK Tryd.prog (xV (Instr.loadAt 3 t13_22)) w_23 fun t14_24 w_25 =>
  opK Tryd.prog (xBin .add 3 (.tmp 14) (.const (Value.int .i64 1)) t14_24 (Value.int .i64 1)) w_25 fun t15_26 w_27 =>
  opK Tryd.prog (xV (Instr.build 33 #[(0, t12_20), (1, t15_26)])) w_27 fun t16_28 w_29 =>
  opK Tryd.prog (xU (Instr.storeAt 33 t4_3 t16_28)) w_29 fun _z_30 w_31 =>
  xcell Tryd.prog 33 t4_3 w_31 fun r_32 =>
  R r_32 w_31)
noncomputable def c23 : Code := Tryd.f23.body.getD .skip
def h23 : Hint := (.seq .none (.seq (.seq .none (.cond (.seq .none .none) .none)) (.seq .none .none)))
set_option maxRecDepth 100000 in
theorem F23_eq (x0 x1 : Value) (w : World) (R : Value → World → Prop) : F23 x0 x1 w R = callX Tryd.prog [.cell 4 33] c23 h23 [x0, x1] w R := by kernel_rfl
theorem F23_ok {x0 x1 : Value} {w : World} {R : Value → World → Prop} (h : F23 x0 x1 w R) : Cv Tryd.prog 23 #[x0, x1] w R :=
  callX_sound (args := [x0, x1]) (c := c23) (h := h23) Tryd.func23 (by kernel_rfl) (Nat.le_of_ble_eq_true (by kernel_rfl)) (by kernel_rfl) (by kernel_rfl) (by kernel_rfl) ((F23_eq x0 x1 w R).mp h)

/- function 8: gnomon/gnomonlaw1.known -/
def F8 (w : World) (R : Value → World → Prop) : Prop :=
  opK Tryd.prog (xCall (Value.func (.func 9) #[] #[]) [(Value.string ⟨#[97, 255]⟩)]) w fun t4_1 w_2 =>
  opK Tryd.prog (xV (Instr.extract t4_1 0)) w_2 fun t5_3 w_4 =>
  opK Tryd.prog (xV (Instr.extract t4_1 1)) w_4 fun t6_5 w_6 =>
  opK Tryd.prog (xBin .eql 3 (.tmp 7) (.const (Value.int .i64 1)) t5_3 (Value.int .i64 1)) w_6 fun t8_7 w_8 =>
  opK Tryd.prog (gsem (asB t8_7) true (xBin .eql 23 (.tmp 10) (.const (Value.int .i64 11)) (gval (asB t8_7) true t6_5) (Value.int .i64 11))) w_8 fun t11_9 w_10 =>
  opK Tryd.prog (xPick t8_7 t11_9 (Value.bool false)) w_10 fun t12_11 w_12 =>
  opK Tryd.prog (gsem (asB t12_11) true (xCall (Value.func (.func 11) #[] #[]) [(Value.int .i32 233)])) w_12 fun t14_13 w_14 =>
  opK Tryd.prog (gsem (asB t12_11) true (xBin .eql 3 (.tmp 14) (.const (Value.int .i64 3)) t14_13 (Value.int .i64 3))) w_14 fun t15_15 w_16 =>
  opK Tryd.prog (xPick t12_11 t15_15 (Value.bool false)) w_16 fun t16_17 w_18 =>
  opK Tryd.prog (gsem (asB t16_17) true (xCall (Value.func (.func 13) #[] #[]) [(Value.string ⟨#[97, 195, 169, 10, 98]⟩), (Value.int .i64 4)])) w_18 fun t18_19 w_20 =>
  opK Tryd.prog (gsem (asB t16_17) true (xV (Instr.build 33 #[(0, (Value.int .i64 2)), (1, (Value.int .i64 1))]))) w_20 fun t19_21 w_22 =>
  opK Tryd.prog (gsem (asB t16_17) true (xBin .eql 33 (.tmp 18) (.tmp 19) t18_19 t19_21)) w_22 fun t20_23 w_24 =>
  opK Tryd.prog (xPick t16_17 t20_23 (Value.bool false)) w_24 fun t21_25 w_26 =>
  R t21_25 w_26
noncomputable def c8 : Code := Tryd.f8.body.getD .skip
def h8 : Hint := (.seq .none (.seq .none (.seq .none .none)))
set_option maxRecDepth 100000 in
theorem F8_eq (w : World) (R : Value → World → Prop) : F8  w R = callX Tryd.prog [.tmp 0] c8 h8 [] w R := by kernel_rfl
theorem F8_ok {w : World} {R : Value → World → Prop} (h : F8  w R) : Cv Tryd.prog 8 #[] w R :=
  callX_sound (args := []) (c := c8) (h := h8) Tryd.func8 (by kernel_rfl) (Nat.le_of_ble_eq_true (by kernel_rfl)) (by kernel_rfl) (by kernel_rfl) (by kernel_rfl) ((F8_eq  w R).mp h)

/- function 3: gnomon/gnomonlaw1.TextChecks -/
def F3 (x0 : Value) (w : World) (R : Value → World → Prop) : Prop :=
  opK Tryd.prog (xCall (Value.func (.func 8) #[] #[]) []) w fun t7_1 w_2 =>
  opK Tryd.prog (xV (Op.unary .not t7_1)) w_2 fun t8_3 w_4 =>
  xcond t8_3
  (R (Value.bool false) w_4)
  (opK Tryd.prog (xCall (Value.func (.func 9) #[] #[]) [x0]) w_4 fun t11_5 w_6 =>
  opK Tryd.prog (xV (Instr.extract t11_5 0)) w_6 fun t12_7 w_8 =>
  opK Tryd.prog (xV (Instr.extract t11_5 1)) w_8 fun t13_9 w_10 =>
  opK Tryd.prog (xCall (Value.func (.func 10) #[] #[]) [x0]) w_10 fun t16_11 w_12 =>
  opK Tryd.prog (xV (Instr.extract t16_11 0)) w_12 fun t17_13 w_14 =>
  opK Tryd.prog (xV (Instr.extract t16_11 1)) w_14 fun t18_15 w_16 =>
  opK Tryd.prog (xBin .eql 3 (.tmp 19) (.tmp 20) t12_7 t17_13) w_16 fun t21_17 w_18 =>
  opK Tryd.prog (gsem (asB t21_17) true (xBin .eql 3 (.tmp 23) (.tmp 24) (gval (asB t21_17) true t13_9) (gval (asB t21_17) true t18_15))) w_18 fun t25_19 w_20 =>
  opK Tryd.prog (xPick t21_17 t25_19 (Value.bool false)) w_20 fun t26_21 w_22 =>
  R t26_21 w_22)
noncomputable def c3 : Code := Tryd.f3.body.getD .skip
def h3 : Hint := (.seq .none (.seq (.seq .none (.cond (.seq .none .none) .none)) (.seq .none (.seq .none (.seq .none .none)))))
set_option maxRecDepth 100000 in
theorem F3_eq (x0 : Value) (w : World) (R : Value → World → Prop) : F3 x0 w R = callX Tryd.prog [.tmp 2] c3 h3 [x0] w R := by kernel_rfl
theorem F3_ok {x0 : Value} {w : World} {R : Value → World → Prop} (h : F3 x0 w R) : Cv Tryd.prog 3 #[x0] w R :=
  callX_sound (args := [x0]) (c := c3) (h := h3) Tryd.func3 (by kernel_rfl) (Nat.le_of_ble_eq_true (by kernel_rfl)) (by kernel_rfl) (by kernel_rfl) (by kernel_rfl) ((F3_eq x0 w R).mp h)

/- function 4: gnomon/gnomonlaw1.TextClasses -/
def F4 (x0 : Value) (w : World) (R : Value → World → Prop) : Prop :=
  opK Tryd.prog (xCall (Value.func (.func 8) #[] #[]) []) w fun t3_1 w_2 =>
  opK Tryd.prog (gsem (asB t3_1) true (xCall (Value.func (.func 11) #[] #[]) [(gval (asB t3_1) true x0)])) w_2 fun t6_3 w_4 =>
  opK Tryd.prog (gsem (asB t3_1) true (xV (convert 21 3 (gval (asB t3_1) true x0)))) w_4 fun t8_5 w_6 =>
  opK Tryd.prog (gsem (asB t3_1) true (xCall (Value.func (.func 12) #[] #[]) [t8_5])) w_6 fun t9_7 w_8 =>
  opK Tryd.prog (gsem (asB t3_1) true (xBin .eql 3 (.tmp 6) (.tmp 9) t6_3 t9_7)) w_8 fun t10_9 w_10 =>
  opK Tryd.prog (xPick t3_1 t10_9 (Value.bool false)) w_10 fun t11_11 w_12 =>
  R t11_11 w_12
noncomputable def c4 : Code := Tryd.f4.body.getD .skip
def h4 : Hint := (.seq .none (.seq .none .none))
set_option maxRecDepth 100000 in
theorem F4_eq (x0 : Value) (w : World) (R : Value → World → Prop) : F4 x0 w R = callX Tryd.prog [.tmp 2] c4 h4 [x0] w R := by kernel_rfl
theorem F4_ok {x0 : Value} {w : World} {R : Value → World → Prop} (h : F4 x0 w R) : Cv Tryd.prog 4 #[x0] w R :=
  callX_sound (args := [x0]) (c := c4) (h := h4) Tryd.func4 (by kernel_rfl) (Nat.le_of_ble_eq_true (by kernel_rfl)) (by kernel_rfl) (by kernel_rfl) (by kernel_rfl) ((F4_eq x0 w R).mp h)

/- function 5: gnomon/gnomonlaw1.TextOn -/
def F5 (x0 x1 x2 : Value) (w : World) (R : Value → World → Prop) : Prop :=
  opK Tryd.prog (xCall (Value.func (.func 8) #[] #[]) []) w fun t9_1 w_2 =>
  opK Tryd.prog (xV (Op.unary .not t9_1)) w_2 fun t10_3 w_4 =>
  xcond t10_3
  (R (Value.bool false) w_4)
  (opK Tryd.prog (xBuiltin .min #[3, 3] 3 [false, false] [x1, x2]) w_4 fun t14_5 w_6 =>
  opK Tryd.prog (xCall (Value.func (.func 13) #[] #[]) [x0, t14_5]) w_6 fun t15_7 w_8 =>
  opK Tryd.prog (xBuiltin .max #[3, 3] 3 [false, false] [x1, x2]) w_8 fun t19_9 w_10 =>
  opK Tryd.prog (xCall (Value.func (.func 13) #[] #[]) [x0, t19_9]) w_10 fun t20_11 w_12 =>
  opK Tryd.prog (xV (Instr.alloc 33 true (.tuple #[]))) w_12 fun t7_13 w_14 =>
  opK Tryd.prog (xV (Instr.alloc 33 true (.tuple #[]))) w_14 fun t8_15 w_16 =>
  opK Tryd.prog (xU (Instr.storeAt 33 t7_13 t15_7)) w_16 fun _z_17 w_18 =>
  opK Tryd.prog (xU (Instr.storeAt 33 t8_15 t20_11)) w_18 fun _z_19 w_20 =>
  opK Tryd.prog (xCall (Value.func (.func 13) #[] #[]) [x0, (Value.int .i64 0)]) w_20 fun t22_21 w_22 =>
  opK Tryd.prog (xV (Instr.build 33 #[(0, (Value.int .i64 1)), (1, (Value.int .i64 1))])) w_22 fun t23_23 w_24 =>
  opK Tryd.prog (xBin .eql 33 (.tmp 22) (.tmp 23) t22_21 t23_23) w_24 fun t24_25 w_26 =>
  opK Tryd.prog (gsem (asB t24_25) true (xV (Instr.fieldAt 33 t7_13 0))) w_26 fun t26_27 w_28 =>
  opK Tryd.prog (gsem (asB t24_25) true (xV (Instr.loadAt 3 t26_27))) w_28 fun t27_29 w_30 =>
  opK Tryd.prog (gsem (asB t24_25) true (xV (Instr.fieldAt 33 t8_15 0))) w_30 fun t28_31 w_32 =>
  opK Tryd.prog (gsem (asB t24_25) true (xV (Instr.loadAt 3 t28_31))) w_32 fun t29_33 w_34 =>
  opK Tryd.prog (gsem (asB t24_25) true (xBin .lss 3 (.tmp 27) (.tmp 29) t27_29 t29_33)) w_34 fun t30_35 w_36 =>
  opK Tryd.prog (gsem (asB (gval (asB t24_25) true t30_35)) false (xV (Instr.fieldAt 33 t7_13 0))) w_36 fun t32_37 w_38 =>
  opK Tryd.prog (gsem (asB (gval (asB t24_25) true t30_35)) false (xV (Instr.loadAt 3 t32_37))) w_38 fun t33_39 w_40 =>
  opK Tryd.prog (gsem (asB (gval (asB t24_25) true t30_35)) false (xV (Instr.fieldAt 33 t8_15 0))) w_40 fun t34_41 w_42 =>
  opK Tryd.prog (gsem (asB (gval (asB t24_25) true t30_35)) false (xV (Instr.loadAt 3 t34_41))) w_42 fun t35_43 w_44 =>
  opK Tryd.prog (gsem (asB (gval (asB t24_25) true t30_35)) false (xBin .eql 3 (.tmp 33) (.tmp 35) t33_39 t35_43)) w_44 fun t36_45 w_46 =>
  opK Tryd.prog (gsem (asB (gval (asB (gval (asB t24_25) true t30_35)) false t36_45)) true (xV (Instr.fieldAt 33 t7_13 1))) w_46 fun t38_47 w_48 =>
  opK Tryd.prog (gsem (asB (gval (asB (gval (asB t24_25) true t30_35)) false t36_45)) true (xV (Instr.loadAt 3 t38_47))) w_48 fun t39_49 w_50 =>
  opK Tryd.prog (gsem (asB (gval (asB (gval (asB t24_25) true t30_35)) false t36_45)) true (xV (Instr.fieldAt 33 t8_15 1))) w_50 fun t40_51 w_52 =>
  opK Tryd.prog (gsem (asB (gval (asB (gval (asB t24_25) true t30_35)) false t36_45)) true (xV (Instr.loadAt 3 t40_51))) w_52 fun t41_53 w_54 =>
  opK Tryd.prog (gsem (asB (gval (asB (gval (asB t24_25) true t30_35)) false t36_45)) true (xBin .leq 3 (.tmp 39) (.tmp 41) t39_49 t41_53)) w_54 fun t42_55 w_56 =>
  opK Tryd.prog (gsem (asB (gval (asB t24_25) true t30_35)) false (xPick (gval (asB (gval (asB t24_25) true t30_35)) false t36_45) t42_55 (Value.bool false))) w_56 fun t43_57 w_58 =>
  opK Tryd.prog (gsem (asB t24_25) true (xPick (gval (asB t24_25) true t30_35) (Value.bool true) t43_57)) w_58 fun t44_59 w_60 =>
  opK Tryd.prog (xPick t24_25 t44_59 (Value.bool false)) w_60 fun t45_61 w_62 =>
  R t45_61 w_62)
noncomputable def c5 : Code := Tryd.f5.body.getD .skip
def h5 : Hint := (.seq .none (.seq (.seq .none (.cond (.seq .none .none) .none)) (.seq .none (.seq .none .none))))
set_option maxRecDepth 100000 in
theorem F5_eq (x0 x1 x2 : Value) (w : World) (R : Value → World → Prop) : F5 x0 x1 x2 w R = callX Tryd.prog [.tmp 6] c5 h5 [x0, x1, x2] w R := by kernel_rfl
theorem F5_ok {x0 x1 x2 : Value} {w : World} {R : Value → World → Prop} (h : F5 x0 x1 x2 w R) : Cv Tryd.prog 5 #[x0, x1, x2] w R :=
  callX_sound (args := [x0, x1, x2]) (c := c5) (h := h5) Tryd.func5 (by kernel_rfl) (Nat.le_of_ble_eq_true (by kernel_rfl)) (by kernel_rfl) (by kernel_rfl) (by kernel_rfl) ((F5_eq x0 x1 x2 w R).mp h)

/- function 6: gnomon/gnomonlaw1.TextJoins -/
def F6 (x0 x1 x2 : Value) (w : World) (R : Value → World → Prop) : Prop :=
  opK Tryd.prog (xCall (Value.func (.func 8) #[] #[]) []) w fun t10_1 w_2 =>
  opK Tryd.prog (xV (Op.unary .not t10_1)) w_2 fun t11_3 w_4 =>
  xcond t11_3
  (R (Value.bool false) w_4)
  (opK Tryd.prog (xBin .add 9 (.tmp 12) (.const (Value.string ⟨#[10]⟩)) x0 (Value.string ⟨#[10]⟩)) w_4 fun t13_5 w_6 =>
  opK Tryd.prog (xBuiltin .len #[9] 3 [false] [x1]) w_6 fun t16_7 w_8 =>
  opK Tryd.prog (xBuiltin .min #[3, 3] 3 [false, false] [x2, t16_7]) w_8 fun t17_9 w_10 =>
  opK Tryd.prog (xBuiltin .max #[3, 3] 3 [true, false] [(Value.int .i64 0), t17_9]) w_10 fun t18_11 w_12 =>
  opK Tryd.prog (xBuiltin .len #[9] 3 [false] [t13_5]) w_12 fun t21_13 w_14 =>
  opK Tryd.prog (xCall (Value.func (.func 13) #[] #[]) [t13_5, t21_13]) w_14 fun t22_15 w_16 =>
  opK Tryd.prog (xCall (Value.func (.func 13) #[] #[]) [x1, t18_11]) w_16 fun t25_17 w_18 =>
  opK Tryd.prog (xBin .add 9 (.tmp 26) (.tmp 27) t13_5 x1) w_18 fun t28_19 w_20 =>
  opK Tryd.prog (xBuiltin .len #[9] 3 [false] [t13_5]) w_20 fun t30_21 w_22 =>
  opK Tryd.prog (xBin .add 3 (.tmp 30) (.tmp 31) t30_21 t18_11) w_22 fun t32_23 w_24 =>
  opK Tryd.prog (xCall (Value.func (.func 13) #[] #[]) [t28_19, t32_23]) w_24 fun t33_25 w_26 =>
  opK Tryd.prog (xV (Instr.alloc 33 true (.tuple #[]))) w_26 fun t7_27 w_28 =>
  opK Tryd.prog (xV (Instr.alloc 33 true (.tuple #[]))) w_28 fun t8_29 w_30 =>
  opK Tryd.prog (xV (Instr.alloc 33 true (.tuple #[]))) w_30 fun t9_31 w_32 =>
  opK Tryd.prog (xU (Instr.storeAt 33 t7_27 t22_15)) w_32 fun _z_33 w_34 =>
  opK Tryd.prog (xU (Instr.storeAt 33 t8_29 t25_17)) w_34 fun _z_35 w_36 =>
  opK Tryd.prog (xU (Instr.storeAt 33 t9_31 t33_25)) w_36 fun _z_37 w_38 =>
  opK Tryd.prog (xV (Instr.fieldAt 33 t7_27 1)) w_38 fun t34_39 w_40 =>
  opK Tryd.prog (xV (Instr.loadAt 3 t34_39)) w_40 fun t35_41 w_42 =>
  opK Tryd.prog (xBin .eql 3 (.tmp 35) (.const (Value.int .i64 1)) t35_41 (Value.int .i64 1)) w_42 fun t36_43 w_44 =>
  opK Tryd.prog (gsem (asB t36_43) true (xV (Instr.fieldAt 33 t9_31 0))) w_44 fun t38_45 w_46 =>
  opK Tryd.prog (gsem (asB t36_43) true (xV (Instr.loadAt 3 t38_45))) w_46 fun t39_47 w_48 =>
  opK Tryd.prog (gsem (asB t36_43) true (xV (Instr.fieldAt 33 t7_27 0))) w_48 fun t40_49 w_50 =>
  opK Tryd.prog (gsem (asB t36_43) true (xV (Instr.loadAt 3 t40_49))) w_50 fun t41_51 w_52 =>
  opK Tryd.prog (gsem (asB t36_43) true (xBin .sub 3 (.tmp 41) (.const (Value.int .i64 1)) t41_51 (Value.int .i64 1))) w_52 fun t42_53 w_54 =>
  opK Tryd.prog (gsem (asB t36_43) true (xV (Instr.fieldAt 33 t8_29 0))) w_54 fun t43_55 w_56 =>
  opK Tryd.prog (gsem (asB t36_43) true (xV (Instr.loadAt 3 t43_55))) w_56 fun t44_57 w_58 =>
  opK Tryd.prog (gsem (asB t36_43) true (xBin .add 3 (.tmp 42) (.tmp 44) t42_53 t44_57)) w_58 fun t45_59 w_60 =>
  opK Tryd.prog (gsem (asB t36_43) true (xBin .eql 3 (.tmp 39) (.tmp 45) t39_47 t45_59)) w_60 fun t46_61 w_62 =>
  opK Tryd.prog (xPick t36_43 t46_61 (Value.bool false)) w_62 fun t47_63 w_64 =>
  opK Tryd.prog (gsem (asB t47_63) true (xV (Instr.fieldAt 33 t9_31 1))) w_64 fun t49_65 w_66 =>
  opK Tryd.prog (gsem (asB t47_63) true (xV (Instr.loadAt 3 t49_65))) w_66 fun t50_67 w_68 =>
  opK Tryd.prog (gsem (asB t47_63) true (xV (Instr.fieldAt 33 t8_29 1))) w_68 fun t51_69 w_70 =>
  opK Tryd.prog (gsem (asB t47_63) true (xV (Instr.loadAt 3 t51_69))) w_70 fun t52_71 w_72 =>
  opK Tryd.prog (gsem (asB t47_63) true (xBin .eql 3 (.tmp 50) (.tmp 52) t50_67 t52_71)) w_72 fun t53_73 w_74 =>
  opK Tryd.prog (xPick t47_63 t53_73 (Value.bool false)) w_74 fun t54_75 w_76 =>
  R t54_75 w_76)
noncomputable def c6 : Code := Tryd.f6.body.getD .skip
def h6 : Hint := (.seq .none (.seq (.seq .none (.cond (.seq .none .none) .none)) (.seq .none (.seq .none (.seq .none (.seq .none .none))))))
set_option maxRecDepth 100000 in
theorem F6_eq (x0 x1 x2 : Value) (w : World) (R : Value → World → Prop) : F6 x0 x1 x2 w R = callX Tryd.prog [.tmp 6] c6 h6 [x0, x1, x2] w R := by kernel_rfl
theorem F6_ok {x0 x1 x2 : Value} {w : World} {R : Value → World → Prop} (h : F6 x0 x1 x2 w R) : Cv Tryd.prog 6 #[x0, x1, x2] w R :=
  callX_sound (args := [x0, x1, x2]) (c := c6) (h := h6) Tryd.func6 (by kernel_rfl) (Nat.le_of_ble_eq_true (by kernel_rfl)) (by kernel_rfl) (by kernel_rfl) (by kernel_rfl) ((F6_eq x0 x1 x2 w R).mp h)

end Go.Proofs.YtpdeflgmldomeaaDoor
