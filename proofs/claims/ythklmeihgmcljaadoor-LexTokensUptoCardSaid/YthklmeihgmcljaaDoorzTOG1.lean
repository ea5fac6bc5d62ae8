/- The second reading of some of the program's functions, printed by gen.py off the code; each is held against the code by the kernel. -/
import Derived.Test.YthklmeihgmcljaaDoorProg
import Derived.KernelRfl
import Derived.Test.YthklmeihgmcljaaDoorzTOE0
namespace Go.Proofs.YthklmeihgmcljaaDoor.Od
open Go.RowKit
set_option maxRecDepth 100000
def F34 (w : World) (R : Value → World → Prop) : Prop :=
  opK Tryd.prog (xV (Instr.alloc 25 true (.tuple #[]))) w fun a8S w_2 =>
  opK Tryd.prog (xV (Instr.build 25 #[(0, (Value.int .i64 1)), (1, (Value.int .i64 1))])) w_2 fun b0h w_4 =>
  opK Tryd.prog (xU (Instr.storeAt 25 a8S b0h)) w_4 fun _z_5 w_6 =>
  xcell Tryd.prog 25 a8S w_6 fun r_7 =>
  R r_7 w_6
noncomputable def c34 : Code := Tryd.f34.body.getD .skip
def h34 : Hint := (.seq .none (.seq .none .none))
set_option maxRecDepth 100000 in
theorem a8T (w : World) (R : Value → World → Prop) : F34  w R = callX Tryd.prog [.cell 0 25] c34 h34 [] w R := by kernel_rfl
theorem a5A {w : World} {R : Value → World → Prop} (h : F34  w R) : Cv Tryd.prog 34 #[] w R :=
  R7 (args := []) (c := c34) (h := h34) Tryd.func34 (by kernel_rfl) (Nat.le_of_ble_eq_true (by kernel_rfl)) (by kernel_rfl) (by kernel_rfl) (by kernel_rfl) ((a8T  w R).mp h)
def F55 (x0 x1 : Value) (w : World) (R : Value → World → Prop) : Prop :=
  opK Tryd.prog (xV (Instr.box 25 x0)) w fun a6H w_2 =>
  opK Tryd.prog (xV (Instr.alloc 25 true (.tuple #[]))) w_2 fun a4W w_4 =>
  opK Tryd.prog (xBin .eql 21 (.tmp 5) (.const (Value.int .i32 10)) x1 (Value.int .i32 10)) w_4 fun b0i w_6 =>
  xcond b0i
  (opK Tryd.prog (xV (Instr.fieldAt 25 a6H 0)) w_6 fun b0j w_8 =>
  opK Tryd.prog (xV (Instr.loadAt 3 b0j)) w_8 fun b0k a3N =>
  opK Tryd.prog (xBin .add 3 (.tmp 8) (.const (Value.int .i64 1)) b0k (Value.int .i64 1)) a3N fun a9W a3O =>
  opK Tryd.prog (xV (Instr.build 25 #[(0, a9W), (1, (Value.int .i64 1))])) a3O fun a8U b0l =>
  opK Tryd.prog (xU (Instr.storeAt 25 a4W a8U)) b0l fun _z_15 a8V =>
  xcell Tryd.prog 25 a4W a8V fun b0m =>
  R b0m a8V)
  (opK Tryd.prog (xV (Instr.fieldAt 25 a6H 0)) w_6 fun a8W b0n =>
  opK Tryd.prog (xV (Instr.loadAt 3 a8W)) b0n fun a8X a4X =>
  opK Tryd.prog (xV (Instr.fieldAt 25 a6H 1)) a4X fun a8Y b0o =>
  opK Tryd.prog (xV (Instr.loadAt 3 a8Y)) b0o fun a8Z a6I =>
  opK Tryd.prog (xBin .add 3 (.tmp 14) (.const (Value.int .i64 1)) a8Z (Value.int .i64 1)) a6I fun a3P a6J =>
  opK Tryd.prog (xV (Instr.build 25 #[(0, a8X), (1, a3P)])) a6J fun a9a a6K =>
  opK Tryd.prog (xU (Instr.storeAt 25 a4W a9a)) a6K fun _z_30 a9b =>
  xcell Tryd.prog 25 a4W a9b fun b0p =>
  R b0p a9b)
noncomputable def c55 : Code := Tryd.f55.body.getD .skip
def h55 : Hint := (.seq .none (.seq (.seq .none (.cond (.seq .none .none) .none)) (.seq .none .none)))
set_option maxRecDepth 100000 in
theorem a9c (x0 x1 : Value) (w : World) (R : Value → World → Prop) : F55 x0 x1 w R = callX Tryd.prog [.cell 4 25] c55 h55 [x0, x1] w R := by kernel_rfl
theorem a5H {x0 x1 : Value} {w : World} {R : Value → World → Prop} (h : F55 x0 x1 w R) : Cv Tryd.prog 55 #[x0, x1] w R :=
  R7 (args := [x0, x1]) (c := c55) (h := h55) Tryd.func55 (by kernel_rfl) (Nat.le_of_ble_eq_true (by kernel_rfl)) (by kernel_rfl) (by kernel_rfl) (by kernel_rfl) ((a9c x0 x1 w R).mp h)
end Go.Proofs.YthklmeihgmcljaaDoor.Od
