/- The second reading of some of the program's functions, printed by gen.py off the code; each is held against the code by the kernel. -/
import Derived.Test.YthklmeihgmcljaaDoorProg
import Derived.KernelRfl
import Derived.Test.YthklmeihgmcljaaDoorzWOE0
namespace Go.Proofs.YthklmeihgmcljaaDoor.Od
open Go.RowKit
set_option maxRecDepth 100000
def F34 (w : World) (R : Value → World → Prop) : Prop :=
  opK Tryd.prog (xV (Instr.alloc 25 true (.tuple #[]))) w fun a6Q w_2 =>
  opK Tryd.prog (xV (Instr.build 25 #[(0, (Value.int .i64 1)), (1, (Value.int .i64 1))])) w_2 fun a8h w_4 =>
  opK Tryd.prog (xU (Instr.storeAt 25 a6Q a8h)) w_4 fun _z_5 w_6 =>
  xcell Tryd.prog 25 a6Q w_6 fun r_7 =>
  R r_7 w_6
noncomputable def c34 : Code := Tryd.f34.body.getD .skip
def h34 : Hint := (.seq .none (.seq .none .none))
set_option maxRecDepth 100000 in
theorem a6R (w : World) (R : Value → World → Prop) : F34  w R = callX Tryd.prog [.cell 0 25] c34 h34 [] w R := by kernel_rfl
theorem a3I {w : World} {R : Value → World → Prop} (h : F34  w R) : Cv Tryd.prog 34 #[] w R :=
  L8 (args := []) (c := c34) (h := h34) Tryd.func34 (by kernel_rfl) (Nat.le_of_ble_eq_true (by kernel_rfl)) (by kernel_rfl) (by kernel_rfl) (by kernel_rfl) ((a6R  w R).mp h)
def F55 (x0 x1 : Value) (w : World) (R : Value → World → Prop) : Prop :=
  opK Tryd.prog (xV (Instr.box 25 x0)) w fun a4M w_2 =>
  opK Tryd.prog (xV (Instr.alloc 25 true (.tuple #[]))) w_2 fun a3i w_4 =>
  opK Tryd.prog (xBin .eql 21 (.tmp 5) (.const (Value.int .i32 10)) x1 (Value.int .i32 10)) w_4 fun a8i w_6 =>
  xcond a8i
  (opK Tryd.prog (xV (Instr.fieldAt 25 a4M 0)) w_6 fun a8j w_8 =>
  opK Tryd.prog (xV (Instr.loadAt 3 a8j)) w_8 fun a8k a2c =>
  opK Tryd.prog (xBin .add 3 (.tmp 8) (.const (Value.int .i64 1)) a8k (Value.int .i64 1)) a2c fun a7W a2d =>
  opK Tryd.prog (xV (Instr.build 25 #[(0, a7W), (1, (Value.int .i64 1))])) a2d fun a6S a8l =>
  opK Tryd.prog (xU (Instr.storeAt 25 a3i a6S)) a8l fun _z_15 a6T =>
  xcell Tryd.prog 25 a3i a6T fun a8m =>
  R a8m a6T)
  (opK Tryd.prog (xV (Instr.fieldAt 25 a4M 0)) w_6 fun a6U a8n =>
  opK Tryd.prog (xV (Instr.loadAt 3 a6U)) a8n fun a6V a3j =>
  opK Tryd.prog (xV (Instr.fieldAt 25 a4M 1)) a3j fun a6W a8o =>
  opK Tryd.prog (xV (Instr.loadAt 3 a6W)) a8o fun a6X a4N =>
  opK Tryd.prog (xBin .add 3 (.tmp 14) (.const (Value.int .i64 1)) a6X (Value.int .i64 1)) a4N fun a2e a4O =>
  opK Tryd.prog (xV (Instr.build 25 #[(0, a6V), (1, a2e)])) a4O fun a6Y a4P =>
  opK Tryd.prog (xU (Instr.storeAt 25 a3i a6Y)) a4P fun _z_30 a6Z =>
  xcell Tryd.prog 25 a3i a6Z fun a8p =>
  R a8p a6Z)
noncomputable def c55 : Code := Tryd.f55.body.getD .skip
def h55 : Hint := (.seq .none (.seq (.seq .none (.cond (.seq .none .none) .none)) (.seq .none .none)))
set_option maxRecDepth 100000 in
theorem a7a (x0 x1 : Value) (w : World) (R : Value → World → Prop) : F55 x0 x1 w R = callX Tryd.prog [.cell 4 25] c55 h55 [x0, x1] w R := by kernel_rfl
theorem a3N {x0 x1 : Value} {w : World} {R : Value → World → Prop} (h : F55 x0 x1 w R) : Cv Tryd.prog 55 #[x0, x1] w R :=
  L8 (args := [x0, x1]) (c := c55) (h := h55) Tryd.func55 (by kernel_rfl) (Nat.le_of_ble_eq_true (by kernel_rfl)) (by kernel_rfl) (by kernel_rfl) (by kernel_rfl) ((a7a x0 x1 w R).mp h)
end Go.Proofs.YthklmeihgmcljaaDoor.Od
