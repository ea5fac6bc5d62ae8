/- The second reading of some of the program's functions, printed by gen.py off the code; each is held against the code by the kernel. -/
import Derived.Test.YthklmeihgmcljaaDoorProg
import Derived.KernelRfl
import Derived.Test.YthklmeihgmcljaaDoorzLOE0
namespace Go.Proofs.YthklmeihgmcljaaDoor.Od
open Go.RowKit
set_option maxRecDepth 100000
def F34 (w : World) (R : Value → World → Prop) : Prop :=
  opK Tryd.prog (xV (Instr.alloc 25 true (.tuple #[]))) w fun a5J w_2 =>
  opK Tryd.prog (xV (Instr.build 25 #[(0, (Value.int .i64 1)), (1, (Value.int .i64 1))])) w_2 fun a7a w_4 =>
  opK Tryd.prog (xU (Instr.storeAt 25 a5J a7a)) w_4 fun _z_5 w_6 =>
  xcell Tryd.prog 25 a5J w_6 fun r_7 =>
  R r_7 w_6
noncomputable def c34 : Code := Tryd.f34.body.getD .skip
def h34 : Hint := (.seq .none (.seq .none .none))
set_option maxRecDepth 100000 in
theorem a5K (w : World) (R : Value → World → Prop) : F34  w R = callX Tryd.prog [.cell 0 25] c34 h34 [] w R := by kernel_rfl
theorem a2O {w : World} {R : Value → World → Prop} (h : F34  w R) : Cv Tryd.prog 34 #[] w R :=
  J5 (args := []) (c := c34) (h := h34) Tryd.func34 (by kernel_rfl) (Nat.le_of_ble_eq_true (by kernel_rfl)) (by kernel_rfl) (by kernel_rfl) (by kernel_rfl) ((a5K  w R).mp h)
def F55 (x0 x1 : Value) (w : World) (R : Value → World → Prop) : Prop :=
  opK Tryd.prog (xV (Instr.box 25 x0)) w fun a3Q w_2 =>
  opK Tryd.prog (xV (Instr.alloc 25 true (.tuple #[]))) w_2 fun a2q w_4 =>
  opK Tryd.prog (xBin .eql 21 (.tmp 5) (.const (Value.int .i32 10)) x1 (Value.int .i32 10)) w_4 fun a7b w_6 =>
  xcond a7b
  (opK Tryd.prog (xV (Instr.fieldAt 25 a3Q 0)) w_6 fun a7c w_8 =>
  opK Tryd.prog (xV (Instr.loadAt 3 a7c)) w_8 fun a7d a1p =>
  opK Tryd.prog (xBin .add 3 (.tmp 8) (.const (Value.int .i64 1)) a7d (Value.int .i64 1)) a1p fun a6P a1q =>
  opK Tryd.prog (xV (Instr.build 25 #[(0, a6P), (1, (Value.int .i64 1))])) a1q fun a5L a7e =>
  opK Tryd.prog (xU (Instr.storeAt 25 a2q a5L)) a7e fun _z_15 a5M =>
  xcell Tryd.prog 25 a2q a5M fun a7f =>
  R a7f a5M)
  (opK Tryd.prog (xV (Instr.fieldAt 25 a3Q 0)) w_6 fun a5N a7g =>
  opK Tryd.prog (xV (Instr.loadAt 3 a5N)) a7g fun a5O a2r =>
  opK Tryd.prog (xV (Instr.fieldAt 25 a3Q 1)) a2r fun a5P a7h =>
  opK Tryd.prog (xV (Instr.loadAt 3 a5P)) a7h fun a5Q a3R =>
  opK Tryd.prog (xBin .add 3 (.tmp 14) (.const (Value.int .i64 1)) a5Q (Value.int .i64 1)) a3R fun a1r a3S =>
  opK Tryd.prog (xV (Instr.build 25 #[(0, a5O), (1, a1r)])) a3S fun a5R a3T =>
  opK Tryd.prog (xU (Instr.storeAt 25 a2q a5R)) a3T fun _z_30 a5S =>
  xcell Tryd.prog 25 a2q a5S fun a7i =>
  R a7i a5S)
noncomputable def c55 : Code := Tryd.f55.body.getD .skip
def h55 : Hint := (.seq .none (.seq (.seq .none (.cond (.seq .none .none) .none)) (.seq .none .none)))
set_option maxRecDepth 100000 in
theorem a5T (x0 x1 : Value) (w : World) (R : Value → World → Prop) : F55 x0 x1 w R = callX Tryd.prog [.cell 4 25] c55 h55 [x0, x1] w R := by kernel_rfl
theorem a2T {x0 x1 : Value} {w : World} {R : Value → World → Prop} (h : F55 x0 x1 w R) : Cv Tryd.prog 55 #[x0, x1] w R :=
  J5 (args := [x0, x1]) (c := c55) (h := h55) Tryd.func55 (by kernel_rfl) (Nat.le_of_ble_eq_true (by kernel_rfl)) (by kernel_rfl) (by kernel_rfl) (by kernel_rfl) ((a5T x0 x1 w R).mp h)
end Go.Proofs.YthklmeihgmcljaaDoor.Od
