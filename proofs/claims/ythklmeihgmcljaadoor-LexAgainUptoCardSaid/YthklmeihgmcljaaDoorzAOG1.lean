/- The second reading of some of the program's functions, printed by gen.py off the code; each is held against the code by the kernel. -/
import Derived.Test.YthklmeihgmcljaaDoorProg
import Derived.KernelRfl
import Derived.Test.YthklmeihgmcljaaDoorzAOE0
namespace Go.Proofs.YthklmeihgmcljaaDoor.Od
open Go.RowKit
set_option maxRecDepth 100000
def F34 (w : World) (R : Value → World → Prop) : Prop :=
  opK Tryd.prog (xV (Instr.alloc 25 true (.tuple #[]))) w fun a6c w_2 =>
  opK Tryd.prog (xV (Instr.build 25 #[(0, (Value.int .i64 1)), (1, (Value.int .i64 1))])) w_2 fun a7m w_4 =>
  opK Tryd.prog (xU (Instr.storeAt 25 a6c a7m)) w_4 fun _z_5 w_6 =>
  xcell Tryd.prog 25 a6c w_6 fun r_7 =>
  R r_7 w_6
noncomputable def c34 : Code := Tryd.f34.body.getD .skip
def h34 : Hint := (.seq .none (.seq .none .none))
set_option maxRecDepth 100000 in
theorem a6d (w : World) (R : Value → World → Prop) : F34  w R = callX Tryd.prog [.cell 0 25] c34 h34 [] w R := by kernel_rfl
theorem a3g {w : World} {R : Value → World → Prop} (h : F34  w R) : Cv Tryd.prog 34 #[] w R :=
  K8 (args := []) (c := c34) (h := h34) Tryd.func34 (by kernel_rfl) (Nat.le_of_ble_eq_true (by kernel_rfl)) (by kernel_rfl) (by kernel_rfl) (by kernel_rfl) ((a6d  w R).mp h)
def F55 (x0 x1 : Value) (w : World) (R : Value → World → Prop) : Prop :=
  opK Tryd.prog (xV (Instr.box 25 x0)) w fun a4e w_2 =>
  opK Tryd.prog (xV (Instr.alloc 25 true (.tuple #[]))) w_2 fun a2J w_4 =>
  opK Tryd.prog (xBin .eql 21 (.tmp 5) (.const (Value.int .i32 10)) x1 (Value.int .i32 10)) w_4 fun a7n w_6 =>
  xcond a7n
  (opK Tryd.prog (xV (Instr.fieldAt 25 a4e 0)) w_6 fun a7o w_8 =>
  opK Tryd.prog (xV (Instr.loadAt 3 a7o)) w_8 fun a7p a1v =>
  opK Tryd.prog (xBin .add 3 (.tmp 8) (.const (Value.int .i64 1)) a7p (Value.int .i64 1)) a1v fun a7d a1w =>
  opK Tryd.prog (xV (Instr.build 25 #[(0, a7d), (1, (Value.int .i64 1))])) a1w fun a6e a7q =>
  opK Tryd.prog (xU (Instr.storeAt 25 a2J a6e)) a7q fun _z_15 a6f =>
  xcell Tryd.prog 25 a2J a6f fun a7r =>
  R a7r a6f)
  (opK Tryd.prog (xV (Instr.fieldAt 25 a4e 0)) w_6 fun a6g a7s =>
  opK Tryd.prog (xV (Instr.loadAt 3 a6g)) a7s fun a6h a2K =>
  opK Tryd.prog (xV (Instr.fieldAt 25 a4e 1)) a2K fun a6i a7t =>
  opK Tryd.prog (xV (Instr.loadAt 3 a6i)) a7t fun a6j a4f =>
  opK Tryd.prog (xBin .add 3 (.tmp 14) (.const (Value.int .i64 1)) a6j (Value.int .i64 1)) a4f fun a1x a4g =>
  opK Tryd.prog (xV (Instr.build 25 #[(0, a6h), (1, a1x)])) a4g fun a6k a4h =>
  opK Tryd.prog (xU (Instr.storeAt 25 a2J a6k)) a4h fun _z_30 a6l =>
  xcell Tryd.prog 25 a2J a6l fun a7u =>
  R a7u a6l)
noncomputable def c55 : Code := Tryd.f55.body.getD .skip
def h55 : Hint := (.seq .none (.seq (.seq .none (.cond (.seq .none .none) .none)) (.seq .none .none)))
set_option maxRecDepth 100000 in
theorem a6m (x0 x1 : Value) (w : World) (R : Value → World → Prop) : F55 x0 x1 w R = callX Tryd.prog [.cell 4 25] c55 h55 [x0, x1] w R := by kernel_rfl
theorem a3l {x0 x1 : Value} {w : World} {R : Value → World → Prop} (h : F55 x0 x1 w R) : Cv Tryd.prog 55 #[x0, x1] w R :=
  K8 (args := [x0, x1]) (c := c55) (h := h55) Tryd.func55 (by kernel_rfl) (Nat.le_of_ble_eq_true (by kernel_rfl)) (by kernel_rfl) (by kernel_rfl) (by kernel_rfl) ((a6m x0 x1 w R).mp h)
end Go.Proofs.YthklmeihgmcljaaDoor.Od
