/- The second reading of some of the program's functions, printed by gen.py off the code; each is held against the code by the kernel. -/
import Derived.Test.YthklmeihgmcljaaDoorProg
import Derived.KernelRfl
import Derived.Test.YthklmeihgmcljaaDoorzNOE0
namespace Go.Proofs.YthklmeihgmcljaaDoor.Od
open Go.RowKit
set_option maxRecDepth 100000
def F34 (w : World) (R : Value → World → Prop) : Prop :=
  opK Tryd.prog (xV (Instr.alloc 25 true (.tuple #[]))) w fun a5E w_2 =>
  opK Tryd.prog (xV (Instr.build 25 #[(0, (Value.int .i64 1)), (1, (Value.int .i64 1))])) w_2 fun a6W w_4 =>
  opK Tryd.prog (xU (Instr.storeAt 25 a5E a6W)) w_4 fun _z_5 w_6 =>
  xcell Tryd.prog 25 a5E w_6 fun r_7 =>
  R r_7 w_6
noncomputable def c34 : Code := Tryd.f34.body.getD .skip
def h34 : Hint := (.seq .none (.seq .none .none))
set_option maxRecDepth 100000 in
theorem a5F (w : World) (R : Value → World → Prop) : F34  w R = callX Tryd.prog [.cell 0 25] c34 h34 [] w R := by kernel_rfl
theorem a2J {w : World} {R : Value → World → Prop} (h : F34  w R) : Cv Tryd.prog 34 #[] w R :=
  H5 (args := []) (c := c34) (h := h34) Tryd.func34 (by kernel_rfl) (Nat.le_of_ble_eq_true (by kernel_rfl)) (by kernel_rfl) (by kernel_rfl) (by kernel_rfl) ((a5F  w R).mp h)
def F55 (x0 x1 : Value) (w : World) (R : Value → World → Prop) : Prop :=
  opK Tryd.prog (xV (Instr.box 25 x0)) w fun a3J w_2 =>
  opK Tryd.prog (xV (Instr.alloc 25 true (.tuple #[]))) w_2 fun a2j w_4 =>
  opK Tryd.prog (xBin .eql 21 (.tmp 5) (.const (Value.int .i32 10)) x1 (Value.int .i32 10)) w_4 fun a6X w_6 =>
  xcond a6X
  (opK Tryd.prog (xV (Instr.fieldAt 25 a3J 0)) w_6 fun a6Y w_8 =>
  opK Tryd.prog (xV (Instr.loadAt 3 a6Y)) w_8 fun a6Z a1h =>
  opK Tryd.prog (xBin .add 3 (.tmp 8) (.const (Value.int .i64 1)) a6Z (Value.int .i64 1)) a1h fun a6L a1i =>
  opK Tryd.prog (xV (Instr.build 25 #[(0, a6L), (1, (Value.int .i64 1))])) a1i fun a5G a7a =>
  opK Tryd.prog (xU (Instr.storeAt 25 a2j a5G)) a7a fun _z_15 a5H =>
  xcell Tryd.prog 25 a2j a5H fun a7b =>
  R a7b a5H)
  (opK Tryd.prog (xV (Instr.fieldAt 25 a3J 0)) w_6 fun a5I a7c =>
  opK Tryd.prog (xV (Instr.loadAt 3 a5I)) a7c fun a5J a2k =>
  opK Tryd.prog (xV (Instr.fieldAt 25 a3J 1)) a2k fun a5K a7d =>
  opK Tryd.prog (xV (Instr.loadAt 3 a5K)) a7d fun a5L a3K =>
  opK Tryd.prog (xBin .add 3 (.tmp 14) (.const (Value.int .i64 1)) a5L (Value.int .i64 1)) a3K fun a1j a3L =>
  opK Tryd.prog (xV (Instr.build 25 #[(0, a5J), (1, a1j)])) a3L fun a5M a3M =>
  opK Tryd.prog (xU (Instr.storeAt 25 a2j a5M)) a3M fun _z_30 a5N =>
  xcell Tryd.prog 25 a2j a5N fun a7e =>
  R a7e a5N)
noncomputable def c55 : Code := Tryd.f55.body.getD .skip
def h55 : Hint := (.seq .none (.seq (.seq .none (.cond (.seq .none .none) .none)) (.seq .none .none)))
set_option maxRecDepth 100000 in
theorem a5O (x0 x1 : Value) (w : World) (R : Value → World → Prop) : F55 x0 x1 w R = callX Tryd.prog [.cell 4 25] c55 h55 [x0, x1] w R := by kernel_rfl
theorem a2O {x0 x1 : Value} {w : World} {R : Value → World → Prop} (h : F55 x0 x1 w R) : Cv Tryd.prog 55 #[x0, x1] w R :=
  H5 (args := [x0, x1]) (c := c55) (h := h55) Tryd.func55 (by kernel_rfl) (Nat.le_of_ble_eq_true (by kernel_rfl)) (by kernel_rfl) (by kernel_rfl) (by kernel_rfl) ((a5O x0 x1 w R).mp h)
end Go.Proofs.YthklmeihgmcljaaDoor.Od
