/- The second reading of some of the program's functions, printed by gen2.py off the code; each is held against the code by the kernel. -/
import Derived.Test.YthldnpmfelniiaaDoorProg
import Derived.Test.YthldnpmfelniiaaDoorzVK0
import Derived.KernelRfl
namespace Go.Proofs.YthldnpmfelniiaaDoor
open Go.RowKit
set_option maxRecDepth 100000
noncomputable def c10 : Code := Tryd.f10.body.getD .skip
def F77 (x0 : Value) (w : World) (R : Value → World → Prop) (E : Pan) : Prop :=
 opK Tryd.prog E (xBin .eql 22 (.tmp 3) (.const (Value.slice none 0 0)) x0 (Value.slice none 0 0)) w fun b3P w_2 =>
 xcond b3P
 (R (Value.slice none 0 0) w_2)
 (opK Tryd.prog E (xV (Instr.buildSlice 22 0 #[])) w_2 fun a7x w_4 =>
 opK Tryd.prog E (xBuiltin .append #[22, 22] 22 [false, false] [a7x, x0]) w_4 fun b3V w_6 =>
 R b3V w_6)
noncomputable def c77 : Code := Tryd.f77.body.getD .skip
def h77 : Hint := (.seq .none (.seq (.seq .none (.cond (.seq .none .none) .none)) (.seq .none .none)))
theorem d6H (x0 : Value) (w : World) (R : Value → World → Prop) (E : Pan) : F77 x0 w R E = callX Tryd.prog [.tmp 2] c77 h77 [x0] w R E := by kernel_rfl
theorem d6I {x0 : Value} {w : World} {R : Value → World → Prop} {E : Pan} (h : F77 x0 w R E) : Cv Tryd.prog 77 #[x0] w R E := by
 refine g5 (args := [x0]) (c := c77) (h := h77) (rs := [.tmp 2]) Tryd.func77 (by kernel_rfl) (by kernel_rfl) (Nat.le_of_ble_eq_true (by kernel_rfl)) (by kernel_rfl) (by kernel_rfl) (by kernel_rfl) ?_
 rw [← d6H]
 exact h
end Go.Proofs.YthldnpmfelniiaaDoor
