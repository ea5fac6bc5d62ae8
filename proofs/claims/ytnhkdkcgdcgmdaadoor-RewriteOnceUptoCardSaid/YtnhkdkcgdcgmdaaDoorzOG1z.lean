/- The second reading of some of the program's functions, printed by gen2.py off the code; each is held against the code by the kernel. -/
import Derived.Test.YtnhkdkcgdcgmdaaDoorProg
import Derived.Test.YtnhkdkcgdcgmdaaDoorzOK0
import Derived.KernelRfl
import Derived.Test.YtnhkdkcgdcgmdaaDoorzOGz
namespace Go.Proofs.YtnhkdkcgdcgmdaaDoor
open Go.RowKit
set_option maxRecDepth 100000
variable {w : World} {R : RT} {E : Pan}
def F41 (x0 : Value) (w : World) (R : RT) (E : Pan) : Prop :=
 oP E (xV (Instr.box 27 x0)) w fun o5 w_2 =>
 oP E (lA 27 o5) w_2 fun S7 w_4 =>
 oP E (xV (Instr.build 138 #[(0, S7)])) w_4 fun a3j w_6 =>
 oP E (xV (Instr.makeInterface 138 a3j)) w_6 fun a6d w_8 =>
 oP E (xV (Instr.buildSlice 124 1 #[(0, a6d)])) w_8 fun a9O o7 =>
 oP E (xCall (fC 60) [a9O]) o7 fun S5 o4 =>
 oP E (xNil S5) o4 fun b6d o8 =>
 oP E (fA 106 b6d 2) o8 fun d2t s6 =>
 oP E (lA 29 d2t) s6 fun b1X v7 =>
 R b1X v7
noncomputable def c41 : Code := Tryd.f41.body.getD .skip
def h41 : Hint := (sQ (sQ .none))
theorem f4c (x0 : Value) (w : World) (R : RT) (E : Pan) : F41 x0 w R E = callX Tryd.prog [.tmp 2] c41 h41 [x0] w R E := by kernel_rfl
theorem f4d {x0 : Value} (h : F41 x0 w R E) : Cv Tryd.prog 41 #[x0] w R E := by
 refine f8 (args := [x0]) (c := c41) (h := h41) (rs := [.tmp 2]) Tryd.func41 (by kernel_rfl) (by kernel_rfl) (nB (by kernel_rfl)) (by kernel_rfl) (by kernel_rfl) (by kernel_rfl) ?_
 rw [← f4c]
 exact h
end Go.Proofs.YtnhkdkcgdcgmdaaDoor
