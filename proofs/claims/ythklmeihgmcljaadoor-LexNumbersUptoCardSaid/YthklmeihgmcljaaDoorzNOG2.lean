/- The second reading of some of the program's functions, printed by gen.py off the code; each is held against the code by the kernel. -/
import Derived.Test.YthklmeihgmcljaaDoorProg
import Derived.KernelRfl
import Derived.Test.YthklmeihgmcljaaDoorzNOEY
namespace Go.Proofs.YthklmeihgmcljaaDoor.Od
open Go.RowKit
set_option maxRecDepth 100000
def Y6 (x4 x5 : Value) (ds : List Nat) (w : World) (R : Value → World → Prop) : Prop :=
  opK Tryd.prog (xV (Instr.loadAt 25 x5)) w fun a5P a7f =>
  opK Tryd.prog (xU (Instr.storeAt 25 x4 a5P)) a7f fun _z_19 a3N =>
  closeM ds a3N fun a2k => xcell Tryd.prog 25 x4 a2k fun a7g =>
  R a7g a2k
def F18 (x0 x1 : Value) (w : World) (R : Value → World → Prop) : Prop :=
  opK Tryd.prog (xV (Instr.box 3 x1)) w fun a7h w_3 =>
  opK Tryd.prog (xV (Instr.alloc 25 true (.tuple #[]))) w_3 fun a3O w_5 =>
  opK Tryd.prog (xCall (Value.func (.func 34) #[] #[]) []) w_5 fun a7i w_8 =>
  opK Tryd.prog (xV (Instr.alloc 25 true (.tuple #[]))) w_8 fun a2l a1h =>
  opK Tryd.prog (xU (Instr.storeAt 25 a2l a7i)) a1h fun _z_11 a1i =>
  opK Tryd.prog (xCall (Value.func (.func 35) #[] #[]) [x0]) a1i fun a5Q W8 =>
  xrange Tryd.prog a5Q 2 W8 (fun a5R a4h a7j a5S =>
  opK Tryd.prog (xV (Instr.alloc 25 true (.tuple #[]))) a7j fun a4i a7k =>
  opK Tryd.prog (xU (Instr.storeAt 25 a4i (nth a4h 1))) a7k fun _z_31 a3P =>
  beginY (W8.heap.size + 1) a5R a3P fun a7l =>
  opK Tryd.prog (xV (Instr.loadAt 3 a7h)) a7l fun a5T a2m =>
  opK Tryd.prog (xBin .geq 3 (.tmp 13) (.tmp 14) (nth a4h 0) a5T) a2m fun a5U a2n =>
  xcond a5U
  (a5S (.exit 0) a2n)
  (opK Tryd.prog (xV (Instr.loadAt 25 a4i)) a2n fun a5V a7m =>
  opK Tryd.prog (xU (Instr.storeAt 25 a2l a5V)) a7m fun _z_42 a7n =>
  a5S .normal a7n))
  (fun a7o => Y6 a3O a2l (W8.heap.size :: []) a7o R) (fun a7p => closeM (W8.heap.size :: []) a7p fun a5W => xcell Tryd.prog 25 a3O a5W fun a7q =>
  R a7q a5W) (fun a6M a7r => (bif Nat.beq a6M 0 then Y6 a3O a2l (W8.heap.size :: []) a7r R else False))
noncomputable def c18 : Code := Tryd.f18.body.getD .skip
def h18 : HintY := (.seq .none (.seq .none (.seq (.seq .none (.block (.range (.seq .none .none) (.block (.seq (.seq .none (.cond .none .none)) .none))))) (.seq .none .none))))
set_option maxRecDepth 100000 in
theorem a5X (x0 x1 : Value) (w : World) (R : Value → World → Prop) : F18 x0 x1 w R = callY Tryd.prog [.cell 4 25] c18 h18 [x0, x1] w R := by kernel_rfl
theorem a5Y {x0 x1 : Value} {w : World} {R : Value → World → Prop} (h : F18 x0 x1 w R) : Cv Tryd.prog 18 #[x0, x1] w R :=
  V9 (args := [x0, x1]) (c := c18) (h := h18) Tryd.func18 (by kernel_rfl) (Nat.le_of_ble_eq_true (by kernel_rfl)) (by kernel_rfl) (by kernel_rfl) (by kernel_rfl) ((a5X x0 x1 w R).mp h)
def F35 (x0 : Value) (w : World) (R : Value → World → Prop) : Prop :=
  opK Tryd.prog (xV (Instr.box 9 x0)) w fun a7s w_2 =>
  opK Tryd.prog (xV (Instr.makeFunc (.func 54) #[] #[a7s])) w_2 fun a7t w_4 =>
  R a7t w_4
noncomputable def c35 : Code := Tryd.f35.body.getD .skip
def h35 : Hint := (.seq .none (.seq .none .none))
set_option maxRecDepth 100000 in
theorem a5Z (x0 : Value) (w : World) (R : Value → World → Prop) : F35 x0 w R = callX Tryd.prog [.tmp 2] c35 h35 [x0] w R := by kernel_rfl
theorem a2K {x0 : Value} {w : World} {R : Value → World → Prop} (h : F35 x0 w R) : Cv Tryd.prog 35 #[x0] w R :=
  H5 (args := [x0]) (c := c35) (h := h35) Tryd.func35 (by kernel_rfl) (Nat.le_of_ble_eq_true (by kernel_rfl)) (by kernel_rfl) (by kernel_rfl) (by kernel_rfl) ((a5Z x0 w R).mp h)
def Y0 (x0 x3 x8 : Value) (w : World) (next1 : List Value → World → Prop) (R : Value → World → Prop) : Prop :=
  opK Tryd.prog (xV (Instr.next x8 true 0)) w fun a2o W8 =>
  opK Tryd.prog (xV (Instr.extract a2o 0)) W8 fun a6a a6b =>
  xcond a6a
  (opK Tryd.prog (xV (Instr.extract a2o 1)) a6b fun a6c a3N =>
  opK Tryd.prog (xV (Instr.extract a2o 2)) a3N fun a6d a7u =>
  opK Tryd.prog (xV (Instr.loadAt 25 x3)) a7u fun a6e a3K =>
  opK Tryd.prog (xCall (Value.func (.func 55) #[] #[]) [a6e, a6d]) a3K fun a1j a3L =>
  opK Tryd.prog (xU (Instr.storeAt 25 x3 a1j)) a3L fun _z_28 a3M =>
  opK Tryd.prog (xV (Instr.loadAt 25 x3)) a3M fun a6f a3P =>
  opY Tryd.prog (xCall x0 [a6c, a6f]) a3P fun a6g a7v =>
  opK Tryd.prog (xV (Op.unary .not a6g)) a7v fun a6h a2m =>
  xcond a6h
  (R (Value.tuple #[]) a2m)
  ((([] : List Nat) = [] ∧ next1 [] a2m)))
  (R (Value.tuple #[]) a6b)
def F54 (x0 x1 : Value) (w : World) (R : Value → World → Prop) : Prop :=
  opK Tryd.prog (xCall (Value.func (.func 34) #[] #[]) []) w fun a7w w_3 =>
  opK Tryd.prog (xV (Instr.alloc 25 true (.tuple #[]))) w_3 fun a6i w_5 =>
  opK Tryd.prog (xU (Instr.storeAt 25 a6i a7w)) w_5 fun _z_6 w_7 =>
  opK Tryd.prog (xV (Instr.loadAt 9 x1)) w_7 fun a7x a1h =>
  opK Tryd.prog (xV (Instr.range 9 a7x)) a1h fun a6N a1i =>
  xloop [] [] a1i fun _ a2n next1 =>
  Y0 x0 a6i a6N a2n next1 R
noncomputable def c54 : Code := Tryd.f54.body.getD .skip
def h54 : HintY := (.seq .none (.seq .none (.block (.loop [] (.seq .none (.seq (.cond .none .none) (.block (.seq .none (.seq .none (.seq .none (.cond .none .none)))))))))))
set_option maxRecDepth 100000 in
theorem a6j (x0 x1 : Value) (w : World) (R : Value → World → Prop) : F54 x0 x1 w R = callY Tryd.prog [] c54 h54 [x0, x1] w R := by kernel_rfl
theorem a2N {x0 x1 : Value} {w : World} {R : Value → World → Prop} (h : F54 x0 x1 w R) : Cv Tryd.prog 54 #[x0, x1] w R :=
  V9 (args := [x0, x1]) (c := c54) (h := h54) Tryd.func54 (by kernel_rfl) (Nat.le_of_ble_eq_true (by kernel_rfl)) (by kernel_rfl) (by kernel_rfl) (by kernel_rfl) ((a6j x0 x1 w R).mp h)
end Go.Proofs.YthklmeihgmcljaaDoor.Od
