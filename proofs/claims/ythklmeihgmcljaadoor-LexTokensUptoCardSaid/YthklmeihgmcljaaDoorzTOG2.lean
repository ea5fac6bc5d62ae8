/- The second reading of some of the program's functions, printed by gen.py off the code; each is held against the code by the kernel. -/
import Derived.Test.YthklmeihgmcljaaDoorProg
import Derived.KernelRfl
import Derived.Test.YthklmeihgmcljaaDoorzTOEY
namespace Go.Proofs.YthklmeihgmcljaaDoor.Od
open Go.RowKit
set_option maxRecDepth 100000
def a1Y (x4 x5 : Value) (ds : List Nat) (w : World) (R : Value → World → Prop) : Prop :=
  opK Tryd.prog (xV (Instr.loadAt 25 x5)) w fun a9d b0q =>
  opK Tryd.prog (xU (Instr.storeAt 25 x4 a9d)) b0q fun _z_19 a6L =>
  closeM ds a6L fun a4X => xcell Tryd.prog 25 x4 a4X fun b0r =>
  R b0r a4X
def F18 (x0 x1 : Value) (w : World) (R : Value → World → Prop) : Prop :=
  opK Tryd.prog (xV (Instr.box 3 x1)) w fun b0s w_3 =>
  opK Tryd.prog (xV (Instr.alloc 25 true (.tuple #[]))) w_3 fun a6M w_5 =>
  opK Tryd.prog (xCall (Value.func (.func 34) #[] #[]) []) w_5 fun b0t w_8 =>
  opK Tryd.prog (xV (Instr.alloc 25 true (.tuple #[]))) w_8 fun a4Y a3N =>
  opK Tryd.prog (xU (Instr.storeAt 25 a4Y b0t)) a3N fun _z_11 a3O =>
  opK Tryd.prog (xCall (Value.func (.func 35) #[] #[]) [x0]) a3O fun a9e a1H =>
  xrange Tryd.prog a9e 2 a1H (fun a9f a7e b0u a9g =>
  opK Tryd.prog (xV (Instr.alloc 25 true (.tuple #[]))) b0u fun a7f b0v =>
  opK Tryd.prog (xU (Instr.storeAt 25 a7f (nth a7e 1))) b0v fun _z_31 a6N =>
  beginY (a1H.heap.size + 1) a9f a6N fun b0w =>
  opK Tryd.prog (xV (Instr.loadAt 3 b0s)) b0w fun a9h a4Z =>
  opK Tryd.prog (xBin .geq 3 (.tmp 13) (.tmp 14) (nth a7e 0) a9h) a4Z fun a9i a5a =>
  xcond a9i
  (a9g (.exit 0) a5a)
  (opK Tryd.prog (xV (Instr.loadAt 25 a7f)) a5a fun a9j b0x =>
  opK Tryd.prog (xU (Instr.storeAt 25 a4Y a9j)) b0x fun _z_42 b0y =>
  a9g .normal b0y))
  (fun b0z => a1Y a6M a4Y (a1H.heap.size :: []) b0z R) (fun b0A => closeM (a1H.heap.size :: []) b0A fun a9k => xcell Tryd.prog 25 a6M a9k fun b0B =>
  R b0B a9k) (fun a9X b0C => (bif Nat.beq a9X 0 then a1Y a6M a4Y (a1H.heap.size :: []) b0C R else False))
noncomputable def c18 : Code := Tryd.f18.body.getD .skip
def h18 : HintY := (.seq .none (.seq .none (.seq (.seq .none (.block (.range (.seq .none .none) (.block (.seq (.seq .none (.cond .none .none)) .none))))) (.seq .none .none))))
set_option maxRecDepth 100000 in
theorem a9l (x0 x1 : Value) (w : World) (R : Value → World → Prop) : F18 x0 x1 w R = callY Tryd.prog [.cell 4 25] c18 h18 [x0, x1] w R := by kernel_rfl
theorem a9m {x0 x1 : Value} {w : World} {R : Value → World → Prop} (h : F18 x0 x1 w R) : Cv Tryd.prog 18 #[x0, x1] w R :=
  a1A (args := [x0, x1]) (c := c18) (h := h18) Tryd.func18 (by kernel_rfl) (Nat.le_of_ble_eq_true (by kernel_rfl)) (by kernel_rfl) (by kernel_rfl) (by kernel_rfl) ((a9l x0 x1 w R).mp h)
def F35 (x0 : Value) (w : World) (R : Value → World → Prop) : Prop :=
  opK Tryd.prog (xV (Instr.box 9 x0)) w fun b0D w_2 =>
  opK Tryd.prog (xV (Instr.makeFunc (.func 54) #[] #[b0D])) w_2 fun b0E w_4 =>
  R b0E w_4
noncomputable def c35 : Code := Tryd.f35.body.getD .skip
def h35 : Hint := (.seq .none (.seq .none .none))
set_option maxRecDepth 100000 in
theorem a9n (x0 : Value) (w : World) (R : Value → World → Prop) : F35 x0 w R = callX Tryd.prog [.tmp 2] c35 h35 [x0] w R := by kernel_rfl
theorem a5B {x0 : Value} {w : World} {R : Value → World → Prop} (h : F35 x0 w R) : Cv Tryd.prog 35 #[x0] w R :=
  R7 (args := [x0]) (c := c35) (h := h35) Tryd.func35 (by kernel_rfl) (Nat.le_of_ble_eq_true (by kernel_rfl)) (by kernel_rfl) (by kernel_rfl) (by kernel_rfl) ((a9n x0 w R).mp h)
def a1S (x0 x3 x8 : Value) (w : World) (next1 : List Value → World → Prop) (R : Value → World → Prop) : Prop :=
  opK Tryd.prog (xV (Instr.next x8 true 0)) w fun a5b a1H =>
  opK Tryd.prog (xV (Instr.extract a5b 0)) a1H fun a9o a9p =>
  xcond a9o
  (opK Tryd.prog (xV (Instr.extract a5b 1)) a9p fun a9q a6L =>
  opK Tryd.prog (xV (Instr.extract a5b 2)) a6L fun a9r b0F =>
  opK Tryd.prog (xV (Instr.loadAt 25 x3)) b0F fun a9s a6I =>
  opK Tryd.prog (xCall (Value.func (.func 55) #[] #[]) [a9s, a9r]) a6I fun a3P a6J =>
  opK Tryd.prog (xU (Instr.storeAt 25 x3 a3P)) a6J fun _z_28 a6K =>
  opK Tryd.prog (xV (Instr.loadAt 25 x3)) a6K fun a9t a6N =>
  opY Tryd.prog (xCall x0 [a9q, a9t]) a6N fun a9u b0G =>
  opK Tryd.prog (xV (Op.unary .not a9u)) b0G fun a9v a4Z =>
  xcond a9v
  (R (Value.tuple #[]) a4Z)
  ((([] : List Nat) = [] ∧ next1 [] a4Z)))
  (R (Value.tuple #[]) a9p)
def F54 (x0 x1 : Value) (w : World) (R : Value → World → Prop) : Prop :=
  opK Tryd.prog (xCall (Value.func (.func 34) #[] #[]) []) w fun b0H w_3 =>
  opK Tryd.prog (xV (Instr.alloc 25 true (.tuple #[]))) w_3 fun a9w w_5 =>
  opK Tryd.prog (xU (Instr.storeAt 25 a9w b0H)) w_5 fun _z_6 w_7 =>
  opK Tryd.prog (xV (Instr.loadAt 9 x1)) w_7 fun b0I a3N =>
  opK Tryd.prog (xV (Instr.range 9 b0I)) a3N fun a9Y a3O =>
  xloop [] [] a3O fun _ a5a next1 =>
  a1S x0 a9w a9Y a5a next1 R
noncomputable def c54 : Code := Tryd.f54.body.getD .skip
def h54 : HintY := (.seq .none (.seq .none (.block (.loop [] (.seq .none (.seq (.cond .none .none) (.block (.seq .none (.seq .none (.seq .none (.cond .none .none)))))))))))
set_option maxRecDepth 100000 in
theorem a9x (x0 x1 : Value) (w : World) (R : Value → World → Prop) : F54 x0 x1 w R = callY Tryd.prog [] c54 h54 [x0, x1] w R := by kernel_rfl
theorem a5G {x0 x1 : Value} {w : World} {R : Value → World → Prop} (h : F54 x0 x1 w R) : Cv Tryd.prog 54 #[x0, x1] w R :=
  a1A (args := [x0, x1]) (c := c54) (h := h54) Tryd.func54 (by kernel_rfl) (Nat.le_of_ble_eq_true (by kernel_rfl)) (by kernel_rfl) (by kernel_rfl) (by kernel_rfl) ((a9x x0 x1 w R).mp h)
end Go.Proofs.YthklmeihgmcljaaDoor.Od
