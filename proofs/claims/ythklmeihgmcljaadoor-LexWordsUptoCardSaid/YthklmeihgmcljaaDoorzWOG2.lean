/- The second reading of some of the program's functions, printed by gen.py off the code; each is held against the code by the kernel. -/
import Derived.Test.YthklmeihgmcljaaDoorProg
import Derived.KernelRfl
import Derived.Test.YthklmeihgmcljaaDoorzWOEY
namespace Go.Proofs.YthklmeihgmcljaaDoor.Od
open Go.RowKit
set_option maxRecDepth 100000
def a0w (x4 x5 : Value) (ds : List Nat) (w : World) (R : Value → World → Prop) : Prop :=
  opK Tryd.prog (xV (Instr.loadAt 25 x5)) w fun a7b a8q =>
  opK Tryd.prog (xU (Instr.storeAt 25 x4 a7b)) a8q fun _z_19 a4Q =>
  closeM ds a4Q fun a3j => xcell Tryd.prog 25 x4 a3j fun a8r =>
  R a8r a3j
def F18 (x0 x1 : Value) (w : World) (R : Value → World → Prop) : Prop :=
  opK Tryd.prog (xV (Instr.box 3 x1)) w fun a8s w_3 =>
  opK Tryd.prog (xV (Instr.alloc 25 true (.tuple #[]))) w_3 fun a4R w_5 =>
  opK Tryd.prog (xCall (Value.func (.func 34) #[] #[]) []) w_5 fun a8t w_8 =>
  opK Tryd.prog (xV (Instr.alloc 25 true (.tuple #[]))) w_8 fun a3k a2c =>
  opK Tryd.prog (xU (Instr.storeAt 25 a3k a8t)) a2c fun _z_11 a2d =>
  opK Tryd.prog (xCall (Value.func (.func 35) #[] #[]) [x0]) a2d fun a7c a0d =>
  xrange Tryd.prog a7c 2 a0d (fun a7d a5l a8u a7e =>
  opK Tryd.prog (xV (Instr.alloc 25 true (.tuple #[]))) a8u fun a5m a8v =>
  opK Tryd.prog (xU (Instr.storeAt 25 a5m (nth a5l 1))) a8v fun _z_31 a4S =>
  beginY (a0d.heap.size + 1) a7d a4S fun a8w =>
  opK Tryd.prog (xV (Instr.loadAt 3 a8s)) a8w fun a7f a3l =>
  opK Tryd.prog (xBin .geq 3 (.tmp 13) (.tmp 14) (nth a5l 0) a7f) a3l fun a7g a3m =>
  xcond a7g
  (a7e (.exit 0) a3m)
  (opK Tryd.prog (xV (Instr.loadAt 25 a5m)) a3m fun a7h a8x =>
  opK Tryd.prog (xU (Instr.storeAt 25 a3k a7h)) a8x fun _z_42 a8y =>
  a7e .normal a8y))
  (fun a8z => a0w a4R a3k (a0d.heap.size :: []) a8z R) (fun a8A => closeM (a0d.heap.size :: []) a8A fun a7i => xcell Tryd.prog 25 a4R a7i fun a8B =>
  R a8B a7i) (fun a7X a8C => (bif Nat.beq a7X 0 then a0w a4R a3k (a0d.heap.size :: []) a8C R else False))
noncomputable def c18 : Code := Tryd.f18.body.getD .skip
def h18 : HintY := (.seq .none (.seq .none (.seq (.seq .none (.block (.range (.seq .none .none) (.block (.seq (.seq .none (.cond .none .none)) .none))))) (.seq .none .none))))
set_option maxRecDepth 100000 in
theorem a7j (x0 x1 : Value) (w : World) (R : Value → World → Prop) : F18 x0 x1 w R = callY Tryd.prog [.cell 4 25] c18 h18 [x0, x1] w R := by kernel_rfl
theorem a7k {x0 x1 : Value} {w : World} {R : Value → World → Prop} (h : F18 x0 x1 w R) : Cv Tryd.prog 18 #[x0, x1] w R :=
  Z2 (args := [x0, x1]) (c := c18) (h := h18) Tryd.func18 (by kernel_rfl) (Nat.le_of_ble_eq_true (by kernel_rfl)) (by kernel_rfl) (by kernel_rfl) (by kernel_rfl) ((a7j x0 x1 w R).mp h)
def F35 (x0 : Value) (w : World) (R : Value → World → Prop) : Prop :=
  opK Tryd.prog (xV (Instr.box 9 x0)) w fun a8D w_2 =>
  opK Tryd.prog (xV (Instr.makeFunc (.func 54) #[] #[a8D])) w_2 fun a8E w_4 =>
  R a8E w_4
noncomputable def c35 : Code := Tryd.f35.body.getD .skip
def h35 : Hint := (.seq .none (.seq .none .none))
set_option maxRecDepth 100000 in
theorem a7l (x0 : Value) (w : World) (R : Value → World → Prop) : F35 x0 w R = callX Tryd.prog [.tmp 2] c35 h35 [x0] w R := by kernel_rfl
theorem a3J {x0 : Value} {w : World} {R : Value → World → Prop} (h : F35 x0 w R) : Cv Tryd.prog 35 #[x0] w R :=
  L8 (args := [x0]) (c := c35) (h := h35) Tryd.func35 (by kernel_rfl) (Nat.le_of_ble_eq_true (by kernel_rfl)) (by kernel_rfl) (by kernel_rfl) (by kernel_rfl) ((a7l x0 w R).mp h)
def a0o (x0 x3 x8 : Value) (w : World) (next1 : List Value → World → Prop) (R : Value → World → Prop) : Prop :=
  opK Tryd.prog (xV (Instr.next x8 true 0)) w fun a3n a0d =>
  opK Tryd.prog (xV (Instr.extract a3n 0)) a0d fun a7m a7n =>
  xcond a7m
  (opK Tryd.prog (xV (Instr.extract a3n 1)) a7n fun a7o a4Q =>
  opK Tryd.prog (xV (Instr.extract a3n 2)) a4Q fun a7p a8F =>
  opK Tryd.prog (xV (Instr.loadAt 25 x3)) a8F fun a7q a4N =>
  opK Tryd.prog (xCall (Value.func (.func 55) #[] #[]) [a7q, a7p]) a4N fun a2e a4O =>
  opK Tryd.prog (xU (Instr.storeAt 25 x3 a2e)) a4O fun _z_28 a4P =>
  opK Tryd.prog (xV (Instr.loadAt 25 x3)) a4P fun a7r a4S =>
  opY Tryd.prog (xCall x0 [a7o, a7r]) a4S fun a7s a8G =>
  opK Tryd.prog (xV (Op.unary .not a7s)) a8G fun a7t a3l =>
  xcond a7t
  (R (Value.tuple #[]) a3l)
  ((([] : List Nat) = [] ∧ next1 [] a3l)))
  (R (Value.tuple #[]) a7n)
def F54 (x0 x1 : Value) (w : World) (R : Value → World → Prop) : Prop :=
  opK Tryd.prog (xCall (Value.func (.func 34) #[] #[]) []) w fun a8H w_3 =>
  opK Tryd.prog (xV (Instr.alloc 25 true (.tuple #[]))) w_3 fun a7u w_5 =>
  opK Tryd.prog (xU (Instr.storeAt 25 a7u a8H)) w_5 fun _z_6 w_7 =>
  opK Tryd.prog (xV (Instr.loadAt 9 x1)) w_7 fun a8I a2c =>
  opK Tryd.prog (xV (Instr.range 9 a8I)) a2c fun a7Y a2d =>
  xloop [] [] a2d fun _ a3m next1 =>
  a0o x0 a7u a7Y a3m next1 R
noncomputable def c54 : Code := Tryd.f54.body.getD .skip
def h54 : HintY := (.seq .none (.seq .none (.block (.loop [] (.seq .none (.seq (.cond .none .none) (.block (.seq .none (.seq .none (.seq .none (.cond .none .none)))))))))))
set_option maxRecDepth 100000 in
theorem a7v (x0 x1 : Value) (w : World) (R : Value → World → Prop) : F54 x0 x1 w R = callY Tryd.prog [] c54 h54 [x0, x1] w R := by kernel_rfl
theorem a3M {x0 x1 : Value} {w : World} {R : Value → World → Prop} (h : F54 x0 x1 w R) : Cv Tryd.prog 54 #[x0, x1] w R :=
  Z2 (args := [x0, x1]) (c := c54) (h := h54) Tryd.func54 (by kernel_rfl) (Nat.le_of_ble_eq_true (by kernel_rfl)) (by kernel_rfl) (by kernel_rfl) (by kernel_rfl) ((a7v x0 x1 w R).mp h)
end Go.Proofs.YthklmeihgmcljaaDoor.Od
