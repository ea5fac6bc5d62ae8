/- The second reading of some of the program's functions, printed by gen.py off the code; each is held against the code by the kernel. -/
import Derived.Test.YthklmeihgmcljaaDoorProg
import Derived.KernelRfl
import Derived.Test.YthklmeihgmcljaaDoorzAOEY
namespace Go.Proofs.YthklmeihgmcljaaDoor.Od
open Go.RowKit
set_option maxRecDepth 100000
def a0i (x4 x5 : Value) (ds : List Nat) (w : World) (R : Value → World → Prop) : Prop :=
  opK Tryd.prog (xV (Instr.loadAt 25 x5)) w fun a6n a7v =>
  opK Tryd.prog (xU (Instr.storeAt 25 x4 a6n)) a7v fun _z_19 a4i =>
  closeM ds a4i fun a2K => xcell Tryd.prog 25 x4 a2K fun a7w =>
  R a7w a2K
def F18 (x0 x1 : Value) (w : World) (R : Value → World → Prop) : Prop :=
  opK Tryd.prog (xV (Instr.box 3 x1)) w fun a7x w_3 =>
  opK Tryd.prog (xV (Instr.alloc 25 true (.tuple #[]))) w_3 fun a4j w_5 =>
  opK Tryd.prog (xCall (Value.func (.func 34) #[] #[]) []) w_5 fun a7y w_8 =>
  opK Tryd.prog (xV (Instr.alloc 25 true (.tuple #[]))) w_8 fun a2L a1v =>
  opK Tryd.prog (xU (Instr.storeAt 25 a2L a7y)) a1v fun _z_11 a1w =>
  opK Tryd.prog (xCall (Value.func (.func 35) #[] #[]) [x0]) a1w fun a6o Y9 =>
  xrange Tryd.prog a6o 2 Y9 (fun a6p a4H a7z a6q =>
  opK Tryd.prog (xV (Instr.alloc 25 true (.tuple #[]))) a7z fun a4I a7A =>
  opK Tryd.prog (xU (Instr.storeAt 25 a4I (nth a4H 1))) a7A fun _z_31 a4k =>
  beginY (Y9.heap.size + 1) a6p a4k fun a7B =>
  opK Tryd.prog (xV (Instr.loadAt 3 a7x)) a7B fun a6r a2M =>
  opK Tryd.prog (xBin .geq 3 (.tmp 13) (.tmp 14) (nth a4H 0) a6r) a2M fun a6s a2N =>
  xcond a6s
  (a6q (.exit 0) a2N)
  (opK Tryd.prog (xV (Instr.loadAt 25 a4I)) a2N fun a6t a7C =>
  opK Tryd.prog (xU (Instr.storeAt 25 a2L a6t)) a7C fun _z_42 a7D =>
  a6q .normal a7D))
  (fun a7E => a0i a4j a2L (Y9.heap.size :: []) a7E R) (fun a7F => closeM (Y9.heap.size :: []) a7F fun a6u => xcell Tryd.prog 25 a4j a6u fun a7G =>
  R a7G a6u) (fun a7e a7H => (bif Nat.beq a7e 0 then a0i a4j a2L (Y9.heap.size :: []) a7H R else False))
noncomputable def c18 : Code := Tryd.f18.body.getD .skip
def h18 : HintY := (.seq .none (.seq .none (.seq (.seq .none (.block (.range (.seq .none .none) (.block (.seq (.seq .none (.cond .none .none)) .none))))) (.seq .none .none))))
set_option maxRecDepth 100000 in
theorem a6v (x0 x1 : Value) (w : World) (R : Value → World → Prop) : F18 x0 x1 w R = callY Tryd.prog [.cell 4 25] c18 h18 [x0, x1] w R := by kernel_rfl
theorem a6w {x0 x1 : Value} {w : World} {R : Value → World → Prop} (h : F18 x0 x1 w R) : Cv Tryd.prog 18 #[x0, x1] w R :=
  X9 (args := [x0, x1]) (c := c18) (h := h18) Tryd.func18 (by kernel_rfl) (Nat.le_of_ble_eq_true (by kernel_rfl)) (by kernel_rfl) (by kernel_rfl) (by kernel_rfl) ((a6v x0 x1 w R).mp h)
def F35 (x0 : Value) (w : World) (R : Value → World → Prop) : Prop :=
  opK Tryd.prog (xV (Instr.box 9 x0)) w fun a7I w_2 =>
  opK Tryd.prog (xV (Instr.makeFunc (.func 54) #[] #[a7I])) w_2 fun a7J w_4 =>
  R a7J w_4
noncomputable def c35 : Code := Tryd.f35.body.getD .skip
def h35 : Hint := (.seq .none (.seq .none .none))
set_option maxRecDepth 100000 in
theorem a6x (x0 : Value) (w : World) (R : Value → World → Prop) : F35 x0 w R = callX Tryd.prog [.tmp 2] c35 h35 [x0] w R := by kernel_rfl
theorem a3h {x0 : Value} {w : World} {R : Value → World → Prop} (h : F35 x0 w R) : Cv Tryd.prog 35 #[x0] w R :=
  K8 (args := [x0]) (c := c35) (h := h35) Tryd.func35 (by kernel_rfl) (Nat.le_of_ble_eq_true (by kernel_rfl)) (by kernel_rfl) (by kernel_rfl) (by kernel_rfl) ((a6x x0 w R).mp h)
def a0c (x0 x3 x8 : Value) (w : World) (next1 : List Value → World → Prop) (R : Value → World → Prop) : Prop :=
  opK Tryd.prog (xV (Instr.next x8 true 0)) w fun a2O Y9 =>
  opK Tryd.prog (xV (Instr.extract a2O 0)) Y9 fun a6y a6z =>
  xcond a6y
  (opK Tryd.prog (xV (Instr.extract a2O 1)) a6z fun a6A a4i =>
  opK Tryd.prog (xV (Instr.extract a2O 2)) a4i fun a6B a7K =>
  opK Tryd.prog (xV (Instr.loadAt 25 x3)) a7K fun a6C a4f =>
  opK Tryd.prog (xCall (Value.func (.func 55) #[] #[]) [a6C, a6B]) a4f fun a1x a4g =>
  opK Tryd.prog (xU (Instr.storeAt 25 x3 a1x)) a4g fun _z_28 a4h =>
  opK Tryd.prog (xV (Instr.loadAt 25 x3)) a4h fun a6D a4k =>
  opY Tryd.prog (xCall x0 [a6A, a6D]) a4k fun a6E a7L =>
  opK Tryd.prog (xV (Op.unary .not a6E)) a7L fun a6F a2M =>
  xcond a6F
  (R (Value.tuple #[]) a2M)
  ((([] : List Nat) = [] ∧ next1 [] a2M)))
  (R (Value.tuple #[]) a6z)
def F54 (x0 x1 : Value) (w : World) (R : Value → World → Prop) : Prop :=
  opK Tryd.prog (xCall (Value.func (.func 34) #[] #[]) []) w fun a7M w_3 =>
  opK Tryd.prog (xV (Instr.alloc 25 true (.tuple #[]))) w_3 fun a6G w_5 =>
  opK Tryd.prog (xU (Instr.storeAt 25 a6G a7M)) w_5 fun _z_6 w_7 =>
  opK Tryd.prog (xV (Instr.loadAt 9 x1)) w_7 fun a7N a1v =>
  opK Tryd.prog (xV (Instr.range 9 a7N)) a1v fun a7f a1w =>
  xloop [] [] a1w fun _ a2N next1 =>
  a0c x0 a6G a7f a2N next1 R
noncomputable def c54 : Code := Tryd.f54.body.getD .skip
def h54 : HintY := (.seq .none (.seq .none (.block (.loop [] (.seq .none (.seq (.cond .none .none) (.block (.seq .none (.seq .none (.seq .none (.cond .none .none)))))))))))
set_option maxRecDepth 100000 in
theorem a6H (x0 x1 : Value) (w : World) (R : Value → World → Prop) : F54 x0 x1 w R = callY Tryd.prog [] c54 h54 [x0, x1] w R := by kernel_rfl
theorem a3k {x0 x1 : Value} {w : World} {R : Value → World → Prop} (h : F54 x0 x1 w R) : Cv Tryd.prog 54 #[x0, x1] w R :=
  X9 (args := [x0, x1]) (c := c54) (h := h54) Tryd.func54 (by kernel_rfl) (Nat.le_of_ble_eq_true (by kernel_rfl)) (by kernel_rfl) (by kernel_rfl) (by kernel_rfl) ((a6H x0 x1 w R).mp h)
end Go.Proofs.YthklmeihgmcljaaDoor.Od
