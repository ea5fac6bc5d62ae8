/- The second reading of some of the program's functions, printed by gen.py off the code; each is held against the code by the kernel. -/
import Derived.Test.YthklmeihgmcljaaDoorProg
import Derived.KernelRfl
import Derived.Test.YthklmeihgmcljaaDoorzLOEY
namespace Go.Proofs.YthklmeihgmcljaaDoor.Od
open Go.RowKit
set_option maxRecDepth 100000
def Z8 (x4 x5 : Value) (ds : List Nat) (w : World) (R : Value → World → Prop) : Prop :=
  opK Tryd.prog (xV (Instr.loadAt 25 x5)) w fun a5U a7j =>
  opK Tryd.prog (xU (Instr.storeAt 25 x4 a5U)) a7j fun _z_19 a3U =>
  closeM ds a3U fun a2r => xcell Tryd.prog 25 x4 a2r fun a7k =>
  R a7k a2r
def F18 (x0 x1 : Value) (w : World) (R : Value → World → Prop) : Prop :=
  opK Tryd.prog (xV (Instr.box 3 x1)) w fun a7l w_3 =>
  opK Tryd.prog (xV (Instr.alloc 25 true (.tuple #[]))) w_3 fun a3V w_5 =>
  opK Tryd.prog (xCall (Value.func (.func 34) #[] #[]) []) w_5 fun a7m w_8 =>
  opK Tryd.prog (xV (Instr.alloc 25 true (.tuple #[]))) w_8 fun a2s a1p =>
  opK Tryd.prog (xU (Instr.storeAt 25 a2s a7m)) a1p fun _z_11 a1q =>
  opK Tryd.prog (xCall (Value.func (.func 35) #[] #[]) [x0]) a1q fun a5V X9 =>
  xrange Tryd.prog a5V 2 X9 (fun a5W a4q a7n a5X =>
  opK Tryd.prog (xV (Instr.alloc 25 true (.tuple #[]))) a7n fun a4r a7o =>
  opK Tryd.prog (xU (Instr.storeAt 25 a4r (nth a4q 1))) a7o fun _z_31 a3W =>
  beginY (X9.heap.size + 1) a5W a3W fun a7p =>
  opK Tryd.prog (xV (Instr.loadAt 3 a7l)) a7p fun a5Y a2t =>
  opK Tryd.prog (xBin .geq 3 (.tmp 13) (.tmp 14) (nth a4q 0) a5Y) a2t fun a5Z a2u =>
  xcond a5Z
  (a5X (.exit 0) a2u)
  (opK Tryd.prog (xV (Instr.loadAt 25 a4r)) a2u fun a6a a7q =>
  opK Tryd.prog (xU (Instr.storeAt 25 a2s a6a)) a7q fun _z_42 a7r =>
  a5X .normal a7r))
  (fun a7s => Z8 a3V a2s (X9.heap.size :: []) a7s R) (fun a7t => closeM (X9.heap.size :: []) a7t fun a6b => xcell Tryd.prog 25 a3V a6b fun a7u =>
  R a7u a6b) (fun a6Q a7v => (bif Nat.beq a6Q 0 then Z8 a3V a2s (X9.heap.size :: []) a7v R else False))
noncomputable def c18 : Code := Tryd.f18.body.getD .skip
def h18 : HintY := (.seq .none (.seq .none (.seq (.seq .none (.block (.range (.seq .none .none) (.block (.seq (.seq .none (.cond .none .none)) .none))))) (.seq .none .none))))
set_option maxRecDepth 100000 in
theorem a6c (x0 x1 : Value) (w : World) (R : Value → World → Prop) : F18 x0 x1 w R = callY Tryd.prog [.cell 4 25] c18 h18 [x0, x1] w R := by kernel_rfl
theorem a6d {x0 x1 : Value} {w : World} {R : Value → World → Prop} (h : F18 x0 x1 w R) : Cv Tryd.prog 18 #[x0, x1] w R :=
  W6 (args := [x0, x1]) (c := c18) (h := h18) Tryd.func18 (by kernel_rfl) (Nat.le_of_ble_eq_true (by kernel_rfl)) (by kernel_rfl) (by kernel_rfl) (by kernel_rfl) ((a6c x0 x1 w R).mp h)
def F35 (x0 : Value) (w : World) (R : Value → World → Prop) : Prop :=
  opK Tryd.prog (xV (Instr.box 9 x0)) w fun a7w w_2 =>
  opK Tryd.prog (xV (Instr.makeFunc (.func 54) #[] #[a7w])) w_2 fun a7x w_4 =>
  R a7x w_4
noncomputable def c35 : Code := Tryd.f35.body.getD .skip
def h35 : Hint := (.seq .none (.seq .none .none))
set_option maxRecDepth 100000 in
theorem a6e (x0 : Value) (w : World) (R : Value → World → Prop) : F35 x0 w R = callX Tryd.prog [.tmp 2] c35 h35 [x0] w R := by kernel_rfl
theorem a2P {x0 : Value} {w : World} {R : Value → World → Prop} (h : F35 x0 w R) : Cv Tryd.prog 35 #[x0] w R :=
  J5 (args := [x0]) (c := c35) (h := h35) Tryd.func35 (by kernel_rfl) (Nat.le_of_ble_eq_true (by kernel_rfl)) (by kernel_rfl) (by kernel_rfl) (by kernel_rfl) ((a6e x0 w R).mp h)
def Z1 (x0 x3 x8 : Value) (w : World) (next1 : List Value → World → Prop) (R : Value → World → Prop) : Prop :=
  opK Tryd.prog (xV (Instr.next x8 true 0)) w fun a2v X9 =>
  opK Tryd.prog (xV (Instr.extract a2v 0)) X9 fun a6f a6g =>
  xcond a6f
  (opK Tryd.prog (xV (Instr.extract a2v 1)) a6g fun a6h a3U =>
  opK Tryd.prog (xV (Instr.extract a2v 2)) a3U fun a6i a7y =>
  opK Tryd.prog (xV (Instr.loadAt 25 x3)) a7y fun a6j a3R =>
  opK Tryd.prog (xCall (Value.func (.func 55) #[] #[]) [a6j, a6i]) a3R fun a1r a3S =>
  opK Tryd.prog (xU (Instr.storeAt 25 x3 a1r)) a3S fun _z_28 a3T =>
  opK Tryd.prog (xV (Instr.loadAt 25 x3)) a3T fun a6k a3W =>
  opY Tryd.prog (xCall x0 [a6h, a6k]) a3W fun a6l a7z =>
  opK Tryd.prog (xV (Op.unary .not a6l)) a7z fun a6m a2t =>
  xcond a6m
  (R (Value.tuple #[]) a2t)
  ((([] : List Nat) = [] ∧ next1 [] a2t)))
  (R (Value.tuple #[]) a6g)
def F54 (x0 x1 : Value) (w : World) (R : Value → World → Prop) : Prop :=
  opK Tryd.prog (xCall (Value.func (.func 34) #[] #[]) []) w fun a7A w_3 =>
  opK Tryd.prog (xV (Instr.alloc 25 true (.tuple #[]))) w_3 fun a6n w_5 =>
  opK Tryd.prog (xU (Instr.storeAt 25 a6n a7A)) w_5 fun _z_6 w_7 =>
  opK Tryd.prog (xV (Instr.loadAt 9 x1)) w_7 fun a7B a1p =>
  opK Tryd.prog (xV (Instr.range 9 a7B)) a1p fun a6R a1q =>
  xloop [] [] a1q fun _ a2u next1 =>
  Z1 x0 a6n a6R a2u next1 R
noncomputable def c54 : Code := Tryd.f54.body.getD .skip
def h54 : HintY := (.seq .none (.seq .none (.block (.loop [] (.seq .none (.seq (.cond .none .none) (.block (.seq .none (.seq .none (.seq .none (.cond .none .none)))))))))))
set_option maxRecDepth 100000 in
theorem a6o (x0 x1 : Value) (w : World) (R : Value → World → Prop) : F54 x0 x1 w R = callY Tryd.prog [] c54 h54 [x0, x1] w R := by kernel_rfl
theorem a2S {x0 x1 : Value} {w : World} {R : Value → World → Prop} (h : F54 x0 x1 w R) : Cv Tryd.prog 54 #[x0, x1] w R :=
  W6 (args := [x0, x1]) (c := c54) (h := h54) Tryd.func54 (by kernel_rfl) (Nat.le_of_ble_eq_true (by kernel_rfl)) (by kernel_rfl) (by kernel_rfl) (by kernel_rfl) ((a6o x0 x1 w R).mp h)
end Go.Proofs.YthklmeihgmcljaaDoor.Od
