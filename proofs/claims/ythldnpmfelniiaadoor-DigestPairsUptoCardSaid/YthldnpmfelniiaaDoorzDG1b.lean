/- The second reading of some of the program's functions, printed by gen2.py off the code; each is held against the code by the kernel. -/
import Derived.Test.YthldnpmfelniiaaDoorProg
import Derived.Test.YthldnpmfelniiaaDoorzDK0
import Derived.KernelRfl
namespace Go.Proofs.YthldnpmfelniiaaDoor
open Go.RowKit
set_option maxRecDepth 100000
def b8f (x5 : Value) (w : World) (R : Value → World → Prop) (_E : Pan) : Prop :=
 ∀ _τ : Fr, (R x5 w)
def c4b (x1 x5 x8 x9 x10 : Value) (w : World) (next2 : List Value → World → Prop) (j1 : List Value → World → Prop) (_R : Value → World → Prop) (E : Pan) : Prop :=
 opK Tryd.prog E (xBin .lss 3 (.tmp 10) (.tmp 9) x10 x9) w fun a8c w_6 =>
 xcond a8c
 (opK Tryd.prog E (xV (Instr.indexAt 31 x8 x10)) w_6 fun a5Z w_8 =>
 opK Tryd.prog E (xV (Instr.loadAt 33 a5Z)) w_8 fun a6a k9 =>
 opK Tryd.prog E (xV (Instr.alloc 33 true (.tuple #[]))) k9 fun a4m k6 =>
 opK Tryd.prog E (xU (Instr.storeAt 33 a4m a6a)) k6 fun _z_13 o2 =>
 opK Tryd.prog E (xV (Instr.loadAt 33 a4m)) o2 fun a3A p5 =>
 opK Tryd.prog E (xCall x1 [a3A]) p5 fun a3X p9 =>
 opK Tryd.prog E (xV (Instr.buildSlice 97 1 #[(0, a3X)])) p9 fun a3Y o9 =>
 opK Tryd.prog E (xBuiltin .append #[97, 97] 97 [false, false] [x5, a3Y]) o9 fun a6f r7 =>
 opK Tryd.prog E (xBin .add 3 (.tmp 10) (.const (Value.int .i64 1)) x10 (Value.int .i64 1)) r7 fun a6g p8 =>
 next2 [a6f, a6g] p8)
 (j1 [x5] w_6)
def c5m (x0 x1 : Value) (w : World) (R : Value → World → Prop) (E : Pan) : Prop :=
 xcut (fun l_1 w_2 => b8f (nth l_1 0) w_2 R E) fun j1 =>
 opK Tryd.prog E (xBuiltin .len #[31] 3 [false] [x0]) w fun a3U w_4 =>
 xloop [5, 10] [(Value.slice none 0 0), (Value.int .i64 0)] w_4 fun τ_25 u4 next2 =>
 c4b x1 (τ_25 5) x0 a3U (τ_25 10) u4 next2 j1 R E
noncomputable def e4R : Code := Tryd.f154.body.getD .skip
def e4S : Hint := (.seq .none (.seq .none (.cut [5] (.seq .none (.block (.loop [5, 10] (.seq .none (.seq (.cond .none .none) (.seq (.block (.seq .none .none)) .none)))))) (.seq .none .none))))
theorem d6h (x0 x1 : Value) (w : World) (R : Value → World → Prop) (E : Pan) : c5m x0 x1 w R E = callX Tryd.prog [.tmp 4] e4R e4S [x0, x1] w R E := by kernel_rfl
theorem d6i {x0 x1 : Value} {w : World} {R : Value → World → Prop} {E : Pan} (h : c5m x0 x1 w R E) : Cv Tryd.prog 154 #[x0, x1] w R E := by
 refine g7 (args := [x0, x1]) (c := e4R) (h := e4S) (rs := [.tmp 4]) Tryd.func154 (by kernel_rfl) (by kernel_rfl) (Nat.le_of_ble_eq_true (by kernel_rfl)) (by kernel_rfl) (by kernel_rfl) (by kernel_rfl) ?_
 rw [← d6h]
 exact h
def c5n (x0 : Value) (w : World) (R : Value → World → Prop) (E : Pan) : Prop :=
 opK Tryd.prog E (xV (Instr.box 33 x0)) w fun A5 w_2 =>
 opK Tryd.prog E (xV (Instr.loadAt 33 A5)) w_2 fun B9 w_4 =>
 opK Tryd.prog E (xV (Instr.build 106 #[(0, B9)])) w_4 fun a2v w_6 =>
 opK Tryd.prog E (xV (Instr.makeInterface 106 a2v)) w_6 fun a4R w_8 =>
 R a4R w_8
noncomputable def e4T : Code := Tryd.f155.body.getD .skip
def e4U : Hint := (.seq .none (.seq .none .none))
theorem d6j (x0 : Value) (w : World) (R : Value → World → Prop) (E : Pan) : c5n x0 w R E = callX Tryd.prog [.tmp 2] e4T e4U [x0] w R E := by kernel_rfl
theorem d6k {x0 : Value} {w : World} {R : Value → World → Prop} {E : Pan} (h : c5n x0 w R E) : Cv Tryd.prog 155 #[x0] w R E := by
 refine g7 (args := [x0]) (c := e4T) (h := e4U) (rs := [.tmp 2]) Tryd.func155 (by kernel_rfl) (by kernel_rfl) (Nat.le_of_ble_eq_true (by kernel_rfl)) (by kernel_rfl) (by kernel_rfl) (by kernel_rfl) ?_
 rw [← d6j]
 exact h
def c5o (x0 : Value) (w : World) (R : Value → World → Prop) (E : Pan) : Prop :=
 opK Tryd.prog E (xV (Instr.box 175 x0)) w fun A5 w_2 =>
 opK Tryd.prog E (xV (Instr.fieldAt 175 A5 0)) w_2 fun B9 w_4 =>
 opK Tryd.prog E (xV (Instr.fieldAt 67 B9 1)) w_4 fun a2v w_6 =>
 opK Tryd.prog E (xV (Instr.loadAt 3 a2v)) w_6 fun a4R w_8 =>
 opK Tryd.prog E (xBin .geq 3 (.tmp 5) (.const (Value.int .i64 0)) a4R (Value.int .i64 0)) w_8 fun a8E k9 =>
 opK Tryd.prog E (gsem (asB a8E) true (xV (Instr.fieldAt 175 A5 0))) k9 fun a5X k6 =>
 opK Tryd.prog E (gsem (asB a8E) true (xV (Instr.fieldAt 67 a5X 1))) k6 fun U4 o2 =>
 opK Tryd.prog E (gsem (asB a8E) true (xV (Instr.loadAt 3 U4))) o2 fun c1u p5 =>
 opK Tryd.prog E (gsem (asB a8E) true (xBin .leq 3 (.tmp 10) (.const (Value.int .i64 2147483647)) c1u (Value.int .i64 2147483647))) p5 fun c1v p9 =>
 opK Tryd.prog E (xPick a8E c1v (Value.bool false)) p9 fun c1w o9 =>
 R c1w o9
noncomputable def e4V : Code := Tryd.f156.body.getD .skip
def e4W : Hint := (.seq .none (.seq .none .none))
theorem d6l (x0 : Value) (w : World) (R : Value → World → Prop) (E : Pan) : c5o x0 w R E = callX Tryd.prog [.tmp 2] e4V e4W [x0] w R E := by kernel_rfl
theorem d6m {x0 : Value} {w : World} {R : Value → World → Prop} {E : Pan} (h : c5o x0 w R E) : Cv Tryd.prog 156 #[x0] w R E := by
 refine g7 (args := [x0]) (c := e4V) (h := e4W) (rs := [.tmp 2]) Tryd.func156 (by kernel_rfl) (by kernel_rfl) (Nat.le_of_ble_eq_true (by kernel_rfl)) (by kernel_rfl) (by kernel_rfl) (by kernel_rfl) ?_
 rw [← d6l]
 exact h
def c5p (x0 : Value) (w : World) (R : Value → World → Prop) (E : Pan) : Prop :=
 opK Tryd.prog E (xV (Instr.box 175 x0)) w fun _t1_1 w_2 =>
 R (Value.slice none 0 0) w_2
noncomputable def e4X : Code := Tryd.f157.body.getD .skip
def e4Y : Hint := (.seq .none (.seq .none .none))
theorem d6n (x0 : Value) (w : World) (R : Value → World → Prop) (E : Pan) : c5p x0 w R E = callX Tryd.prog [.tmp 2] e4X e4Y [x0] w R E := by kernel_rfl
theorem d6o {x0 : Value} {w : World} {R : Value → World → Prop} {E : Pan} (h : c5p x0 w R E) : Cv Tryd.prog 157 #[x0] w R E := by
 refine g7 (args := [x0]) (c := e4X) (h := e4Y) (rs := [.tmp 2]) Tryd.func157 (by kernel_rfl) (by kernel_rfl) (Nat.le_of_ble_eq_true (by kernel_rfl)) (by kernel_rfl) (by kernel_rfl) (by kernel_rfl) ?_
 rw [← d6n]
 exact h
def b8g (x4 x5 x35 x83 : Value) (w : World) (R : Value → World → Prop) (E : Pan) : Prop :=
 ∀ _τ : Fr, (xcond x83
 (opK Tryd.prog E (gsem (asB x5) true (xV (Instr.loadAt 213 x4))) w fun d6p c4R =>
 opK Tryd.prog E (gsem (asB x5) true (xV (Instr.build 213 #[(0, (Value.int .i64 0)), (1, (Value.int .i64 1))]))) c4R fun d6q b9n =>
 opK Tryd.prog E (gsem (asB x5) true (xBin .eql 213 (.tmp 88) (.tmp 89) d6p d6q)) b9n fun d6r c4S =>
 opK Tryd.prog E (xPick x5 d6r (Value.bool false)) c4S fun b7M c4T =>
 R b7M c4T)
 (opK Tryd.prog E (xBin .eql 3 (.tmp 35) (.const (Value.int .i64 7)) x35 (Value.int .i64 7)) w fun d6s b6S =>
 xcond d6s
 (opK Tryd.prog E (gsem (asB x5) true (xV (Instr.loadAt 213 x4))) b6S fun d6t b6E =>
 opK Tryd.prog E (gsem (asB x5) true (xV (Instr.build 213 #[]))) b6E fun d6u b6F =>
 opK Tryd.prog E (gsem (asB x5) true (xBin .eql 213 (.tmp 96) (.tmp 97) d6t d6u)) b6F fun d6v c4E =>
 opK Tryd.prog E (xPick x5 d6v (Value.bool false)) c4E fun d6w e9A =>
 R d6w e9A)
 (R (Value.bool false) b6S)))
def c5q (x0 : Value) (w : World) (R : Value → World → Prop) (E : Pan) : Prop :=
 opK Tryd.prog E (xV (Instr.box 177 x0)) w fun A5 w_2 =>
 opK Tryd.prog E (xV (Instr.fieldAt 177 A5 0)) w_2 fun c1o w_4 =>
 opK Tryd.prog E (xV (Instr.fieldAt 88 c1o 4)) w_4 fun b5C w_6 =>
 opK Tryd.prog E (xV (Instr.loadAt 23 b5C)) w_6 fun a4V w_8 =>
 opK Tryd.prog E (xBuiltin .len #[23] 3 [false] [a4V]) w_8 fun b0t k9 =>
 opK Tryd.prog E (xV (Instr.fieldAt 177 A5 0)) k9 fun a8B k6 =>
 opK Tryd.prog E (xV (Instr.fieldAt 88 a8B 5)) k6 fun a0N o2 =>
 opK Tryd.prog E (xV (Instr.loadAt 23 a0N)) o2 fun a5U p5 =>
 opK Tryd.prog E (xBuiltin .len #[23] 3 [false] [a5U]) p5 fun a1h p9 =>
 opK Tryd.prog E (xBin .add 3 (.tmp 9) (.tmp 13) b0t a1h) p9 fun a8z o9 =>
 opK Tryd.prog E (xBin .gtr 3 (.tmp 14) (.const (Value.int .i64 0)) a8z (Value.int .i64 0)) o9 fun a5V r7 =>
 opK Tryd.prog E (xV (Instr.fieldAt 177 A5 0)) r7 fun a8A p8 =>
 opK Tryd.prog E (xV (Instr.fieldAt 88 a8A 2)) p8 fun a1F u4 =>
 opK Tryd.prog E (xV (Instr.loadAt 28 a1F)) u4 fun a5Y u7 =>
 opK Tryd.prog E (xBuiltin .len #[28] 3 [false] [a5Y]) u7 fun a4D o5 =>
 opK Tryd.prog E (xV (Instr.fieldAt 177 A5 0)) o5 fun a3V y8 =>
 opK Tryd.prog E (xV (Instr.fieldAt 88 a3V 3)) y8 fun a8L v2 =>
 opK Tryd.prog E (xV (Instr.loadAt 31 a8L)) v2 fun a8M A7 =>
 opK Tryd.prog E (xBuiltin .len #[31] 3 [false] [a8M]) A7 fun U0 A9 =>
 opK Tryd.prog E (xV (Instr.build 213 #[(0, a4D), (1, U0)])) A9 fun e4Z C7 =>
 opK Tryd.prog E (xV (Instr.alloc 213 true (.tuple #[]))) C7 fun b4L I9 =>
 opK Tryd.prog E (xU (Instr.storeAt 213 b4L e4Z)) I9 fun _z_43 I0 =>
 opK Tryd.prog E (xV (Instr.fieldAt 177 A5 0)) I0 fun e5a K3 =>
 opK Tryd.prog E (xV (Instr.fieldAt 88 e5a 1)) K3 fun e5b J6 =>
 opK Tryd.prog E (xV (Instr.loadAt 9 e5b)) J6 fun c1y J7 =>
 opK Tryd.prog E (xBin .eql 9 (.tmp 27) (.const (Value.string ⟨#[]⟩)) c1y (Value.string ⟨#[]⟩)) J7 fun b3W N4 =>
 opK Tryd.prog E (gsem (asB b3W) true (xV (Op.unary .not (gval (asB b3W) true a5V)))) N4 fun e5c N9 =>
 opK Tryd.prog E (xPick b3W e5c (Value.bool false)) N9 fun e5d R5 =>
 opK Tryd.prog E (xV (Instr.fieldAt 177 A5 0)) R5 fun e5e O0 =>
 opK Tryd.prog E (xV (Instr.fieldAt 88 e5e 0)) O0 fun e5f T2 =>
 opK Tryd.prog E (xV (Instr.loadAt 3 e5f)) T2 fun a8V X7 =>
 opK Tryd.prog E (xBin .eql 3 (.tmp 35) (.const (Value.int .i64 1)) a8V (Value.int .i64 1)) X7 fun e5g R2 =>
 xcond e5g
 (opK Tryd.prog E (xV (Op.unary .not a5V)) R2 fun b6X U8 =>
 opK Tryd.prog E (gsem (asB b6X) true (xV (Instr.loadAt 213 b4L))) U8 fun b9Z X8 =>
 opK Tryd.prog E (gsem (asB b6X) true (xV (Instr.build 213 #[(0, (Value.int .i64 1)), (1, (Value.int .i64 0))]))) X8 fun c0a W5 =>
 opK Tryd.prog E (gsem (asB b6X) true (xBin .eql 213 (.tmp 41) (.tmp 42) b9Z c0a)) W5 fun c0b Z5 =>
 opK Tryd.prog E (xPick b6X c0b (Value.bool false)) Z5 fun c0c a0Z =>
 R c0c a0Z)
 (opK Tryd.prog E (xBin .eql 3 (.tmp 35) (.const (Value.int .i64 2)) a8V (Value.int .i64 2)) R2 fun e5h a1b =>
 xcond e5h
 (opK Tryd.prog E (xV (Op.unary .not a5V)) a1b fun b6Y a1l =>
 opK Tryd.prog E (gsem (asB b6Y) true (xV (Instr.loadAt 213 b4L))) a1l fun e5i a0O =>
 opK Tryd.prog E (gsem (asB b6Y) true (xV (Instr.build 213 #[(0, (Value.int .i64 2)), (1, (Value.int .i64 0))]))) a0O fun e5j a2O =>
 opK Tryd.prog E (gsem (asB b6Y) true (xBin .eql 213 (.tmp 50) (.tmp 51) e5i e5j)) a2O fun e5k a3G =>
 opK Tryd.prog E (xPick b6Y e5k (Value.bool false)) a3G fun e5l a4u =>
 R e5l a4u)
 (opK Tryd.prog E (xBin .eql 3 (.tmp 35) (.const (Value.int .i64 3)) a8V (Value.int .i64 3)) a1b fun e5m a3H =>
 xcond e5m
 (opK Tryd.prog E (xV (Instr.fieldAt 177 A5 0)) a3H fun e5n a4S =>
 opK Tryd.prog E (xV (Instr.fieldAt 88 e5n 1)) a4S fun e5o a4T =>
 opK Tryd.prog E (xV (Instr.loadAt 9 e5o)) a4T fun e5p a3I =>
 opK Tryd.prog E (xBin .eql 9 (.tmp 58) (.const (Value.string ⟨#[]⟩)) e5p (Value.string ⟨#[]⟩)) a3I fun b6Z a4v =>
 opK Tryd.prog E (gsem (asB b6Z) true (xV (Instr.loadAt 213 b4L))) a4v fun e5q a4U =>
 opK Tryd.prog E (gsem (asB b6Z) true (xV (Instr.build 213 #[(0, (Value.int .i64 0)), (1, (Value.int .i64 1))]))) a4U fun e5r a2X =>
 opK Tryd.prog E (gsem (asB b6Z) true (xBin .eql 213 (.tmp 61) (.tmp 62) e5q e5r)) a2X fun d6x a3O =>
 opK Tryd.prog E (xPick b6Z d6x (Value.bool false)) a3O fun d6y a4K =>
 R d6y a4K)
 (opK Tryd.prog E (xBin .eql 3 (.tmp 35) (.const (Value.int .i64 4)) a8V (Value.int .i64 4)) a3H fun d6z a4L =>
 xcond d6z
 (opK Tryd.prog E (xV (Instr.fieldAt 177 A5 0)) a4L fun d6A a6e =>
 opK Tryd.prog E (xV (Instr.fieldAt 88 d6A 1)) a6e fun d6B a8d =>
 opK Tryd.prog E (xV (Instr.loadAt 9 d6B)) a8d fun d6C b1Q =>
 opK Tryd.prog E (xBin .eql 9 (.tmp 69) (.const (Value.string ⟨#[]⟩)) d6C (Value.string ⟨#[]⟩)) b1Q fun a8q b1R =>
 opK Tryd.prog E (gsem (asB a8q) true (xV (Instr.fieldAt 177 A5 0))) b1R fun d6D b1S =>
 opK Tryd.prog E (gsem (asB a8q) true (xV (Instr.fieldAt 88 d6D 5))) b1S fun d6E b1T =>
 opK Tryd.prog E (gsem (asB a8q) true (xV (Instr.loadAt 23 d6E))) b1T fun d6F a8a =>
 opK Tryd.prog E (gsem (asB a8q) true (xBuiltin .len #[23] 3 [false] [d6F])) a8a fun d6G b1M =>
 opK Tryd.prog E (gsem (asB a8q) true (xBin .eql 3 (.tmp 75) (.const (Value.int .i64 0)) d6G (Value.int .i64 0))) b1M fun d6H b1P =>
 opK Tryd.prog E (xPick a8q d6H (Value.bool false)) b1P fun b4M a8b =>
 opK Tryd.prog E (gsem (asB b4M) true (xV (Instr.loadAt 213 b4L))) a8b fun d6I b1N =>
 opK Tryd.prog E (gsem (asB b4M) true (xV (Instr.build 213 #[(0, (Value.int .i64 0)), (1, (Value.int .i64 1))]))) b1N fun d6J b1O =>
 opK Tryd.prog E (gsem (asB b4M) true (xBin .eql 213 (.tmp 79) (.tmp 80) d6I d6J)) b1O fun d6K a9V =>
 opK Tryd.prog E (xPick b4M d6K (Value.bool false)) a9V fun d6L b9m =>
 R d6L b9m)
 (xcut (fun e9B e9C => b8g b4L e5d a8V (nth e9B 0) e9C R E) fun j1 =>
 opK Tryd.prog E (xBin .eql 3 (.tmp 35) (.const (Value.int .i64 5)) a8V (Value.int .i64 5)) a4L fun c4c d3D =>
 xcond c4c
 (j1 [c4c] d3D)
 (opK Tryd.prog E (xBin .eql 3 (.tmp 35) (.const (Value.int .i64 6)) a8V (Value.int .i64 6)) d3D fun d6M e9D =>
 j1 [d6M] e9D)))))
noncomputable def e5s : Code := Tryd.f158.body.getD .skip
def e5t : Hint := (.seq .none (.seq .none (.seq .none (.seq .none (.seq (.seq .none (.block (.seq .none (.cond (.seq .none .none) (.seq .none (.cond (.seq .none .none) (.seq .none (.cond (.seq .none .none) (.seq .none (.cond (.seq .none .none) (.cut [83] (.seq .none (.cond .none .none)) (.cond (.seq .none .none) (.seq .none (.cond (.seq .none .none) .none)))))))))))))) (.seq .none .none))))))
theorem d6N (x0 : Value) (w : World) (R : Value → World → Prop) (E : Pan) : c5q x0 w R E = callX Tryd.prog [.tmp 2] e5s e5t [x0] w R E := by kernel_rfl
theorem d6O {x0 : Value} {w : World} {R : Value → World → Prop} {E : Pan} (h : c5q x0 w R E) : Cv Tryd.prog 158 #[x0] w R E := by
 refine g7 (args := [x0]) (c := e5s) (h := e5t) (rs := [.tmp 2]) Tryd.func158 (by kernel_rfl) (by kernel_rfl) (Nat.le_of_ble_eq_true (by kernel_rfl)) (by kernel_rfl) (by kernel_rfl) (by kernel_rfl) ?_
 rw [← d6N]
 exact h
def c5r (x0 : Value) (w : World) (R : Value → World → Prop) (E : Pan) : Prop :=
 opK Tryd.prog E (xV (Instr.box 177 x0)) w fun A5 w_2 =>
 dX w_2 fun w_3 =>
 qP Tryd.prog (xV (Instr.fieldAt 177 A5 0)) fun b7N =>
 qP Tryd.prog (xV (Instr.fieldAt 88 b7N 3)) fun a2v =>
 qP Tryd.prog (xV (Instr.fieldAt 177 A5 0)) fun d0T =>
 qP Tryd.prog (xV (Instr.fieldAt 88 d0T 2)) fun a4V =>
 qP Tryd.prog (xV (Instr.fieldAt 177 A5 0)) fun e9E =>
 qP Tryd.prog (xV (Instr.fieldAt 88 e9E 4)) fun a7l =>
 qP Tryd.prog (xV (Instr.fieldAt 177 A5 0)) fun e5u =>
 qP Tryd.prog (xV (Instr.fieldAt 88 e5u 5)) fun a6h =>
 qL Tryd.prog w_3 (blk a2v) (xV (Instr.loadAt 31 a2v)) fun e9F =>
 qL Tryd.prog w_3 (blk a4V) (xV (Instr.loadAt 28 a4V)) fun U4 =>
 qL Tryd.prog w_3 (blk a7l) (xV (Instr.loadAt 23 a7l)) fun e5v =>
 qL Tryd.prog w_3 (blk a6h) (xV (Instr.loadAt 23 a6h)) fun c0J =>
 opK Tryd.prog E (xCall (Value.func (.func 154) #[] #[]) [e9F, (Value.func (.func 155) #[] #[])]) w_3 fun e9G a3J =>
 keepX [(blk a6h), (blk a7l), (blk a4V)] w_3 a3J (opK Tryd.prog E (xCall (Value.func (.func 150) #[] #[]) [U4, (Value.func (.func 151) #[] #[])]) a3J fun e5w a7G =>
 keepX [(blk a6h), (blk a7l)] a3J a7G (opK Tryd.prog E (xCall (Value.func (.func 97) #[] #[]) [e5v, (Value.func (.func 98) #[] #[])]) a7G fun e5x N5 =>
 keepX [(blk a6h)] a7G N5 (opK Tryd.prog E (xCall (Value.func (.func 97) #[] #[]) [c0J, (Value.func (.func 98) #[] #[])]) N5 fun e5y b3D =>
 keepX [] N5 b3D (opK Tryd.prog E (xV (Instr.buildSlice 172 4 #[(0, e9G), (1, e5w), (2, e5x), (3, e5y)])) b3D fun e5z a8Q =>
 keepX [] b3D a8Q (opK Tryd.prog E (xCall (Value.func (.func 94) #[] #[]) [e5z]) a8Q fun e5A a6c =>
 keepX [] a8Q a6c (R e5A a6c))))))
noncomputable def e5B : Code := Tryd.f159.body.getD .skip
def e5C : Hint := (.seq .none (.seq (.reg [(0, 8, 2), (1, 16, 8), (2, 32, 16), (4, 64, 32), (0, 128, 2), (16, 256, 128), (32, 512, 256), (72, 1024, 512), (0, 2048, 2), (256, 4096, 2048), (512, 8192, 4096), (1152, 16384, 8192), (0, 32768, 2), (4096, 65536, 32768), (8192, 131072, 65536), (18432, 262144, 131072), (34952, 524288, 279616), (98304, 1048576, 524288), (262143, 4, 1048576)] [17476, 17476, 17472, 17472, 17476, 17476, 17412, 17408, 17476, 17476, 16452, 16384, 17476, 17476, 1092, 0, 0, 0, 17476] (.early 0 (.early 1 (.early 4 (.early 5 (.early 8 (.early 9 (.early 12 (.early 13 (.load 2 (.load 6 (.load 10 (.load 14 (.step 3 (.step 7 (.step 11 (.step 15 (.step 16 (.step 17 (.early 18 .done)))))))))))))))))))) .none))
theorem d6P (x0 : Value) (w : World) (R : Value → World → Prop) (E : Pan) : c5r x0 w R E = callX Tryd.prog [.tmp 2] e5B e5C [x0] w R E := by kernel_rfl
theorem d6Q {x0 : Value} {w : World} {R : Value → World → Prop} {E : Pan} (h : c5r x0 w R E) : Cv Tryd.prog 159 #[x0] w R E := by
 refine g7 (args := [x0]) (c := e5B) (h := e5C) (rs := [.tmp 2]) Tryd.func159 (by kernel_rfl) (by kernel_rfl) (Nat.le_of_ble_eq_true (by kernel_rfl)) (by kernel_rfl) (by kernel_rfl) (by kernel_rfl) ?_
 rw [← d6P]
 exact h
end Go.Proofs.YthldnpmfelniiaaDoor
