/- The second reading of some of the program's functions, printed by gen2.py off the code; each is held against the code by the kernel. -/
import Derived.Test.YthldnpmfelniiaaDoorProg
import Derived.Test.YthldnpmfelniiaaDoorzSK0
import Derived.KernelRfl
namespace Go.Proofs.YthldnpmfelniiaaDoor
open Go.RowKit
set_option maxRecDepth 100000
def a9j (x5 : Value) (w : World) (R : Value → World → Prop) (_E : Pan) : Prop :=
 ∀ _τ : Fr, (R x5 w)
def b3o (x1 x5 x8 x9 x10 : Value) (w : World) (next2 : List Value → World → Prop) (j1 : List Value → World → Prop) (_R : Value → World → Prop) (E : Pan) : Prop :=
 opK Tryd.prog E (xBin .lss 3 (.tmp 10) (.tmp 9) x10 x9) w fun a4N w_6 =>
 xcond a4N
 (opK Tryd.prog E (xV (Instr.indexAt 31 x8 x10)) w_6 fun a2q w_8 =>
 opK Tryd.prog E (xV (Instr.loadAt 33 a2q)) w_8 fun a2r l0 =>
 opK Tryd.prog E (xV (Instr.alloc 33 true (.tuple #[]))) l0 fun Y9 q9 =>
 opK Tryd.prog E (xU (Instr.storeAt 33 Y9 a2r)) q9 fun _z_13 o7 =>
 opK Tryd.prog E (xV (Instr.loadAt 33 Y9)) o7 fun X3 s4 =>
 opK Tryd.prog E (xCall x1 [X3]) s4 fun X4 s5 =>
 opK Tryd.prog E (xV (Instr.buildSlice 97 1 #[(0, X4)])) s5 fun X5 r7 =>
 opK Tryd.prog E (xBuiltin .append #[97, 97] 97 [false, false] [x5, X5]) r7 fun X6 u2 =>
 opK Tryd.prog E (xBin .add 3 (.tmp 10) (.const (Value.int .i64 1)) x10 (Value.int .i64 1)) u2 fun a1d u5 =>
 next2 [X6, a1d] u5)
 (j1 [x5] w_6)
def b4e (x0 x1 : Value) (w : World) (R : Value → World → Prop) (E : Pan) : Prop :=
 xcut (fun l_1 w_2 => a9j (nth l_1 0) w_2 R E) fun j1 =>
 opK Tryd.prog E (xBuiltin .len #[31] 3 [false] [x0]) w fun a1B w_4 =>
 xloop [5, 10] [(Value.slice none 0 0), (Value.int .i64 0)] w_4 fun τ_25 y5 next2 =>
 b3o x1 (τ_25 5) x0 a1B (τ_25 10) y5 next2 j1 R E
noncomputable def c7i : Code := Tryd.f154.body.getD .skip
def c7j : Hint := (.seq .none (.seq .none (.cut [5] (.seq .none (.block (.loop [5, 10] (.seq .none (.seq (.cond .none .none) (.seq (.block (.seq .none .none)) .none)))))) (.seq .none .none))))
theorem c2d (x0 x1 : Value) (w : World) (R : Value → World → Prop) (E : Pan) : b4e x0 x1 w R E = callX Tryd.prog [.tmp 4] c7i c7j [x0, x1] w R E := by kernel_rfl
theorem c2e {x0 x1 : Value} {w : World} {R : Value → World → Prop} {E : Pan} (h : b4e x0 x1 w R E) : Cv Tryd.prog 154 #[x0, x1] w R E := by
 refine f8 (args := [x0, x1]) (c := c7i) (h := c7j) (rs := [.tmp 4]) Tryd.func154 (by kernel_rfl) (by kernel_rfl) (Nat.le_of_ble_eq_true (by kernel_rfl)) (by kernel_rfl) (by kernel_rfl) (by kernel_rfl) ?_
 rw [← c2d]
 exact h
def b4f (x0 : Value) (w : World) (R : Value → World → Prop) (E : Pan) : Prop :=
 opK Tryd.prog E (xV (Instr.box 33 x0)) w fun p8 w_2 =>
 opK Tryd.prog E (xV (Instr.loadAt 33 p8)) w_2 fun a1z w_4 =>
 opK Tryd.prog E (xV (Instr.build 106 #[(0, a1z)])) w_4 fun U1 w_6 =>
 opK Tryd.prog E (xV (Instr.makeInterface 106 U1)) w_6 fun a1A w_8 =>
 R a1A w_8
noncomputable def c7k : Code := Tryd.f155.body.getD .skip
def c7l : Hint := (.seq .none (.seq .none .none))
theorem c2f (x0 : Value) (w : World) (R : Value → World → Prop) (E : Pan) : b4f x0 w R E = callX Tryd.prog [.tmp 2] c7k c7l [x0] w R E := by kernel_rfl
theorem c2g {x0 : Value} {w : World} {R : Value → World → Prop} {E : Pan} (h : b4f x0 w R E) : Cv Tryd.prog 155 #[x0] w R E := by
 refine f8 (args := [x0]) (c := c7k) (h := c7l) (rs := [.tmp 2]) Tryd.func155 (by kernel_rfl) (by kernel_rfl) (Nat.le_of_ble_eq_true (by kernel_rfl)) (by kernel_rfl) (by kernel_rfl) (by kernel_rfl) ?_
 rw [← c2f]
 exact h
def b4g (x0 : Value) (w : World) (R : Value → World → Prop) (E : Pan) : Prop :=
 opK Tryd.prog E (xV (Instr.box 175 x0)) w fun p8 w_2 =>
 opK Tryd.prog E (xV (Instr.fieldAt 175 p8 0)) w_2 fun a1z w_4 =>
 opK Tryd.prog E (xV (Instr.fieldAt 67 a1z 1)) w_4 fun U1 w_6 =>
 opK Tryd.prog E (xV (Instr.loadAt 3 U1)) w_6 fun a1A w_8 =>
 opK Tryd.prog E (xBin .geq 3 (.tmp 5) (.const (Value.int .i64 0)) a1A (Value.int .i64 0)) w_8 fun a4F l0 =>
 opK Tryd.prog E (gsem (asB a4F) true (xV (Instr.fieldAt 175 p8 0))) l0 fun a7Y q9 =>
 opK Tryd.prog E (gsem (asB a4F) true (xV (Instr.fieldAt 67 a7Y 1))) q9 fun a8o o7 =>
 opK Tryd.prog E (gsem (asB a4F) true (xV (Instr.loadAt 3 a8o))) o7 fun b1y s4 =>
 opK Tryd.prog E (gsem (asB a4F) true (xBin .leq 3 (.tmp 10) (.const (Value.int .i64 2147483647)) b1y (Value.int .i64 2147483647))) s4 fun b1z s5 =>
 opK Tryd.prog E (xPick a4F b1z (Value.bool false)) s5 fun b1A r7 =>
 R b1A r7
noncomputable def c7m : Code := Tryd.f156.body.getD .skip
def c7n : Hint := (.seq .none (.seq .none .none))
theorem c2h (x0 : Value) (w : World) (R : Value → World → Prop) (E : Pan) : b4g x0 w R E = callX Tryd.prog [.tmp 2] c7m c7n [x0] w R E := by kernel_rfl
theorem c2i {x0 : Value} {w : World} {R : Value → World → Prop} {E : Pan} (h : b4g x0 w R E) : Cv Tryd.prog 156 #[x0] w R E := by
 refine f8 (args := [x0]) (c := c7m) (h := c7n) (rs := [.tmp 2]) Tryd.func156 (by kernel_rfl) (by kernel_rfl) (Nat.le_of_ble_eq_true (by kernel_rfl)) (by kernel_rfl) (by kernel_rfl) (by kernel_rfl) ?_
 rw [← c2h]
 exact h
def b4h (x0 : Value) (w : World) (R : Value → World → Prop) (E : Pan) : Prop :=
 opK Tryd.prog E (xV (Instr.box 175 x0)) w fun _t1_1 w_2 =>
 R (Value.slice none 0 0) w_2
noncomputable def c7o : Code := Tryd.f157.body.getD .skip
def c7p : Hint := (.seq .none (.seq .none .none))
theorem c2j (x0 : Value) (w : World) (R : Value → World → Prop) (E : Pan) : b4h x0 w R E = callX Tryd.prog [.tmp 2] c7o c7p [x0] w R E := by kernel_rfl
theorem c2k {x0 : Value} {w : World} {R : Value → World → Prop} {E : Pan} (h : b4h x0 w R E) : Cv Tryd.prog 157 #[x0] w R E := by
 refine f8 (args := [x0]) (c := c7o) (h := c7p) (rs := [.tmp 2]) Tryd.func157 (by kernel_rfl) (by kernel_rfl) (Nat.le_of_ble_eq_true (by kernel_rfl)) (by kernel_rfl) (by kernel_rfl) (by kernel_rfl) ?_
 rw [← c2j]
 exact h
def a9k (x4 x5 x35 x83 : Value) (w : World) (R : Value → World → Prop) (E : Pan) : Prop :=
 ∀ _τ : Fr, (xcond x83
 (opK Tryd.prog E (gsem (asB x5) true (xV (Instr.loadAt 213 x4))) w fun c2l d1i =>
 opK Tryd.prog E (gsem (asB x5) true (xV (Instr.build 213 #[(0, (Value.int .i64 0)), (1, (Value.int .i64 1))]))) d1i fun c2m c0t =>
 opK Tryd.prog E (gsem (asB x5) true (xBin .eql 213 (.tmp 88) (.tmp 89) c2l c2m)) c0t fun c2n d1j =>
 opK Tryd.prog E (xPick x5 c2n (Value.bool false)) d1j fun c2o d1k =>
 R c2o d1k)
 (opK Tryd.prog E (xBin .eql 3 (.tmp 35) (.const (Value.int .i64 7)) x35 (Value.int .i64 7)) w fun c2p b4i =>
 xcond c2p
 (opK Tryd.prog E (gsem (asB x5) true (xV (Instr.loadAt 213 x4))) b4i fun c2q d1l =>
 opK Tryd.prog E (gsem (asB x5) true (xV (Instr.build 213 #[]))) d1l fun c2r d1m =>
 opK Tryd.prog E (gsem (asB x5) true (xBin .eql 213 (.tmp 96) (.tmp 97) c2q c2r)) d1m fun c2s d1n =>
 opK Tryd.prog E (xPick x5 c2s (Value.bool false)) d1n fun c2t d1o =>
 R c2t d1o)
 (R (Value.bool false) b4i)))
def b4j (x0 : Value) (w : World) (R : Value → World → Prop) (E : Pan) : Prop :=
 opK Tryd.prog E (xV (Instr.box 177 x0)) w fun p8 w_2 =>
 opK Tryd.prog E (xV (Instr.fieldAt 177 p8 0)) w_2 fun a7m w_4 =>
 opK Tryd.prog E (xV (Instr.fieldAt 88 a7m 4)) w_4 fun b1p w_6 =>
 opK Tryd.prog E (xV (Instr.loadAt 23 b1p)) w_6 fun a1C w_8 =>
 opK Tryd.prog E (xBuiltin .len #[23] 3 [false] [a1C]) w_8 fun a5S l0 =>
 opK Tryd.prog E (xV (Instr.fieldAt 177 p8 0)) l0 fun b1C q9 =>
 opK Tryd.prog E (xV (Instr.fieldAt 88 b1C 5)) q9 fun a1T o7 =>
 opK Tryd.prog E (xV (Instr.loadAt 23 a1T)) o7 fun b1D s4 =>
 opK Tryd.prog E (xBuiltin .len #[23] 3 [false] [b1D]) s4 fun b1E s5 =>
 opK Tryd.prog E (xBin .add 3 (.tmp 9) (.tmp 13) a5S b1E) s5 fun b1F r7 =>
 opK Tryd.prog E (xBin .gtr 3 (.tmp 14) (.const (Value.int .i64 0)) b1F (Value.int .i64 0)) r7 fun a5X u2 =>
 opK Tryd.prog E (xV (Instr.fieldAt 177 p8 0)) u2 fun b1G u5 =>
 opK Tryd.prog E (xV (Instr.fieldAt 88 b1G 2)) u5 fun c7q y5 =>
 opK Tryd.prog E (xV (Instr.loadAt 28 c7q)) y5 fun b1H C1 =>
 opK Tryd.prog E (xBuiltin .len #[28] 3 [false] [b1H]) C1 fun a8q C5 =>
 opK Tryd.prog E (xV (Instr.fieldAt 177 p8 0)) C5 fun a5Y B8 =>
 opK Tryd.prog E (xV (Instr.fieldAt 88 a5Y 3)) B8 fun c7r C8 =>
 opK Tryd.prog E (xV (Instr.loadAt 31 c7r)) C8 fun c7s G1 =>
 opK Tryd.prog E (xBuiltin .len #[31] 3 [false] [c7s]) G1 fun c7t F6 =>
 opK Tryd.prog E (xV (Instr.build 213 #[(0, a8q), (1, c7t)])) F6 fun c7u G2 =>
 opK Tryd.prog E (xV (Instr.alloc 213 true (.tuple #[]))) G2 fun a6A K5 =>
 opK Tryd.prog E (xU (Instr.storeAt 213 a6A c7u)) K5 fun _z_43 J1 =>
 opK Tryd.prog E (xV (Instr.fieldAt 177 p8 0)) J1 fun c7v N3 =>
 opK Tryd.prog E (xV (Instr.fieldAt 88 c7v 1)) N3 fun c7w P9 =>
 opK Tryd.prog E (xV (Instr.loadAt 9 c7w)) P9 fun b1I M6 =>
 opK Tryd.prog E (xBin .eql 9 (.tmp 27) (.const (Value.string ⟨#[]⟩)) b1I (Value.string ⟨#[]⟩)) M6 fun a5W R6 =>
 opK Tryd.prog E (gsem (asB a5W) true (xV (Op.unary .not (gval (asB a5W) true a5X)))) R6 fun c7x U2 =>
 opK Tryd.prog E (xPick a5W c7x (Value.bool false)) U2 fun c7y W3 =>
 opK Tryd.prog E (xV (Instr.fieldAt 177 p8 0)) W3 fun c7z U3 =>
 opK Tryd.prog E (xV (Instr.fieldAt 88 c7z 0)) U3 fun c7A W4 =>
 opK Tryd.prog E (xV (Instr.loadAt 3 c7A)) W4 fun a2L Z5 =>
 opK Tryd.prog E (xBin .eql 3 (.tmp 35) (.const (Value.int .i64 1)) a2L (Value.int .i64 1)) Z5 fun c7B S9 =>
 xcond c7B
 (opK Tryd.prog E (xV (Op.unary .not a5X)) S9 fun a8r W5 =>
 opK Tryd.prog E (gsem (asB a8r) true (xV (Instr.loadAt 213 a6A))) W5 fun c7C Z6 =>
 opK Tryd.prog E (gsem (asB a8r) true (xV (Instr.build 213 #[(0, (Value.int .i64 1)), (1, (Value.int .i64 0))]))) Z6 fun c7D U4 =>
 opK Tryd.prog E (gsem (asB a8r) true (xBin .eql 213 (.tmp 41) (.tmp 42) c7C c7D)) U4 fun c7E Z7 =>
 opK Tryd.prog E (xPick a8r c7E (Value.bool false)) Z7 fun c7F a0p =>
 R c7F a0p)
 (opK Tryd.prog E (xBin .eql 3 (.tmp 35) (.const (Value.int .i64 2)) a2L (Value.int .i64 2)) S9 fun c7G X2 =>
 xcond c7G
 (opK Tryd.prog E (xV (Op.unary .not a5X)) X2 fun a8s Z8 =>
 opK Tryd.prog E (gsem (asB a8s) true (xV (Instr.loadAt 213 a6A))) Z8 fun c7H W6 =>
 opK Tryd.prog E (gsem (asB a8s) true (xV (Instr.build 213 #[(0, (Value.int .i64 2)), (1, (Value.int .i64 0))]))) W6 fun c7I a0Z =>
 opK Tryd.prog E (gsem (asB a8s) true (xBin .eql 213 (.tmp 50) (.tmp 51) c7H c7I)) a0Z fun c7J a2J =>
 opK Tryd.prog E (xPick a8s c7J (Value.bool false)) a2J fun c7K a3R =>
 R c7K a3R)
 (opK Tryd.prog E (xBin .eql 3 (.tmp 35) (.const (Value.int .i64 3)) a2L (Value.int .i64 3)) X2 fun c7L a1Y =>
 xcond c7L
 (opK Tryd.prog E (xV (Instr.fieldAt 177 p8 0)) a1Y fun c7M a4I =>
 opK Tryd.prog E (xV (Instr.fieldAt 88 c7M 1)) a4I fun c7N a4J =>
 opK Tryd.prog E (xV (Instr.loadAt 9 c7N)) a4J fun c7O a3S =>
 opK Tryd.prog E (xBin .eql 9 (.tmp 58) (.const (Value.string ⟨#[]⟩)) c7O (Value.string ⟨#[]⟩)) a3S fun a8t a3T =>
 opK Tryd.prog E (gsem (asB a8t) true (xV (Instr.loadAt 213 a6A))) a3T fun c7P a4K =>
 opK Tryd.prog E (gsem (asB a8t) true (xV (Instr.build 213 #[(0, (Value.int .i64 0)), (1, (Value.int .i64 1))]))) a4K fun c7Q a1b =>
 opK Tryd.prog E (gsem (asB a8t) true (xBin .eql 213 (.tmp 61) (.tmp 62) c7P c7Q)) a1b fun c2u a1N =>
 opK Tryd.prog E (xPick a8t c2u (Value.bool false)) a1N fun c2v a3B =>
 R c2v a3B)
 (opK Tryd.prog E (xBin .eql 3 (.tmp 35) (.const (Value.int .i64 4)) a2L (Value.int .i64 4)) a1Y fun c2w a4L =>
 xcond c2w
 (opK Tryd.prog E (xV (Instr.fieldAt 177 p8 0)) a4L fun c2x a4M =>
 opK Tryd.prog E (xV (Instr.fieldAt 88 c2x 1)) a4M fun c2y a8d =>
 opK Tryd.prog E (xV (Instr.loadAt 9 c2y)) a8d fun c2z a8e =>
 opK Tryd.prog E (xBin .eql 9 (.tmp 69) (.const (Value.string ⟨#[]⟩)) c2z (Value.string ⟨#[]⟩)) a8e fun a2y a8f =>
 opK Tryd.prog E (gsem (asB a2y) true (xV (Instr.fieldAt 177 p8 0))) a8f fun c2A a8g =>
 opK Tryd.prog E (gsem (asB a2y) true (xV (Instr.fieldAt 88 c2A 5))) a8g fun c2B a8h =>
 opK Tryd.prog E (gsem (asB a2y) true (xV (Instr.loadAt 23 c2B))) a8h fun c2C a8i =>
 opK Tryd.prog E (gsem (asB a2y) true (xBuiltin .len #[23] 3 [false] [c2C])) a8i fun c2D b4k =>
 opK Tryd.prog E (gsem (asB a2y) true (xBin .eql 3 (.tmp 75) (.const (Value.int .i64 0)) c2D (Value.int .i64 0))) b4k fun c2E b4l =>
 opK Tryd.prog E (xPick a2y c2E (Value.bool false)) b4l fun a6B b0o =>
 opK Tryd.prog E (gsem (asB a6B) true (xV (Instr.loadAt 213 a6A))) b0o fun c2F b4m =>
 opK Tryd.prog E (gsem (asB a6B) true (xV (Instr.build 213 #[(0, (Value.int .i64 0)), (1, (Value.int .i64 1))]))) b4m fun c2G c0u =>
 opK Tryd.prog E (gsem (asB a6B) true (xBin .eql 213 (.tmp 79) (.tmp 80) c2F c2G)) c0u fun c2H c0v =>
 opK Tryd.prog E (xPick a6B c2H (Value.bool false)) c0v fun c2I d1p =>
 R c2I d1p)
 (xcut (fun d1q d1r => a9k a6A c7y a2L (nth d1q 0) d1r R E) fun j1 =>
 opK Tryd.prog E (xBin .eql 3 (.tmp 35) (.const (Value.int .i64 5)) a2L (Value.int .i64 5)) a4L fun b3p c0w =>
 xcond b3p
 (j1 [b3p] c0w)
 (opK Tryd.prog E (xBin .eql 3 (.tmp 35) (.const (Value.int .i64 6)) a2L (Value.int .i64 6)) c0w fun c2J d1s =>
 j1 [c2J] d1s)))))
noncomputable def c7R : Code := Tryd.f158.body.getD .skip
def c7S : Hint := (.seq .none (.seq .none (.seq .none (.seq .none (.seq (.seq .none (.block (.seq .none (.cond (.seq .none .none) (.seq .none (.cond (.seq .none .none) (.seq .none (.cond (.seq .none .none) (.seq .none (.cond (.seq .none .none) (.cut [83] (.seq .none (.cond .none .none)) (.cond (.seq .none .none) (.seq .none (.cond (.seq .none .none) .none)))))))))))))) (.seq .none .none))))))
theorem c2K (x0 : Value) (w : World) (R : Value → World → Prop) (E : Pan) : b4j x0 w R E = callX Tryd.prog [.tmp 2] c7R c7S [x0] w R E := by kernel_rfl
theorem c2L {x0 : Value} {w : World} {R : Value → World → Prop} {E : Pan} (h : b4j x0 w R E) : Cv Tryd.prog 158 #[x0] w R E := by
 refine f8 (args := [x0]) (c := c7R) (h := c7S) (rs := [.tmp 2]) Tryd.func158 (by kernel_rfl) (by kernel_rfl) (Nat.le_of_ble_eq_true (by kernel_rfl)) (by kernel_rfl) (by kernel_rfl) (by kernel_rfl) ?_
 rw [← c2K]
 exact h
def b4n (x0 : Value) (w : World) (R : Value → World → Prop) (E : Pan) : Prop :=
 opK Tryd.prog E (xV (Instr.box 177 x0)) w fun p8 w_2 =>
 dX w_2 fun w_3 =>
 qP Tryd.prog (xV (Instr.fieldAt 177 p8 0)) fun a8P =>
 qP Tryd.prog (xV (Instr.fieldAt 88 a8P 3)) fun U1 =>
 qP Tryd.prog (xV (Instr.fieldAt 177 p8 0)) fun b8h =>
 qP Tryd.prog (xV (Instr.fieldAt 88 b8h 2)) fun a1C =>
 qP Tryd.prog (xV (Instr.fieldAt 177 p8 0)) fun d1t =>
 qP Tryd.prog (xV (Instr.fieldAt 88 d1t 4)) fun a6C =>
 qP Tryd.prog (xV (Instr.fieldAt 177 p8 0)) fun c7T =>
 qP Tryd.prog (xV (Instr.fieldAt 88 c7T 5)) fun a1f =>
 qL Tryd.prog w_3 (blk U1) (xV (Instr.loadAt 31 U1)) fun d1u =>
 qL Tryd.prog w_3 (blk a1C) (xV (Instr.loadAt 28 a1C)) fun a8o =>
 qL Tryd.prog w_3 (blk a6C) (xV (Instr.loadAt 23 a6C)) fun c7U =>
 qL Tryd.prog w_3 (blk a1f) (xV (Instr.loadAt 23 a1f)) fun b0V =>
 opK Tryd.prog E (xCall (Value.func (.func 154) #[] #[]) [d1u, (Value.func (.func 155) #[] #[])]) w_3 fun d1v Z4 =>
 keepX [(blk a1f), (blk a6C), (blk a1C)] w_3 Z4 (opK Tryd.prog E (xCall (Value.func (.func 150) #[] #[]) [a8o, (Value.func (.func 151) #[] #[])]) Z4 fun c7V a4H =>
 keepX [(blk a1f), (blk a6C)] Z4 a4H (opK Tryd.prog E (xCall (Value.func (.func 97) #[] #[]) [c7U, (Value.func (.func 98) #[] #[])]) a4H fun c7W a5J =>
 keepX [(blk a1f)] a4H a5J (opK Tryd.prog E (xCall (Value.func (.func 97) #[] #[]) [b0V, (Value.func (.func 98) #[] #[])]) a5J fun c7X a7n =>
 keepX [] a5J a7n (opK Tryd.prog E (xV (Instr.buildSlice 172 4 #[(0, d1v), (1, c7V), (2, c7W), (3, c7X)])) a7n fun c7Y a8Q =>
 keepX [] a7n a8Q (opK Tryd.prog E (xCall (Value.func (.func 94) #[] #[]) [c7Y]) a8Q fun c7Z a2H =>
 keepX [] a8Q a2H (R c7Z a2H))))))
noncomputable def c8a : Code := Tryd.f159.body.getD .skip
def c8b : Hint := (.seq .none (.seq (.reg [(0, 8, 2), (1, 16, 8), (2, 32, 16), (4, 64, 32), (0, 128, 2), (16, 256, 128), (32, 512, 256), (72, 1024, 512), (0, 2048, 2), (256, 4096, 2048), (512, 8192, 4096), (1152, 16384, 8192), (0, 32768, 2), (4096, 65536, 32768), (8192, 131072, 65536), (18432, 262144, 131072), (34952, 524288, 279616), (98304, 1048576, 524288), (262143, 4, 1048576)] [17476, 17476, 17472, 17472, 17476, 17476, 17412, 17408, 17476, 17476, 16452, 16384, 17476, 17476, 1092, 0, 0, 0, 17476] (.early 0 (.early 1 (.early 4 (.early 5 (.early 8 (.early 9 (.early 12 (.early 13 (.load 2 (.load 6 (.load 10 (.load 14 (.step 3 (.step 7 (.step 11 (.step 15 (.step 16 (.step 17 (.early 18 .done)))))))))))))))))))) .none))
theorem c2M (x0 : Value) (w : World) (R : Value → World → Prop) (E : Pan) : b4n x0 w R E = callX Tryd.prog [.tmp 2] c8a c8b [x0] w R E := by kernel_rfl
theorem c2N {x0 : Value} {w : World} {R : Value → World → Prop} {E : Pan} (h : b4n x0 w R E) : Cv Tryd.prog 159 #[x0] w R E := by
 refine f8 (args := [x0]) (c := c8a) (h := c8b) (rs := [.tmp 2]) Tryd.func159 (by kernel_rfl) (by kernel_rfl) (Nat.le_of_ble_eq_true (by kernel_rfl)) (by kernel_rfl) (by kernel_rfl) (by kernel_rfl) ?_
 rw [← c2M]
 exact h
end Go.Proofs.YthldnpmfelniiaaDoor
