/- The second reading of some of the program's functions, printed by gen2.py off the code; each is held against the code by the kernel. -/
import Derived.Test.YthldnpmfelniiaaDoorProg
import Derived.Test.YthldnpmfelniiaaDoorzLK0
import Derived.KernelRfl
namespace Go.Proofs.YthldnpmfelniiaaDoor
open Go.RowKit
set_option maxRecDepth 100000
def b2f (x5 : Value) (w : World) (R : Value → World → Prop) (_E : Pan) : Prop :=
 ∀ _τ : Fr, (R x5 w)
def b6R (x1 x5 x8 x9 x10 : Value) (w : World) (next2 : List Value → World → Prop) (j1 : List Value → World → Prop) (_R : Value → World → Prop) (E : Pan) : Prop :=
 opK Tryd.prog E (xBin .lss 3 (.tmp 10) (.tmp 9) x10 x9) w fun a6S w_6 =>
 xcond a6S
 (opK Tryd.prog E (xV (Instr.indexAt 31 x8 x10)) w_6 fun a4p w_8 =>
 opK Tryd.prog E (xV (Instr.loadAt 33 a4p)) w_8 fun a4q k8 =>
 opK Tryd.prog E (xV (Instr.alloc 33 true (.tuple #[]))) k8 fun a1p o9 =>
 opK Tryd.prog E (xU (Instr.storeAt 33 a1p a4q)) o9 fun _z_13 o0 =>
 opK Tryd.prog E (xV (Instr.loadAt 33 a1p)) o0 fun a2H r7 =>
 opK Tryd.prog E (xCall x1 [a2H]) r7 fun a2I s7 =>
 opK Tryd.prog E (xV (Instr.buildSlice 97 1 #[(0, a2I)])) s7 fun a2J r6 =>
 opK Tryd.prog E (xBuiltin .append #[97, 97] 97 [false, false] [x5, a2J]) r6 fun a2K u2 =>
 opK Tryd.prog E (xBin .add 3 (.tmp 10) (.const (Value.int .i64 1)) x10 (Value.int .i64 1)) u2 fun a2L s9 =>
 next2 [a2K, a2L] s9)
 (j1 [x5] w_6)
def b7O (x0 x1 : Value) (w : World) (R : Value → World → Prop) (E : Pan) : Prop :=
 xcut (fun l_1 w_2 => b2f (nth l_1 0) w_2 R E) fun j1 =>
 opK Tryd.prog E (xBuiltin .len #[31] 3 [false] [x0]) w fun a3o w_4 =>
 xloop [5, 10] [(Value.slice none 0 0), (Value.int .i64 0)] w_4 fun τ_25 y7 next2 =>
 b6R x1 (τ_25 5) x0 a3o (τ_25 10) y7 next2 j1 R E
noncomputable def d2c : Code := Tryd.f154.body.getD .skip
def d2d : Hint := (.seq .none (.seq .none (.cut [5] (.seq .none (.block (.loop [5, 10] (.seq .none (.seq (.cond .none .none) (.seq (.block (.seq .none .none)) .none)))))) (.seq .none .none))))
theorem c6L (x0 x1 : Value) (w : World) (R : Value → World → Prop) (E : Pan) : b7O x0 x1 w R E = callX Tryd.prog [.tmp 4] d2c d2d [x0, x1] w R E := by kernel_rfl
theorem c6M {x0 x1 : Value} {w : World} {R : Value → World → Prop} {E : Pan} (h : b7O x0 x1 w R E) : Cv Tryd.prog 154 #[x0, x1] w R E := by
 refine f7 (args := [x0, x1]) (c := d2c) (h := d2d) (rs := [.tmp 4]) Tryd.func154 (by kernel_rfl) (by kernel_rfl) (Nat.le_of_ble_eq_true (by kernel_rfl)) (by kernel_rfl) (by kernel_rfl) (by kernel_rfl) ?_
 rw [← c6L]
 exact h
def b7P (x0 : Value) (w : World) (R : Value → World → Prop) (E : Pan) : Prop :=
 opK Tryd.prog E (xV (Instr.box 33 x0)) w fun o7 w_2 =>
 opK Tryd.prog E (xV (Instr.loadAt 33 o7)) w_2 fun a1V w_4 =>
 opK Tryd.prog E (xV (Instr.build 106 #[(0, a1V)])) w_4 fun Y0 w_6 =>
 opK Tryd.prog E (xV (Instr.makeInterface 106 Y0)) w_6 fun a1W w_8 =>
 R a1W w_8
noncomputable def d2e : Code := Tryd.f155.body.getD .skip
def d2f : Hint := (.seq .none (.seq .none .none))
theorem c6N (x0 : Value) (w : World) (R : Value → World → Prop) (E : Pan) : b7P x0 w R E = callX Tryd.prog [.tmp 2] d2e d2f [x0] w R E := by kernel_rfl
theorem c6O {x0 : Value} {w : World} {R : Value → World → Prop} {E : Pan} (h : b7P x0 w R E) : Cv Tryd.prog 155 #[x0] w R E := by
 refine f7 (args := [x0]) (c := d2e) (h := d2f) (rs := [.tmp 2]) Tryd.func155 (by kernel_rfl) (by kernel_rfl) (Nat.le_of_ble_eq_true (by kernel_rfl)) (by kernel_rfl) (by kernel_rfl) (by kernel_rfl) ?_
 rw [← c6N]
 exact h
def b7Q (x0 : Value) (w : World) (R : Value → World → Prop) (E : Pan) : Prop :=
 opK Tryd.prog E (xV (Instr.box 175 x0)) w fun o7 w_2 =>
 opK Tryd.prog E (xV (Instr.fieldAt 175 o7 0)) w_2 fun a1V w_4 =>
 opK Tryd.prog E (xV (Instr.fieldAt 67 a1V 1)) w_4 fun Y0 w_6 =>
 opK Tryd.prog E (xV (Instr.loadAt 3 Y0)) w_6 fun a1W w_8 =>
 opK Tryd.prog E (xBin .geq 3 (.tmp 5) (.const (Value.int .i64 0)) a1W (Value.int .i64 0)) w_8 fun a6O k8 =>
 opK Tryd.prog E (gsem (asB a6O) true (xV (Instr.fieldAt 175 o7 0))) k8 fun b0E o9 =>
 opK Tryd.prog E (gsem (asB a6O) true (xV (Instr.fieldAt 67 b0E 1))) o9 fun b0Z o0 =>
 opK Tryd.prog E (gsem (asB a6O) true (xV (Instr.loadAt 3 b0Z))) o0 fun b4J r7 =>
 opK Tryd.prog E (gsem (asB a6O) true (xBin .leq 3 (.tmp 10) (.const (Value.int .i64 2147483647)) b4J (Value.int .i64 2147483647))) r7 fun b4K s7 =>
 opK Tryd.prog E (xPick a6O b4K (Value.bool false)) s7 fun b4L r6 =>
 R b4L r6
noncomputable def d2g : Code := Tryd.f156.body.getD .skip
def d2h : Hint := (.seq .none (.seq .none .none))
theorem c6P (x0 : Value) (w : World) (R : Value → World → Prop) (E : Pan) : b7Q x0 w R E = callX Tryd.prog [.tmp 2] d2g d2h [x0] w R E := by kernel_rfl
theorem c6Q {x0 : Value} {w : World} {R : Value → World → Prop} {E : Pan} (h : b7Q x0 w R E) : Cv Tryd.prog 156 #[x0] w R E := by
 refine f7 (args := [x0]) (c := d2g) (h := d2h) (rs := [.tmp 2]) Tryd.func156 (by kernel_rfl) (by kernel_rfl) (Nat.le_of_ble_eq_true (by kernel_rfl)) (by kernel_rfl) (by kernel_rfl) (by kernel_rfl) ?_
 rw [← c6P]
 exact h
def b7R (x0 : Value) (w : World) (R : Value → World → Prop) (E : Pan) : Prop :=
 opK Tryd.prog E (xV (Instr.box 175 x0)) w fun _t1_1 w_2 =>
 R (Value.slice none 0 0) w_2
noncomputable def d2i : Code := Tryd.f157.body.getD .skip
def d2j : Hint := (.seq .none (.seq .none .none))
theorem c6R (x0 : Value) (w : World) (R : Value → World → Prop) (E : Pan) : b7R x0 w R E = callX Tryd.prog [.tmp 2] d2i d2j [x0] w R E := by kernel_rfl
theorem c6S {x0 : Value} {w : World} {R : Value → World → Prop} {E : Pan} (h : b7R x0 w R E) : Cv Tryd.prog 157 #[x0] w R E := by
 refine f7 (args := [x0]) (c := d2i) (h := d2j) (rs := [.tmp 2]) Tryd.func157 (by kernel_rfl) (by kernel_rfl) (Nat.le_of_ble_eq_true (by kernel_rfl)) (by kernel_rfl) (by kernel_rfl) (by kernel_rfl) ?_
 rw [← c6R]
 exact h
def b2g (x4 x5 x35 x83 : Value) (w : World) (R : Value → World → Prop) (E : Pan) : Prop :=
 ∀ _τ : Fr, (xcond x83
 (opK Tryd.prog E (gsem (asB x5) true (xV (Instr.loadAt 213 x4))) w fun c6T d8p =>
 opK Tryd.prog E (gsem (asB x5) true (xV (Instr.build 213 #[(0, (Value.int .i64 0)), (1, (Value.int .i64 1))]))) d8p fun c6U c4W =>
 opK Tryd.prog E (gsem (asB x5) true (xBin .eql 213 (.tmp 88) (.tmp 89) c6T c6U)) c4W fun c6V d8q =>
 opK Tryd.prog E (xPick x5 c6V (Value.bool false)) d8q fun c6W d8r =>
 R c6W d8r)
 (opK Tryd.prog E (xBin .eql 3 (.tmp 35) (.const (Value.int .i64 7)) x35 (Value.int .i64 7)) w fun c6X b7S =>
 xcond c6X
 (opK Tryd.prog E (gsem (asB x5) true (xV (Instr.loadAt 213 x4))) b7S fun c6Y d8s =>
 opK Tryd.prog E (gsem (asB x5) true (xV (Instr.build 213 #[]))) d8s fun c6Z d8t =>
 opK Tryd.prog E (gsem (asB x5) true (xBin .eql 213 (.tmp 96) (.tmp 97) c6Y c6Z)) d8t fun c7a d8u =>
 opK Tryd.prog E (xPick x5 c7a (Value.bool false)) d8u fun c7b d8v =>
 R c7b d8v)
 (R (Value.bool false) b7S)))
def b7T (x0 : Value) (w : World) (R : Value → World → Prop) (E : Pan) : Prop :=
 opK Tryd.prog E (xV (Instr.box 177 x0)) w fun o7 w_2 =>
 opK Tryd.prog E (xV (Instr.fieldAt 177 o7 0)) w_2 fun b4x w_4 =>
 opK Tryd.prog E (xV (Instr.fieldAt 88 b4x 4)) w_4 fun b4y w_6 =>
 opK Tryd.prog E (xV (Instr.loadAt 23 b4y)) w_6 fun a1U w_8 =>
 opK Tryd.prog E (xBuiltin .len #[23] 3 [false] [a1U]) w_8 fun a5X k8 =>
 opK Tryd.prog E (xV (Instr.fieldAt 177 o7 0)) k8 fun a7S o9 =>
 opK Tryd.prog E (xV (Instr.fieldAt 88 a7S 5)) o9 fun a1I o0 =>
 opK Tryd.prog E (xV (Instr.loadAt 23 a1I)) o0 fun b4M r7 =>
 opK Tryd.prog E (xBuiltin .len #[23] 3 [false] [b4M]) r7 fun b4N s7 =>
 opK Tryd.prog E (xBin .add 3 (.tmp 9) (.tmp 13) a5X b4N) s7 fun b4O r6 =>
 opK Tryd.prog E (xBin .gtr 3 (.tmp 14) (.const (Value.int .i64 0)) b4O (Value.int .i64 0)) r6 fun a8i u2 =>
 opK Tryd.prog E (xV (Instr.fieldAt 177 o7 0)) u2 fun b4P s9 =>
 opK Tryd.prog E (xV (Instr.fieldAt 88 b4P 2)) s9 fun d2k y7 =>
 opK Tryd.prog E (xV (Instr.loadAt 28 d2k)) y7 fun b4Q B5 =>
 opK Tryd.prog E (xBuiltin .len #[28] 3 [false] [b4Q]) B5 fun b1b C5 =>
 opK Tryd.prog E (xV (Instr.fieldAt 177 o7 0)) C5 fun a8j B6 =>
 opK Tryd.prog E (xV (Instr.fieldAt 88 a8j 3)) B6 fun d2l D5 =>
 opK Tryd.prog E (xV (Instr.loadAt 31 d2l)) D5 fun d2m E4 =>
 opK Tryd.prog E (xBuiltin .len #[31] 3 [false] [d2m]) E4 fun d2n E0 =>
 opK Tryd.prog E (xV (Instr.build 213 #[(0, b1b), (1, d2n)])) E0 fun d2o G6 =>
 opK Tryd.prog E (xV (Instr.alloc 213 true (.tuple #[]))) G6 fun a8U G9 =>
 opK Tryd.prog E (xU (Instr.storeAt 213 a8U d2o)) G9 fun _z_43 H8 =>
 opK Tryd.prog E (xV (Instr.fieldAt 177 o7 0)) H8 fun d2p J4 =>
 opK Tryd.prog E (xV (Instr.fieldAt 88 d2p 1)) J4 fun d2q M5 =>
 opK Tryd.prog E (xV (Instr.loadAt 9 d2q)) M5 fun b4R J5 =>
 opK Tryd.prog E (xBin .eql 9 (.tmp 27) (.const (Value.string ⟨#[]⟩)) b4R (Value.string ⟨#[]⟩)) J5 fun a8g Q0 =>
 opK Tryd.prog E (gsem (asB a8g) true (xV (Op.unary .not (gval (asB a8g) true a8i)))) Q0 fun d2r R7 =>
 opK Tryd.prog E (xPick a8g d2r (Value.bool false)) R7 fun d2s T3 =>
 opK Tryd.prog E (xV (Instr.fieldAt 177 o7 0)) T3 fun d2t S7 =>
 opK Tryd.prog E (xV (Instr.fieldAt 88 d2t 0)) S7 fun d2u W4 =>
 opK Tryd.prog E (xV (Instr.loadAt 3 d2u)) W4 fun a4T Z9 =>
 opK Tryd.prog E (xBin .eql 3 (.tmp 35) (.const (Value.int .i64 1)) a4T (Value.int .i64 1)) Z9 fun d2v S8 =>
 xcond d2v
 (opK Tryd.prog E (xV (Op.unary .not a8i)) S8 fun b1c W5 =>
 opK Tryd.prog E (gsem (asB b1c) true (xV (Instr.loadAt 213 a8U))) W5 fun d2w a0b =>
 opK Tryd.prog E (gsem (asB b1c) true (xV (Instr.build 213 #[(0, (Value.int .i64 1)), (1, (Value.int .i64 0))]))) a0b fun d2x T4 =>
 opK Tryd.prog E (gsem (asB b1c) true (xBin .eql 213 (.tmp 41) (.tmp 42) d2w d2x)) T4 fun d2y Y1 =>
 opK Tryd.prog E (xPick b1c d2y (Value.bool false)) Y1 fun d2z a0m =>
 R d2z a0m)
 (opK Tryd.prog E (xBin .eql 3 (.tmp 35) (.const (Value.int .i64 2)) a4T (Value.int .i64 2)) S8 fun d2A Y2 =>
 xcond d2A
 (opK Tryd.prog E (xV (Op.unary .not a8i)) Y2 fun b1d a0d =>
 opK Tryd.prog E (gsem (asB b1d) true (xV (Instr.loadAt 213 a8U))) a0d fun d2B W6 =>
 opK Tryd.prog E (gsem (asB b1d) true (xV (Instr.build 213 #[(0, (Value.int .i64 2)), (1, (Value.int .i64 0))]))) W6 fun d2C a0M =>
 opK Tryd.prog E (gsem (asB b1d) true (xBin .eql 213 (.tmp 50) (.tmp 51) d2B d2C)) a0M fun d2D a1X =>
 opK Tryd.prog E (xPick b1d d2D (Value.bool false)) a1X fun d2E a2G =>
 R d2E a2G)
 (opK Tryd.prog E (xBin .eql 3 (.tmp 35) (.const (Value.int .i64 3)) a4T (Value.int .i64 3)) Y2 fun d2F a1y =>
 xcond d2F
 (opK Tryd.prog E (xV (Instr.fieldAt 177 o7 0)) a1y fun d2G a4O =>
 opK Tryd.prog E (xV (Instr.fieldAt 88 d2G 1)) a4O fun d2H a4P =>
 opK Tryd.prog E (xV (Instr.loadAt 9 d2H)) a4P fun d2I a3m =>
 opK Tryd.prog E (xBin .eql 9 (.tmp 58) (.const (Value.string ⟨#[]⟩)) d2I (Value.string ⟨#[]⟩)) a3m fun b1e a3W =>
 opK Tryd.prog E (gsem (asB b1e) true (xV (Instr.loadAt 213 a8U))) a3W fun d2J a4Q =>
 opK Tryd.prog E (gsem (asB b1e) true (xV (Instr.build 213 #[(0, (Value.int .i64 0)), (1, (Value.int .i64 1))]))) a4Q fun d2K a1q =>
 opK Tryd.prog E (gsem (asB b1e) true (xBin .eql 213 (.tmp 61) (.tmp 62) d2J d2K)) a1q fun c7c a1M =>
 opK Tryd.prog E (xPick b1e c7c (Value.bool false)) a1M fun c7d a3G =>
 R c7d a3G)
 (opK Tryd.prog E (xBin .eql 3 (.tmp 35) (.const (Value.int .i64 4)) a4T (Value.int .i64 4)) a1y fun c7e a4n =>
 xcond c7e
 (opK Tryd.prog E (xV (Instr.fieldAt 177 o7 0)) a4n fun c7f a4o =>
 opK Tryd.prog E (xV (Instr.fieldAt 88 c7f 1)) a4o fun c7g a6Q =>
 opK Tryd.prog E (xV (Instr.loadAt 9 c7g)) a6Q fun c7h a6R =>
 opK Tryd.prog E (xBin .eql 9 (.tmp 69) (.const (Value.string ⟨#[]⟩)) c7h (Value.string ⟨#[]⟩)) a6R fun a4A b0J =>
 opK Tryd.prog E (gsem (asB a4A) true (xV (Instr.fieldAt 177 o7 0))) b0J fun c7i b0K =>
 opK Tryd.prog E (gsem (asB a4A) true (xV (Instr.fieldAt 88 c7i 5))) b0K fun c7j b0L =>
 opK Tryd.prog E (gsem (asB a4A) true (xV (Instr.loadAt 23 c7j))) b0L fun c7k b0M =>
 opK Tryd.prog E (gsem (asB a4A) true (xBuiltin .len #[23] 3 [false] [c7k])) b0M fun c7l b7U =>
 opK Tryd.prog E (gsem (asB a4A) true (xBin .eql 3 (.tmp 75) (.const (Value.int .i64 0)) c7l (Value.int .i64 0))) b7U fun c7m b7V =>
 opK Tryd.prog E (xPick a4A c7m (Value.bool false)) b7V fun a8V b3i =>
 opK Tryd.prog E (gsem (asB a8V) true (xV (Instr.loadAt 213 a8U))) b3i fun c7n b7W =>
 opK Tryd.prog E (gsem (asB a8V) true (xV (Instr.build 213 #[(0, (Value.int .i64 0)), (1, (Value.int .i64 1))]))) b7W fun c7o c4X =>
 opK Tryd.prog E (gsem (asB a8V) true (xBin .eql 213 (.tmp 79) (.tmp 80) c7n c7o)) c4X fun c7p c4Y =>
 opK Tryd.prog E (xPick a8V c7p (Value.bool false)) c4Y fun c7q d8w =>
 R c7q d8w)
 (xcut (fun d8x d8y => b2g a8U d2s a4T (nth d8x 0) d8y R E) fun j1 =>
 opK Tryd.prog E (xBin .eql 3 (.tmp 35) (.const (Value.int .i64 5)) a4T (Value.int .i64 5)) a4n fun b6S c4Z =>
 xcond b6S
 (j1 [b6S] c4Z)
 (opK Tryd.prog E (xBin .eql 3 (.tmp 35) (.const (Value.int .i64 6)) a4T (Value.int .i64 6)) c4Z fun c7r d8z =>
 j1 [c7r] d8z)))))
noncomputable def d2L : Code := Tryd.f158.body.getD .skip
def d2M : Hint := (.seq .none (.seq .none (.seq .none (.seq .none (.seq (.seq .none (.block (.seq .none (.cond (.seq .none .none) (.seq .none (.cond (.seq .none .none) (.seq .none (.cond (.seq .none .none) (.seq .none (.cond (.seq .none .none) (.cut [83] (.seq .none (.cond .none .none)) (.cond (.seq .none .none) (.seq .none (.cond (.seq .none .none) .none)))))))))))))) (.seq .none .none))))))
theorem c7s (x0 : Value) (w : World) (R : Value → World → Prop) (E : Pan) : b7T x0 w R E = callX Tryd.prog [.tmp 2] d2L d2M [x0] w R E := by kernel_rfl
theorem c7t {x0 : Value} {w : World} {R : Value → World → Prop} {E : Pan} (h : b7T x0 w R E) : Cv Tryd.prog 158 #[x0] w R E := by
 refine f7 (args := [x0]) (c := d2L) (h := d2M) (rs := [.tmp 2]) Tryd.func158 (by kernel_rfl) (by kernel_rfl) (Nat.le_of_ble_eq_true (by kernel_rfl)) (by kernel_rfl) (by kernel_rfl) (by kernel_rfl) ?_
 rw [← c7s]
 exact h
def b7X (x0 : Value) (w : World) (R : Value → World → Prop) (E : Pan) : Prop :=
 opK Tryd.prog E (xV (Instr.box 177 x0)) w fun o7 w_2 =>
 dX w_2 fun w_3 =>
 qP Tryd.prog (xV (Instr.fieldAt 177 o7 0)) fun b1N =>
 qP Tryd.prog (xV (Instr.fieldAt 88 b1N 3)) fun Y0 =>
 qP Tryd.prog (xV (Instr.fieldAt 177 o7 0)) fun c2u =>
 qP Tryd.prog (xV (Instr.fieldAt 88 c2u 2)) fun a1U =>
 qP Tryd.prog (xV (Instr.fieldAt 177 o7 0)) fun d8A =>
 qP Tryd.prog (xV (Instr.fieldAt 88 d8A 4)) fun a8W =>
 qP Tryd.prog (xV (Instr.fieldAt 177 o7 0)) fun d2N =>
 qP Tryd.prog (xV (Instr.fieldAt 88 d2N 5)) fun a0F =>
 qL Tryd.prog w_3 (blk Y0) (xV (Instr.loadAt 31 Y0)) fun d8B =>
 qL Tryd.prog w_3 (blk a1U) (xV (Instr.loadAt 28 a1U)) fun b0Z =>
 qL Tryd.prog w_3 (blk a8W) (xV (Instr.loadAt 23 a8W)) fun d2O =>
 qL Tryd.prog w_3 (blk a0F) (xV (Instr.loadAt 23 a0F)) fun b4d =>
 opK Tryd.prog E (xCall (Value.func (.func 154) #[] #[]) [d8B, (Value.func (.func 155) #[] #[])]) w_3 fun d8C a1x =>
 keepX [(blk a0F), (blk a8W), (blk a1U)] w_3 a1x (opK Tryd.prog E (xCall (Value.func (.func 150) #[] #[]) [b0Z, (Value.func (.func 151) #[] #[])]) a1x fun d2P a5Y =>
 keepX [(blk a0F), (blk a8W)] a1x a5Y (opK Tryd.prog E (xCall (Value.func (.func 97) #[] #[]) [d2O, (Value.func (.func 98) #[] #[])]) a5Y fun d2Q a7U =>
 keepX [(blk a0F)] a5Y a7U (opK Tryd.prog E (xCall (Value.func (.func 97) #[] #[]) [b4d, (Value.func (.func 98) #[] #[])]) a7U fun d2R b2h =>
 keepX [] a7U b2h (opK Tryd.prog E (xV (Instr.buildSlice 172 4 #[(0, d8C), (1, d2P), (2, d2Q), (3, d2R)])) b2h fun d2S a7V =>
 keepX [] b2h a7V (opK Tryd.prog E (xCall (Value.func (.func 94) #[] #[]) [d2S]) a7V fun d2T a4M =>
 keepX [] a7V a4M (R d2T a4M))))))
noncomputable def d2U : Code := Tryd.f159.body.getD .skip
def d2V : Hint := (.seq .none (.seq (.reg [(0, 8, 2), (1, 16, 8), (2, 32, 16), (4, 64, 32), (0, 128, 2), (16, 256, 128), (32, 512, 256), (72, 1024, 512), (0, 2048, 2), (256, 4096, 2048), (512, 8192, 4096), (1152, 16384, 8192), (0, 32768, 2), (4096, 65536, 32768), (8192, 131072, 65536), (18432, 262144, 131072), (34952, 524288, 279616), (98304, 1048576, 524288), (262143, 4, 1048576)] [17476, 17476, 17472, 17472, 17476, 17476, 17412, 17408, 17476, 17476, 16452, 16384, 17476, 17476, 1092, 0, 0, 0, 17476] (.early 0 (.early 1 (.early 4 (.early 5 (.early 8 (.early 9 (.early 12 (.early 13 (.load 2 (.load 6 (.load 10 (.load 14 (.step 3 (.step 7 (.step 11 (.step 15 (.step 16 (.step 17 (.early 18 .done)))))))))))))))))))) .none))
theorem c7u (x0 : Value) (w : World) (R : Value → World → Prop) (E : Pan) : b7X x0 w R E = callX Tryd.prog [.tmp 2] d2U d2V [x0] w R E := by kernel_rfl
theorem c7v {x0 : Value} {w : World} {R : Value → World → Prop} {E : Pan} (h : b7X x0 w R E) : Cv Tryd.prog 159 #[x0] w R E := by
 refine f7 (args := [x0]) (c := d2U) (h := d2V) (rs := [.tmp 2]) Tryd.func159 (by kernel_rfl) (by kernel_rfl) (Nat.le_of_ble_eq_true (by kernel_rfl)) (by kernel_rfl) (by kernel_rfl) (by kernel_rfl) ?_
 rw [← c7u]
 exact h
end Go.Proofs.YthldnpmfelniiaaDoor
