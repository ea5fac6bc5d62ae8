/- The second reading of some of the program's functions, printed by gen2.py off the code; each is held against the code by the kernel. -/
import Derived.Test.YthldnpmfelniiaaDoorProg
import Derived.Test.YthldnpmfelniiaaDoorzWK0
import Derived.KernelRfl
namespace Go.Proofs.YthldnpmfelniiaaDoor
open Go.RowKit
set_option maxRecDepth 100000
def c3p (x5 : Value) (w : World) (R : Value → World → Prop) (_E : Pan) : Prop :=
 ∀ _τ : Fr, (R x5 w)
def d0T (x1 x5 x8 x9 x10 : Value) (w : World) (next2 : List Value → World → Prop) (j1 : List Value → World → Prop) (_R : Value → World → Prop) (E : Pan) : Prop :=
 opK Tryd.prog E (xBin .lss 3 (.tmp 10) (.tmp 9) x10 x9) w fun a6A w_6 =>
 xcond a6A
 (opK Tryd.prog E (xV (Instr.indexAt 31 x8 x10)) w_6 fun a3b w_8 =>
 opK Tryd.prog E (xV (Instr.loadAt 33 a3b)) w_8 fun a2O o2 =>
 opK Tryd.prog E (xV (Instr.alloc 33 true (.tuple #[]))) o2 fun a5L o7 =>
 opK Tryd.prog E (xU (Instr.storeAt 33 a5L a2O)) o7 fun _z_13 o8 =>
 opK Tryd.prog E (xV (Instr.loadAt 33 a5L)) o8 fun a6L p9 =>
 opK Tryd.prog E (xCall x1 [a6L]) p9 fun a6M r5 =>
 opK Tryd.prog E (xV (Instr.buildSlice 97 1 #[(0, a6M)])) r5 fun a6N p7 =>
 opK Tryd.prog E (xBuiltin .append #[97, 97] 97 [false, false] [x5, a6N]) p7 fun a6O t1 =>
 opK Tryd.prog E (xBin .add 3 (.tmp 10) (.const (Value.int .i64 1)) x10 (Value.int .i64 1)) t1 fun a6P t8 =>
 next2 [a6O, a6P] t8)
 (j1 [x5] w_6)
def d2o (x0 x1 : Value) (w : World) (R : Value → World → Prop) (E : Pan) : Prop :=
 xcut (fun l_1 w_2 => c3p (nth l_1 0) w_2 R E) fun j1 =>
 opK Tryd.prog E (xBuiltin .len #[31] 3 [false] [x0]) w fun a5a w_4 =>
 xloop [5, 10] [(Value.slice none 0 0), (Value.int .i64 0)] w_4 fun τ_25 v2 next2 =>
 d0T x1 (τ_25 5) x0 a5a (τ_25 10) v2 next2 j1 R E
noncomputable def f5b : Code := Tryd.f154.body.getD .skip
def f5c : Hint := (.seq .none (.seq .none (.cut [5] (.seq .none (.block (.loop [5, 10] (.seq .none (.seq (.cond .none .none) (.seq (.block (.seq .none .none)) .none)))))) (.seq .none .none))))
theorem e6l (x0 x1 : Value) (w : World) (R : Value → World → Prop) (E : Pan) : d2o x0 x1 w R E = callX Tryd.prog [.tmp 4] f5b f5c [x0, x1] w R E := by kernel_rfl
theorem e6m {x0 x1 : Value} {w : World} {R : Value → World → Prop} {E : Pan} (h : d2o x0 x1 w R E) : Cv Tryd.prog 154 #[x0, x1] w R E := by
 refine i6 (args := [x0, x1]) (c := f5b) (h := f5c) (rs := [.tmp 4]) Tryd.func154 (by kernel_rfl) (by kernel_rfl) (Nat.le_of_ble_eq_true (by kernel_rfl)) (by kernel_rfl) (by kernel_rfl) (by kernel_rfl) ?_
 rw [← e6l]
 exact h
def d2p (x0 : Value) (w : World) (R : Value → World → Prop) (E : Pan) : Prop :=
 opK Tryd.prog E (xV (Instr.box 33 x0)) w fun t7 w_2 =>
 opK Tryd.prog E (xV (Instr.loadAt 33 t7)) w_2 fun T8 w_4 =>
 opK Tryd.prog E (xV (Instr.build 106 #[(0, T8)])) w_4 fun a3k w_6 =>
 opK Tryd.prog E (xV (Instr.makeInterface 106 a3k)) w_6 fun a5K w_8 =>
 R a5K w_8
noncomputable def f5d : Code := Tryd.f155.body.getD .skip
def f5e : Hint := (.seq .none (.seq .none .none))
theorem e6n (x0 : Value) (w : World) (R : Value → World → Prop) (E : Pan) : d2p x0 w R E = callX Tryd.prog [.tmp 2] f5d f5e [x0] w R E := by kernel_rfl
theorem e6o {x0 : Value} {w : World} {R : Value → World → Prop} {E : Pan} (h : d2p x0 w R E) : Cv Tryd.prog 155 #[x0] w R E := by
 refine i6 (args := [x0]) (c := f5d) (h := f5e) (rs := [.tmp 2]) Tryd.func155 (by kernel_rfl) (by kernel_rfl) (Nat.le_of_ble_eq_true (by kernel_rfl)) (by kernel_rfl) (by kernel_rfl) (by kernel_rfl) ?_
 rw [← e6n]
 exact h
def d2q (x0 : Value) (w : World) (R : Value → World → Prop) (E : Pan) : Prop :=
 opK Tryd.prog E (xV (Instr.box 175 x0)) w fun t7 w_2 =>
 opK Tryd.prog E (xV (Instr.fieldAt 175 t7 0)) w_2 fun T8 w_4 =>
 opK Tryd.prog E (xV (Instr.fieldAt 67 T8 1)) w_4 fun a3k w_6 =>
 opK Tryd.prog E (xV (Instr.loadAt 3 a3k)) w_6 fun a5K w_8 =>
 opK Tryd.prog E (xBin .geq 3 (.tmp 5) (.const (Value.int .i64 0)) a5K (Value.int .i64 0)) w_8 fun b1Y o2 =>
 opK Tryd.prog E (gsem (asB b1Y) true (xV (Instr.fieldAt 175 t7 0))) o2 fun c1g o7 =>
 opK Tryd.prog E (gsem (asB b1Y) true (xV (Instr.fieldAt 67 c1g 1))) o7 fun c1w o8 =>
 opK Tryd.prog E (gsem (asB b1Y) true (xV (Instr.loadAt 3 c1w))) o8 fun c6Y p9 =>
 opK Tryd.prog E (gsem (asB b1Y) true (xBin .leq 3 (.tmp 10) (.const (Value.int .i64 2147483647)) c6Y (Value.int .i64 2147483647))) p9 fun c6Z r5 =>
 opK Tryd.prog E (xPick b1Y c6Z (Value.bool false)) r5 fun c7a p7 =>
 R c7a p7
noncomputable def f5f : Code := Tryd.f156.body.getD .skip
def f5g : Hint := (.seq .none (.seq .none .none))
theorem e6p (x0 : Value) (w : World) (R : Value → World → Prop) (E : Pan) : d2q x0 w R E = callX Tryd.prog [.tmp 2] f5f f5g [x0] w R E := by kernel_rfl
theorem e6q {x0 : Value} {w : World} {R : Value → World → Prop} {E : Pan} (h : d2q x0 w R E) : Cv Tryd.prog 156 #[x0] w R E := by
 refine i6 (args := [x0]) (c := f5f) (h := f5g) (rs := [.tmp 2]) Tryd.func156 (by kernel_rfl) (by kernel_rfl) (Nat.le_of_ble_eq_true (by kernel_rfl)) (by kernel_rfl) (by kernel_rfl) (by kernel_rfl) ?_
 rw [← e6p]
 exact h
def d2r (x0 : Value) (w : World) (R : Value → World → Prop) (E : Pan) : Prop :=
 opK Tryd.prog E (xV (Instr.box 175 x0)) w fun _t1_1 w_2 =>
 R (Value.slice none 0 0) w_2
noncomputable def f5h : Code := Tryd.f157.body.getD .skip
def f5i : Hint := (.seq .none (.seq .none .none))
theorem e6r (x0 : Value) (w : World) (R : Value → World → Prop) (E : Pan) : d2r x0 w R E = callX Tryd.prog [.tmp 2] f5h f5i [x0] w R E := by kernel_rfl
theorem e6s {x0 : Value} {w : World} {R : Value → World → Prop} {E : Pan} (h : d2r x0 w R E) : Cv Tryd.prog 157 #[x0] w R E := by
 refine i6 (args := [x0]) (c := f5h) (h := f5i) (rs := [.tmp 2]) Tryd.func157 (by kernel_rfl) (by kernel_rfl) (Nat.le_of_ble_eq_true (by kernel_rfl)) (by kernel_rfl) (by kernel_rfl) (by kernel_rfl) ?_
 rw [← e6r]
 exact h
def c3q (x4 x5 x35 x83 : Value) (w : World) (R : Value → World → Prop) (E : Pan) : Prop :=
 ∀ _τ : Fr, (xcond x83
 (opK Tryd.prog E (gsem (asB x5) true (xV (Instr.loadAt 213 x4))) w fun e6t b0v =>
 opK Tryd.prog E (gsem (asB x5) true (xV (Instr.build 213 #[(0, (Value.int .i64 0)), (1, (Value.int .i64 1))]))) b0v fun e6u b5s =>
 opK Tryd.prog E (gsem (asB x5) true (xBin .eql 213 (.tmp 88) (.tmp 89) e6t e6u)) b5s fun e6v b5t =>
 opK Tryd.prog E (xPick x5 e6v (Value.bool false)) b5t fun e6w b5u =>
 R e6w b5u)
 (opK Tryd.prog E (xBin .eql 3 (.tmp 35) (.const (Value.int .i64 7)) x35 (Value.int .i64 7)) w fun e6x b3G =>
 xcond e6x
 (opK Tryd.prog E (gsem (asB x5) true (xV (Instr.loadAt 213 x4))) b3G fun e6y b0w =>
 opK Tryd.prog E (gsem (asB x5) true (xV (Instr.build 213 #[]))) b0w fun e6z b5x =>
 opK Tryd.prog E (gsem (asB x5) true (xBin .eql 213 (.tmp 96) (.tmp 97) e6y e6z)) b5x fun e6A c1y =>
 opK Tryd.prog E (xPick x5 e6A (Value.bool false)) c1y fun e6B b8D =>
 R e6B b8D)
 (R (Value.bool false) b3G)))
def d2s (x0 : Value) (w : World) (R : Value → World → Prop) (E : Pan) : Prop :=
 opK Tryd.prog E (xV (Instr.box 177 x0)) w fun t7 w_2 =>
 opK Tryd.prog E (xV (Instr.fieldAt 177 t7 0)) w_2 fun d9F w_4 =>
 opK Tryd.prog E (xV (Instr.fieldAt 88 d9F 4)) w_4 fun c6T w_6 =>
 opK Tryd.prog E (xV (Instr.loadAt 23 c6T)) w_6 fun b2j w_8 =>
 opK Tryd.prog E (xBuiltin .len #[23] 3 [false] [b2j]) w_8 fun b7z o2 =>
 opK Tryd.prog E (xV (Instr.fieldAt 177 t7 0)) o2 fun f5j o7 =>
 opK Tryd.prog E (xV (Instr.fieldAt 88 f5j 5)) o7 fun b7G o8 =>
 opK Tryd.prog E (xV (Instr.loadAt 23 b7G)) o8 fun a6n p9 =>
 opK Tryd.prog E (xBuiltin .len #[23] 3 [false] [a6n]) p9 fun f5k r5 =>
 opK Tryd.prog E (xBin .add 3 (.tmp 9) (.tmp 13) b7z f5k) r5 fun f5l p7 =>
 opK Tryd.prog E (xBin .gtr 3 (.tmp 14) (.const (Value.int .i64 0)) f5l (Value.int .i64 0)) p7 fun b2k t1 =>
 opK Tryd.prog E (xV (Instr.fieldAt 177 t7 0)) t1 fun b7H t8 =>
 opK Tryd.prog E (xV (Instr.fieldAt 88 b7H 2)) t8 fun b7I v2 =>
 opK Tryd.prog E (xV (Instr.loadAt 28 b7I)) v2 fun b7J y7 =>
 opK Tryd.prog E (xBuiltin .len #[28] 3 [false] [b7J]) y7 fun f5m A7 =>
 opK Tryd.prog E (xV (Instr.fieldAt 177 t7 0)) A7 fun f5n A4 =>
 opK Tryd.prog E (xV (Instr.fieldAt 88 f5n 3)) A4 fun f5o A8 =>
 opK Tryd.prog E (xV (Instr.loadAt 31 f5o)) A8 fun f5p C9 =>
 opK Tryd.prog E (xBuiltin .len #[31] 3 [false] [f5p]) C9 fun f5q C0 =>
 opK Tryd.prog E (xV (Instr.build 213 #[(0, f5m), (1, f5q)])) C0 fun f5r D3 =>
 opK Tryd.prog E (xV (Instr.alloc 213 true (.tuple #[]))) D3 fun b8E E9 =>
 opK Tryd.prog E (xU (Instr.storeAt 213 b8E f5r)) E9 fun _z_43 E4 =>
 opK Tryd.prog E (xV (Instr.fieldAt 177 t7 0)) E4 fun f5s K8 =>
 opK Tryd.prog E (xV (Instr.fieldAt 88 f5s 1)) K8 fun f5t J7 =>
 opK Tryd.prog E (xV (Instr.loadAt 9 f5t)) J7 fun f5u G8 =>
 opK Tryd.prog E (xBin .eql 9 (.tmp 27) (.const (Value.string ⟨#[]⟩)) f5u (Value.string ⟨#[]⟩)) G8 fun b7E K5 =>
 opK Tryd.prog E (gsem (asB b7E) true (xV (Op.unary .not (gval (asB b7E) true b2k)))) K5 fun f5v M3 =>
 opK Tryd.prog E (xPick b7E f5v (Value.bool false)) M3 fun f5w M7 =>
 opK Tryd.prog E (xV (Instr.fieldAt 177 t7 0)) M7 fun f5x M8 =>
 opK Tryd.prog E (xV (Instr.fieldAt 88 f5x 0)) M8 fun f5y P8 =>
 opK Tryd.prog E (xV (Instr.loadAt 3 f5y)) P8 fun b2l T9 =>
 opK Tryd.prog E (xBin .eql 3 (.tmp 35) (.const (Value.int .i64 1)) b2l (Value.int .i64 1)) T9 fun f5z Q2 =>
 xcond f5z
 (opK Tryd.prog E (xV (Op.unary .not b2k)) Q2 fun c1z U0 =>
 opK Tryd.prog E (gsem (asB c1z) true (xV (Instr.loadAt 213 b8E))) U0 fun f5A a0d =>
 opK Tryd.prog E (gsem (asB c1z) true (xV (Instr.build 213 #[(0, (Value.int .i64 1)), (1, (Value.int .i64 0))]))) a0d fun f5B N1 =>
 opK Tryd.prog E (gsem (asB c1z) true (xBin .eql 213 (.tmp 41) (.tmp 42) f5A f5B)) N1 fun f5C W0 =>
 opK Tryd.prog E (xPick c1z f5C (Value.bool false)) W0 fun f5D a0e =>
 R f5D a0e)
 (opK Tryd.prog E (xBin .eql 3 (.tmp 35) (.const (Value.int .i64 2)) b2l (Value.int .i64 2)) Q2 fun f5E Z7 =>
 xcond f5E
 (opK Tryd.prog E (xV (Op.unary .not b2k)) Z7 fun c1A W8 =>
 opK Tryd.prog E (gsem (asB c1A) true (xV (Instr.loadAt 213 b8E))) W8 fun f5F a2v =>
 opK Tryd.prog E (gsem (asB c1A) true (xV (Instr.build 213 #[(0, (Value.int .i64 2)), (1, (Value.int .i64 0))]))) a2v fun f5G a2U =>
 opK Tryd.prog E (gsem (asB c1A) true (xBin .eql 213 (.tmp 50) (.tmp 51) f5F f5G)) a2U fun f5H a3l =>
 opK Tryd.prog E (xPick c1A f5H (Value.bool false)) a3l fun f5I a3m =>
 R f5I a3m)
 (opK Tryd.prog E (xBin .eql 3 (.tmp 35) (.const (Value.int .i64 3)) b2l (Value.int .i64 3)) Z7 fun f5J a2e =>
 xcond f5J
 (opK Tryd.prog E (xV (Instr.fieldAt 177 t7 0)) a2e fun f5K a4B =>
 opK Tryd.prog E (xV (Instr.fieldAt 88 f5K 1)) a4B fun f5L a4C =>
 opK Tryd.prog E (xV (Instr.loadAt 9 f5L)) a4C fun f5M a4e =>
 opK Tryd.prog E (xBin .eql 9 (.tmp 58) (.const (Value.string ⟨#[]⟩)) f5M (Value.string ⟨#[]⟩)) a4e fun c1B a2V =>
 opK Tryd.prog E (gsem (asB c1B) true (xV (Instr.loadAt 213 b8E))) a2V fun f5N a4D =>
 opK Tryd.prog E (gsem (asB c1B) true (xV (Instr.build 213 #[(0, (Value.int .i64 0)), (1, (Value.int .i64 1))]))) a4D fun f5O a2i =>
 opK Tryd.prog E (gsem (asB c1B) true (xBin .eql 213 (.tmp 61) (.tmp 62) f5N f5O)) a2i fun e6C a1G =>
 opK Tryd.prog E (xPick c1B e6C (Value.bool false)) a1G fun e6D a3d =>
 R e6D a3d)
 (opK Tryd.prog E (xBin .eql 3 (.tmp 35) (.const (Value.int .i64 4)) b2l (Value.int .i64 4)) a2e fun e6E a0Z =>
 xcond e6E
 (opK Tryd.prog E (xV (Instr.fieldAt 177 t7 0)) a0Z fun e6F a4Q =>
 opK Tryd.prog E (xV (Instr.fieldAt 88 e6F 1)) a4Q fun e6G a4p =>
 opK Tryd.prog E (xV (Instr.loadAt 9 e6G)) a4p fun e6H a4q =>
 opK Tryd.prog E (xBin .eql 9 (.tmp 69) (.const (Value.string ⟨#[]⟩)) e6H (Value.string ⟨#[]⟩)) a4q fun b1O a2j =>
 opK Tryd.prog E (gsem (asB b1O) true (xV (Instr.fieldAt 177 t7 0))) a2j fun e6I a3e =>
 opK Tryd.prog E (gsem (asB b1O) true (xV (Instr.fieldAt 88 e6I 5))) a3e fun e6J a5h =>
 opK Tryd.prog E (gsem (asB b1O) true (xV (Instr.loadAt 23 e6J))) a5h fun e6K a3f =>
 opK Tryd.prog E (gsem (asB b1O) true (xBuiltin .len #[23] 3 [false] [e6K])) a3f fun e6L a5O =>
 opK Tryd.prog E (gsem (asB b1O) true (xBin .eql 3 (.tmp 75) (.const (Value.int .i64 0)) e6L (Value.int .i64 0))) a5O fun e6M a8H =>
 opK Tryd.prog E (xPick b1O e6M (Value.bool false)) a8H fun b8F a7O =>
 opK Tryd.prog E (gsem (asB b8F) true (xV (Instr.loadAt 213 b8E))) a7O fun e6N b1m =>
 opK Tryd.prog E (gsem (asB b8F) true (xV (Instr.build 213 #[(0, (Value.int .i64 0)), (1, (Value.int .i64 1))]))) b1m fun e6O b0u =>
 opK Tryd.prog E (gsem (asB b8F) true (xBin .eql 213 (.tmp 79) (.tmp 80) e6N e6O)) b0u fun e6P a8I =>
 opK Tryd.prog E (xPick b8F e6P (Value.bool false)) a8I fun e6Q a8J =>
 R e6Q a8J)
 (xcut (fun g6l c1C => c3q b8E f5w b2l (nth g6l 0) c1C R E) fun j1 =>
 opK Tryd.prog E (xBin .eql 3 (.tmp 35) (.const (Value.int .i64 5)) b2l (Value.int .i64 5)) a0Z fun d0U c5c =>
 xcond d0U
 (j1 [d0U] c5c)
 (opK Tryd.prog E (xBin .eql 3 (.tmp 35) (.const (Value.int .i64 6)) b2l (Value.int .i64 6)) c5c fun e6R d2t =>
 j1 [e6R] d2t)))))
noncomputable def f5P : Code := Tryd.f158.body.getD .skip
def f5Q : Hint := (.seq .none (.seq .none (.seq .none (.seq .none (.seq (.seq .none (.block (.seq .none (.cond (.seq .none .none) (.seq .none (.cond (.seq .none .none) (.seq .none (.cond (.seq .none .none) (.seq .none (.cond (.seq .none .none) (.cut [83] (.seq .none (.cond .none .none)) (.cond (.seq .none .none) (.seq .none (.cond (.seq .none .none) .none)))))))))))))) (.seq .none .none))))))
theorem e6S (x0 : Value) (w : World) (R : Value → World → Prop) (E : Pan) : d2s x0 w R E = callX Tryd.prog [.tmp 2] f5P f5Q [x0] w R E := by kernel_rfl
theorem e6T {x0 : Value} {w : World} {R : Value → World → Prop} {E : Pan} (h : d2s x0 w R E) : Cv Tryd.prog 158 #[x0] w R E := by
 refine i6 (args := [x0]) (c := f5P) (h := f5Q) (rs := [.tmp 2]) Tryd.func158 (by kernel_rfl) (by kernel_rfl) (Nat.le_of_ble_eq_true (by kernel_rfl)) (by kernel_rfl) (by kernel_rfl) (by kernel_rfl) ?_
 rw [← e6S]
 exact h
def d2u (x0 : Value) (w : World) (R : Value → World → Prop) (E : Pan) : Prop :=
 opK Tryd.prog E (xV (Instr.box 177 x0)) w fun t7 w_2 =>
 dX w_2 fun w_3 =>
 qP Tryd.prog (xV (Instr.fieldAt 177 t7 0)) fun c2Y =>
 qP Tryd.prog (xV (Instr.fieldAt 88 c2Y 3)) fun a3k =>
 qP Tryd.prog (xV (Instr.fieldAt 177 t7 0)) fun d9I =>
 qP Tryd.prog (xV (Instr.fieldAt 88 d9I 2)) fun b2j =>
 qP Tryd.prog (xV (Instr.fieldAt 177 t7 0)) fun g6m =>
 qP Tryd.prog (xV (Instr.fieldAt 88 g6m 4)) fun c5d =>
 qP Tryd.prog (xV (Instr.fieldAt 177 t7 0)) fun f5R =>
 qP Tryd.prog (xV (Instr.fieldAt 88 f5R 5)) fun a1H =>
 qL Tryd.prog w_3 (blk a3k) (xV (Instr.loadAt 31 a3k)) fun g6n =>
 qL Tryd.prog w_3 (blk b2j) (xV (Instr.loadAt 28 b2j)) fun c1w =>
 qL Tryd.prog w_3 (blk c5d) (xV (Instr.loadAt 23 c5d)) fun f5S =>
 qL Tryd.prog w_3 (blk a1H) (xV (Instr.loadAt 23 a1H)) fun b2c =>
 opK Tryd.prog E (xCall (Value.func (.func 154) #[] #[]) [g6n, (Value.func (.func 155) #[] #[])]) w_3 fun g6o a5M =>
 keepX [(blk a1H), (blk c5d), (blk b2j)] w_3 a5M (opK Tryd.prog E (xCall (Value.func (.func 150) #[] #[]) [c1w, (Value.func (.func 151) #[] #[])]) a5M fun f5T a5b =>
 keepX [(blk a1H), (blk c5d)] a5M a5b (opK Tryd.prog E (xCall (Value.func (.func 97) #[] #[]) [f5S, (Value.func (.func 98) #[] #[])]) a5b fun f5U a9Q =>
 keepX [(blk a1H)] a5b a9Q (opK Tryd.prog E (xCall (Value.func (.func 97) #[] #[]) [b2c, (Value.func (.func 98) #[] #[])]) a9Q fun b7f a8F =>
 keepX [] a9Q a8F (opK Tryd.prog E (xV (Instr.buildSlice 172 4 #[(0, g6o), (1, f5T), (2, f5U), (3, b7f)])) a8F fun f5V a9N =>
 keepX [] a8F a9N (opK Tryd.prog E (xCall (Value.func (.func 94) #[] #[]) [f5V]) a9N fun f5W a7U =>
 keepX [] a9N a7U (R f5W a7U))))))
noncomputable def f5X : Code := Tryd.f159.body.getD .skip
def f5Y : Hint := (.seq .none (.seq (.reg [(0, 8, 2), (1, 16, 8), (2, 32, 16), (4, 64, 32), (0, 128, 2), (16, 256, 128), (32, 512, 256), (72, 1024, 512), (0, 2048, 2), (256, 4096, 2048), (512, 8192, 4096), (1152, 16384, 8192), (0, 32768, 2), (4096, 65536, 32768), (8192, 131072, 65536), (18432, 262144, 131072), (34952, 524288, 279616), (98304, 1048576, 524288), (262143, 4, 1048576)] [17476, 17476, 17472, 17472, 17476, 17476, 17412, 17408, 17476, 17476, 16452, 16384, 17476, 17476, 1092, 0, 0, 0, 17476] (.early 0 (.early 1 (.early 4 (.early 5 (.early 8 (.early 9 (.early 12 (.early 13 (.load 2 (.load 6 (.load 10 (.load 14 (.step 3 (.step 7 (.step 11 (.step 15 (.step 16 (.step 17 (.early 18 .done)))))))))))))))))))) .none))
theorem e6U (x0 : Value) (w : World) (R : Value → World → Prop) (E : Pan) : d2u x0 w R E = callX Tryd.prog [.tmp 2] f5X f5Y [x0] w R E := by kernel_rfl
theorem e6V {x0 : Value} {w : World} {R : Value → World → Prop} {E : Pan} (h : d2u x0 w R E) : Cv Tryd.prog 159 #[x0] w R E := by
 refine i6 (args := [x0]) (c := f5X) (h := f5Y) (rs := [.tmp 2]) Tryd.func159 (by kernel_rfl) (by kernel_rfl) (Nat.le_of_ble_eq_true (by kernel_rfl)) (by kernel_rfl) (by kernel_rfl) (by kernel_rfl) ?_
 rw [← e6U]
 exact h
end Go.Proofs.YthldnpmfelniiaaDoor
