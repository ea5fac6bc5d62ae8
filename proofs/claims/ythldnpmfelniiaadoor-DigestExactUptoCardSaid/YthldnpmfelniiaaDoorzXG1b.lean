/- The second reading of some of the program's functions, printed by gen2.py off the code; each is held against the code by the kernel. -/
import Derived.Test.YthldnpmfelniiaaDoorProg
import Derived.Test.YthldnpmfelniiaaDoorzXK0
import Derived.KernelRfl
namespace Go.Proofs.YthldnpmfelniiaaDoor
open Go.RowKit
set_option maxRecDepth 100000
def c1b (x5 : Value) (w : World) (R : Value → World → Prop) (_E : Pan) : Prop :=
 ∀ _τ : Fr, (R x5 w)
def c8l (x1 x5 x8 x9 x10 : Value) (w : World) (next2 : List Value → World → Prop) (j1 : List Value → World → Prop) (_R : Value → World → Prop) (E : Pan) : Prop :=
 opK Tryd.prog E (xBin .lss 3 (.tmp 10) (.tmp 9) x10 x9) w fun a7E w_6 =>
 xcond a7E
 (opK Tryd.prog E (xV (Instr.indexAt 31 x8 x10)) w_6 fun a4R w_8 =>
 opK Tryd.prog E (xV (Instr.loadAt 33 a4R)) w_8 fun a7D m2 =>
 opK Tryd.prog E (xV (Instr.alloc 33 true (.tuple #[]))) m2 fun a4Q m8 =>
 opK Tryd.prog E (xU (Instr.storeAt 33 a4Q a7D)) m8 fun _z_13 m5 =>
 opK Tryd.prog E (xV (Instr.loadAt 33 a4Q)) m5 fun a7M o6 =>
 opK Tryd.prog E (xCall x1 [a7M]) o6 fun a7N p8 =>
 opK Tryd.prog E (xV (Instr.buildSlice 97 1 #[(0, a7N)])) p8 fun a7O o4 =>
 opK Tryd.prog E (xBuiltin .append #[97, 97] 97 [false, false] [x5, a7O]) o4 fun a7P r6 =>
 opK Tryd.prog E (xBin .add 3 (.tmp 10) (.const (Value.int .i64 1)) x10 (Value.int .i64 1)) r6 fun a7Q q6 =>
 next2 [a7P, a7Q] q6)
 (j1 [x5] w_6)
def c9x (x0 x1 : Value) (w : World) (R : Value → World → Prop) (E : Pan) : Prop :=
 xcut (fun l_1 w_2 => c1b (nth l_1 0) w_2 R E) fun j1 =>
 opK Tryd.prog E (xBuiltin .len #[31] 3 [false] [x0]) w fun a5L w_4 =>
 xloop [5, 10] [(Value.slice none 0 0), (Value.int .i64 0)] w_4 fun τ_25 u1 next2 =>
 c8l x1 (τ_25 5) x0 a5L (τ_25 10) u1 next2 j1 R E
noncomputable def e9Y : Code := Tryd.f154.body.getD .skip
def e9Z : Hint := (.seq .none (.seq .none (.cut [5] (.seq .none (.block (.loop [5, 10] (.seq .none (.seq (.cond .none .none) (.seq (.block (.seq .none .none)) .none)))))) (.seq .none .none))))
theorem e2h (x0 x1 : Value) (w : World) (R : Value → World → Prop) (E : Pan) : c9x x0 x1 w R E = callX Tryd.prog [.tmp 4] e9Y e9Z [x0, x1] w R E := by kernel_rfl
theorem e2i {x0 x1 : Value} {w : World} {R : Value → World → Prop} {E : Pan} (h : c9x x0 x1 w R E) : Cv Tryd.prog 154 #[x0, x1] w R E := by
 refine h8 (args := [x0, x1]) (c := e9Y) (h := e9Z) (rs := [.tmp 4]) Tryd.func154 (by kernel_rfl) (by kernel_rfl) (Nat.le_of_ble_eq_true (by kernel_rfl)) (by kernel_rfl) (by kernel_rfl) (by kernel_rfl) ?_
 rw [← e2h]
 exact h
def c9y (x0 : Value) (w : World) (R : Value → World → Prop) (E : Pan) : Prop :=
 opK Tryd.prog E (xV (Instr.box 33 x0)) w fun t8 w_2 =>
 opK Tryd.prog E (xV (Instr.loadAt 33 t8)) w_2 fun Y9 w_4 =>
 opK Tryd.prog E (xV (Instr.build 106 #[(0, Y9)])) w_4 fun a4i w_6 =>
 opK Tryd.prog E (xV (Instr.makeInterface 106 a4i)) w_6 fun a6H w_8 =>
 R a6H w_8
noncomputable def f0a : Code := Tryd.f155.body.getD .skip
def f0b : Hint := (.seq .none (.seq .none .none))
theorem e2j (x0 : Value) (w : World) (R : Value → World → Prop) (E : Pan) : c9y x0 w R E = callX Tryd.prog [.tmp 2] f0a f0b [x0] w R E := by kernel_rfl
theorem e2k {x0 : Value} {w : World} {R : Value → World → Prop} {E : Pan} (h : c9y x0 w R E) : Cv Tryd.prog 155 #[x0] w R E := by
 refine h8 (args := [x0]) (c := f0a) (h := f0b) (rs := [.tmp 2]) Tryd.func155 (by kernel_rfl) (by kernel_rfl) (Nat.le_of_ble_eq_true (by kernel_rfl)) (by kernel_rfl) (by kernel_rfl) (by kernel_rfl) ?_
 rw [← e2j]
 exact h
def c9z (x0 : Value) (w : World) (R : Value → World → Prop) (E : Pan) : Prop :=
 opK Tryd.prog E (xV (Instr.box 175 x0)) w fun t8 w_2 =>
 opK Tryd.prog E (xV (Instr.fieldAt 175 t8 0)) w_2 fun Y9 w_4 =>
 opK Tryd.prog E (xV (Instr.fieldAt 67 Y9 1)) w_4 fun a4i w_6 =>
 opK Tryd.prog E (xV (Instr.loadAt 3 a4i)) w_6 fun a6H w_8 =>
 opK Tryd.prog E (xBin .geq 3 (.tmp 5) (.const (Value.int .i64 0)) a6H (Value.int .i64 0)) w_8 fun b0K m2 =>
 opK Tryd.prog E (gsem (asB b0K) true (xV (Instr.fieldAt 175 t8 0))) m2 fun b9c m8 =>
 opK Tryd.prog E (gsem (asB b0K) true (xV (Instr.fieldAt 67 b9c 1))) m8 fun b9v m5 =>
 opK Tryd.prog E (gsem (asB b0K) true (xV (Instr.loadAt 3 b9v))) m5 fun c4i o6 =>
 opK Tryd.prog E (gsem (asB b0K) true (xBin .leq 3 (.tmp 10) (.const (Value.int .i64 2147483647)) c4i (Value.int .i64 2147483647))) o6 fun c4j p8 =>
 opK Tryd.prog E (xPick b0K c4j (Value.bool false)) p8 fun c4k o4 =>
 R c4k o4
noncomputable def f0c : Code := Tryd.f156.body.getD .skip
def f0d : Hint := (.seq .none (.seq .none .none))
theorem e2l (x0 : Value) (w : World) (R : Value → World → Prop) (E : Pan) : c9z x0 w R E = callX Tryd.prog [.tmp 2] f0c f0d [x0] w R E := by kernel_rfl
theorem e2m {x0 : Value} {w : World} {R : Value → World → Prop} {E : Pan} (h : c9z x0 w R E) : Cv Tryd.prog 156 #[x0] w R E := by
 refine h8 (args := [x0]) (c := f0c) (h := f0d) (rs := [.tmp 2]) Tryd.func156 (by kernel_rfl) (by kernel_rfl) (Nat.le_of_ble_eq_true (by kernel_rfl)) (by kernel_rfl) (by kernel_rfl) (by kernel_rfl) ?_
 rw [← e2l]
 exact h
def c9A (x0 : Value) (w : World) (R : Value → World → Prop) (E : Pan) : Prop :=
 opK Tryd.prog E (xV (Instr.box 175 x0)) w fun _t1_1 w_2 =>
 R (Value.slice none 0 0) w_2
noncomputable def f0e : Code := Tryd.f157.body.getD .skip
def f0f : Hint := (.seq .none (.seq .none .none))
theorem e2n (x0 : Value) (w : World) (R : Value → World → Prop) (E : Pan) : c9A x0 w R E = callX Tryd.prog [.tmp 2] f0e f0f [x0] w R E := by kernel_rfl
theorem e2o {x0 : Value} {w : World} {R : Value → World → Prop} {E : Pan} (h : c9A x0 w R E) : Cv Tryd.prog 157 #[x0] w R E := by
 refine h8 (args := [x0]) (c := f0e) (h := f0f) (rs := [.tmp 2]) Tryd.func157 (by kernel_rfl) (by kernel_rfl) (Nat.le_of_ble_eq_true (by kernel_rfl)) (by kernel_rfl) (by kernel_rfl) (by kernel_rfl) ?_
 rw [← e2n]
 exact h
def c1c (x4 x5 x35 x83 : Value) (w : World) (R : Value → World → Prop) (E : Pan) : Prop :=
 ∀ _τ : Fr, (xcond x83
 (opK Tryd.prog E (gsem (asB x5) true (xV (Instr.loadAt 213 x4))) w fun e2p a9n =>
 opK Tryd.prog E (gsem (asB x5) true (xV (Instr.build 213 #[(0, (Value.int .i64 0)), (1, (Value.int .i64 1))]))) a9n fun e2q b2g =>
 opK Tryd.prog E (gsem (asB x5) true (xBin .eql 213 (.tmp 88) (.tmp 89) e2p e2q)) b2g fun e2r b3K =>
 opK Tryd.prog E (xPick x5 e2r (Value.bool false)) b3K fun e2s b3L =>
 R e2s b3L)
 (opK Tryd.prog E (xBin .eql 3 (.tmp 35) (.const (Value.int .i64 7)) x35 (Value.int .i64 7)) w fun e2t b0f =>
 xcond e2t
 (opK Tryd.prog E (gsem (asB x5) true (xV (Instr.loadAt 213 x4))) b0f fun e2u a9o =>
 opK Tryd.prog E (gsem (asB x5) true (xV (Instr.build 213 #[]))) a9o fun e2v b3M =>
 opK Tryd.prog E (gsem (asB x5) true (xBin .eql 213 (.tmp 96) (.tmp 97) e2u e2v)) b3M fun e2w b9x =>
 opK Tryd.prog E (xPick x5 e2w (Value.bool false)) b9x fun e2x b6M =>
 R e2x b6M)
 (R (Value.bool false) b0f)))
def c9B (x0 : Value) (w : World) (R : Value → World → Prop) (E : Pan) : Prop :=
 opK Tryd.prog E (xV (Instr.box 177 x0)) w fun t8 w_2 =>
 opK Tryd.prog E (xV (Instr.fieldAt 177 t8 0)) w_2 fun c4a w_4 =>
 opK Tryd.prog E (xV (Instr.fieldAt 88 c4a 4)) w_4 fun c4b w_6 =>
 opK Tryd.prog E (xV (Instr.loadAt 23 c4b)) w_6 fun a8W w_8 =>
 opK Tryd.prog E (xBuiltin .len #[23] 3 [false] [a8W]) w_8 fun b2D m2 =>
 opK Tryd.prog E (xV (Instr.fieldAt 177 t8 0)) m2 fun c4u m8 =>
 opK Tryd.prog E (xV (Instr.fieldAt 88 c4u 5)) m8 fun a9z m5 =>
 opK Tryd.prog E (xV (Instr.loadAt 23 a9z)) m5 fun a6u o6 =>
 opK Tryd.prog E (xBuiltin .len #[23] 3 [false] [a6u]) o6 fun b5Q p8 =>
 opK Tryd.prog E (xBin .add 3 (.tmp 9) (.tmp 13) b2D b5Q) p8 fun b5R o4 =>
 opK Tryd.prog E (xBin .gtr 3 (.tmp 14) (.const (Value.int .i64 0)) b5R (Value.int .i64 0)) o4 fun b0W r6 =>
 opK Tryd.prog E (xV (Instr.fieldAt 177 t8 0)) r6 fun b5S q6 =>
 opK Tryd.prog E (xV (Instr.fieldAt 88 b5S 2)) q6 fun f0g u1 =>
 opK Tryd.prog E (xV (Instr.loadAt 28 f0g)) u1 fun c4v w9 =>
 opK Tryd.prog E (xBuiltin .len #[28] 3 [false] [c4v]) w9 fun b9y z6 =>
 opK Tryd.prog E (xV (Instr.fieldAt 177 t8 0)) z6 fun b5T w8 =>
 opK Tryd.prog E (xV (Instr.fieldAt 88 b5T 3)) w8 fun f0h z7 =>
 opK Tryd.prog E (xV (Instr.loadAt 31 f0h)) z7 fun f0i B3 =>
 opK Tryd.prog E (xBuiltin .len #[31] 3 [false] [f0i]) B3 fun f0j w3 =>
 opK Tryd.prog E (xV (Instr.build 213 #[(0, b9y), (1, f0j)])) w3 fun f0k B8 =>
 opK Tryd.prog E (xV (Instr.alloc 213 true (.tuple #[]))) B8 fun b6N C7 =>
 opK Tryd.prog E (xU (Instr.storeAt 213 b6N f0k)) C7 fun _z_43 B9 =>
 opK Tryd.prog E (xV (Instr.fieldAt 177 t8 0)) B9 fun f0l D4 =>
 opK Tryd.prog E (xV (Instr.fieldAt 88 f0l 1)) D4 fun f0m E6 =>
 opK Tryd.prog E (xV (Instr.loadAt 9 f0m)) E6 fun c4w D7 =>
 opK Tryd.prog E (xBin .eql 9 (.tmp 27) (.const (Value.string ⟨#[]⟩)) c4w (Value.string ⟨#[]⟩)) D7 fun b5P D8 =>
 opK Tryd.prog E (gsem (asB b5P) true (xV (Op.unary .not (gval (asB b5P) true b0W)))) D8 fun f0n I9 =>
 opK Tryd.prog E (xPick b5P f0n (Value.bool false)) I9 fun f0o K7 =>
 opK Tryd.prog E (xV (Instr.fieldAt 177 t8 0)) K7 fun f0p H9 =>
 opK Tryd.prog E (xV (Instr.fieldAt 88 f0p 0)) H9 fun f0q J1 =>
 opK Tryd.prog E (xV (Instr.loadAt 3 f0q)) J1 fun b0X N9 =>
 opK Tryd.prog E (xBin .eql 3 (.tmp 35) (.const (Value.int .i64 1)) b0X (Value.int .i64 1)) N9 fun f0r J7 =>
 xcond f0r
 (opK Tryd.prog E (xV (Op.unary .not b0W)) J7 fun b9z Q4 =>
 opK Tryd.prog E (gsem (asB b9z) true (xV (Instr.loadAt 213 b6N))) Q4 fun f0s V4 =>
 opK Tryd.prog E (gsem (asB b9z) true (xV (Instr.build 213 #[(0, (Value.int .i64 1)), (1, (Value.int .i64 0))]))) V4 fun f0t K8 =>
 opK Tryd.prog E (gsem (asB b9z) true (xBin .eql 213 (.tmp 41) (.tmp 42) f0s f0t)) K8 fun f0u V9 =>
 opK Tryd.prog E (xPick b9z f0u (Value.bool false)) V9 fun f0v Y3 =>
 R f0v Y3)
 (opK Tryd.prog E (xBin .eql 3 (.tmp 35) (.const (Value.int .i64 2)) b0X (Value.int .i64 2)) J7 fun f0w S7 =>
 xcond f0w
 (opK Tryd.prog E (xV (Op.unary .not b0W)) S7 fun b9A a0v =>
 opK Tryd.prog E (gsem (asB b9A) true (xV (Instr.loadAt 213 b6N))) a0v fun f0x Z0 =>
 opK Tryd.prog E (gsem (asB b9A) true (xV (Instr.build 213 #[(0, (Value.int .i64 2)), (1, (Value.int .i64 0))]))) Z0 fun f0y a1s =>
 opK Tryd.prog E (gsem (asB b9A) true (xBin .eql 213 (.tmp 50) (.tmp 51) f0x f0y)) a1s fun f0z a2k =>
 opK Tryd.prog E (xPick b9A f0z (Value.bool false)) a2k fun f0A a2C =>
 R f0A a2C)
 (opK Tryd.prog E (xBin .eql 3 (.tmp 35) (.const (Value.int .i64 3)) b0X (Value.int .i64 3)) S7 fun f0B a2l =>
 xcond f0B
 (opK Tryd.prog E (xV (Instr.fieldAt 177 t8 0)) a2l fun f0C a3I =>
 opK Tryd.prog E (xV (Instr.fieldAt 88 f0C 1)) a3I fun f0D a3J =>
 opK Tryd.prog E (xV (Instr.loadAt 9 f0D)) a3J fun f0E a3K =>
 opK Tryd.prog E (xBin .eql 9 (.tmp 58) (.const (Value.string ⟨#[]⟩)) f0E (Value.string ⟨#[]⟩)) a3K fun b9B a2L =>
 opK Tryd.prog E (gsem (asB b9B) true (xV (Instr.loadAt 213 b6N))) a2L fun f0F a3L =>
 opK Tryd.prog E (gsem (asB b9B) true (xV (Instr.build 213 #[(0, (Value.int .i64 0)), (1, (Value.int .i64 1))]))) a3L fun f0G a0E =>
 opK Tryd.prog E (gsem (asB b9B) true (xBin .eql 213 (.tmp 61) (.tmp 62) f0F f0G)) a0E fun e2y a1u =>
 opK Tryd.prog E (xPick b9B e2y (Value.bool false)) a1u fun e2z a2r =>
 R e2z a2r)
 (opK Tryd.prog E (xBin .eql 3 (.tmp 35) (.const (Value.int .i64 4)) b0X (Value.int .i64 4)) a2l fun e2A a2s =>
 xcond e2A
 (opK Tryd.prog E (xV (Instr.fieldAt 177 t8 0)) a2s fun e2B a2M =>
 opK Tryd.prog E (xV (Instr.fieldAt 88 e2B 1)) a2M fun e2C a3x =>
 opK Tryd.prog E (xV (Instr.loadAt 9 e2C)) a3x fun e2D a3y =>
 opK Tryd.prog E (xBin .eql 9 (.tmp 69) (.const (Value.string ⟨#[]⟩)) e2D (Value.string ⟨#[]⟩)) a3y fun b0B a2N =>
 opK Tryd.prog E (gsem (asB b0B) true (xV (Instr.fieldAt 177 t8 0))) a2N fun e2E a3z =>
 opK Tryd.prog E (gsem (asB b0B) true (xV (Instr.fieldAt 88 e2E 5))) a3z fun e2F a4n =>
 opK Tryd.prog E (gsem (asB b0B) true (xV (Instr.loadAt 23 e2F))) a4n fun e2G a4o =>
 opK Tryd.prog E (gsem (asB b0B) true (xBuiltin .len #[23] 3 [false] [e2G])) a4o fun e2H a5Z =>
 opK Tryd.prog E (gsem (asB b0B) true (xBin .eql 3 (.tmp 75) (.const (Value.int .i64 0)) e2H (Value.int .i64 0))) a5Z fun e2I a7I =>
 opK Tryd.prog E (xPick b0B e2I (Value.bool false)) a7I fun b6O a6a =>
 opK Tryd.prog E (gsem (asB b6O) true (xV (Instr.loadAt 213 b6N))) a6a fun e2J a7J =>
 opK Tryd.prog E (gsem (asB b6O) true (xV (Instr.build 213 #[(0, (Value.int .i64 0)), (1, (Value.int .i64 1))]))) a7J fun e2K a7K =>
 opK Tryd.prog E (gsem (asB b6O) true (xBin .eql 213 (.tmp 79) (.tmp 80) e2J e2K)) a7K fun e2L a6B =>
 opK Tryd.prog E (xPick b6O e2L (Value.bool false)) a6B fun e2M a7L =>
 R e2M a7L)
 (xcut (fun g0c b9C => c1c b6N f0o b0X (nth g0c 0) b9C R E) fun j1 =>
 opK Tryd.prog E (xBin .eql 3 (.tmp 35) (.const (Value.int .i64 5)) b0X (Value.int .i64 5)) a2s fun c8m c2x =>
 xcond c8m
 (j1 [c8m] c2x)
 (opK Tryd.prog E (xBin .eql 3 (.tmp 35) (.const (Value.int .i64 6)) b0X (Value.int .i64 6)) c2x fun e2N c9C =>
 j1 [e2N] c9C)))))
noncomputable def f0H : Code := Tryd.f158.body.getD .skip
def f0I : Hint := (.seq .none (.seq .none (.seq .none (.seq .none (.seq (.seq .none (.block (.seq .none (.cond (.seq .none .none) (.seq .none (.cond (.seq .none .none) (.seq .none (.cond (.seq .none .none) (.seq .none (.cond (.seq .none .none) (.cut [83] (.seq .none (.cond .none .none)) (.cond (.seq .none .none) (.seq .none (.cond (.seq .none .none) .none)))))))))))))) (.seq .none .none))))))
theorem e2O (x0 : Value) (w : World) (R : Value → World → Prop) (E : Pan) : c9B x0 w R E = callX Tryd.prog [.tmp 2] f0H f0I [x0] w R E := by kernel_rfl
theorem e2P {x0 : Value} {w : World} {R : Value → World → Prop} {E : Pan} (h : c9B x0 w R E) : Cv Tryd.prog 158 #[x0] w R E := by
 refine h8 (args := [x0]) (c := f0H) (h := f0I) (rs := [.tmp 2]) Tryd.func158 (by kernel_rfl) (by kernel_rfl) (Nat.le_of_ble_eq_true (by kernel_rfl)) (by kernel_rfl) (by kernel_rfl) (by kernel_rfl) ?_
 rw [← e2O]
 exact h
def c9D (x0 : Value) (w : World) (R : Value → World → Prop) (E : Pan) : Prop :=
 opK Tryd.prog E (xV (Instr.box 177 x0)) w fun t8 w_2 =>
 dX w_2 fun w_3 =>
 qP Tryd.prog (xV (Instr.fieldAt 177 t8 0)) fun c0L =>
 qP Tryd.prog (xV (Instr.fieldAt 88 c0L 3)) fun a4i =>
 qP Tryd.prog (xV (Instr.fieldAt 177 t8 0)) fun d6d =>
 qP Tryd.prog (xV (Instr.fieldAt 88 d6d 2)) fun a8W =>
 qP Tryd.prog (xV (Instr.fieldAt 177 t8 0)) fun g0d =>
 qP Tryd.prog (xV (Instr.fieldAt 88 g0d 4)) fun b6P =>
 qP Tryd.prog (xV (Instr.fieldAt 177 t8 0)) fun f0J =>
 qP Tryd.prog (xV (Instr.fieldAt 88 f0J 5)) fun a3k =>
 qL Tryd.prog w_3 (blk a4i) (xV (Instr.loadAt 31 a4i)) fun g0e =>
 qL Tryd.prog w_3 (blk a8W) (xV (Instr.loadAt 28 a8W)) fun b9v =>
 qL Tryd.prog w_3 (blk b6P) (xV (Instr.loadAt 23 b6P)) fun f0K =>
 qL Tryd.prog w_3 (blk a3k) (xV (Instr.loadAt 23 a3k)) fun c3x =>
 opK Tryd.prog E (xCall (Value.func (.func 154) #[] #[]) [g0e, (Value.func (.func 155) #[] #[])]) w_3 fun g0f a4G =>
 keepX [(blk a3k), (blk b6P), (blk a8W)] w_3 a4G (opK Tryd.prog E (xCall (Value.func (.func 150) #[] #[]) [b9v, (Value.func (.func 151) #[] #[])]) a4G fun f0L a6I =>
 keepX [(blk a3k), (blk b6P)] a4G a6I (opK Tryd.prog E (xCall (Value.func (.func 97) #[] #[]) [f0K, (Value.func (.func 98) #[] #[])]) a6I fun f0M a8S =>
 keepX [(blk a3k)] a6I a8S (opK Tryd.prog E (xCall (Value.func (.func 97) #[] #[]) [c3x, (Value.func (.func 98) #[] #[])]) a8S fun b5l a7B =>
 keepX [] a8S a7B (opK Tryd.prog E (xV (Instr.buildSlice 172 4 #[(0, g0f), (1, f0L), (2, f0M), (3, b5l)])) a7B fun f0N a4F =>
 keepX [] a7B a4F (opK Tryd.prog E (xCall (Value.func (.func 94) #[] #[]) [f0N]) a4F fun b9D a8T =>
 keepX [] a4F a8T (R b9D a8T))))))
noncomputable def f0O : Code := Tryd.f159.body.getD .skip
def f0P : Hint := (.seq .none (.seq (.reg [(0, 8, 2), (1, 16, 8), (2, 32, 16), (4, 64, 32), (0, 128, 2), (16, 256, 128), (32, 512, 256), (72, 1024, 512), (0, 2048, 2), (256, 4096, 2048), (512, 8192, 4096), (1152, 16384, 8192), (0, 32768, 2), (4096, 65536, 32768), (8192, 131072, 65536), (18432, 262144, 131072), (34952, 524288, 279616), (98304, 1048576, 524288), (262143, 4, 1048576)] [17476, 17476, 17472, 17472, 17476, 17476, 17412, 17408, 17476, 17476, 16452, 16384, 17476, 17476, 1092, 0, 0, 0, 17476] (.early 0 (.early 1 (.early 4 (.early 5 (.early 8 (.early 9 (.early 12 (.early 13 (.load 2 (.load 6 (.load 10 (.load 14 (.step 3 (.step 7 (.step 11 (.step 15 (.step 16 (.step 17 (.early 18 .done)))))))))))))))))))) .none))
theorem e2Q (x0 : Value) (w : World) (R : Value → World → Prop) (E : Pan) : c9D x0 w R E = callX Tryd.prog [.tmp 2] f0O f0P [x0] w R E := by kernel_rfl
theorem e2R {x0 : Value} {w : World} {R : Value → World → Prop} {E : Pan} (h : c9D x0 w R E) : Cv Tryd.prog 159 #[x0] w R E := by
 refine h8 (args := [x0]) (c := f0O) (h := f0P) (rs := [.tmp 2]) Tryd.func159 (by kernel_rfl) (by kernel_rfl) (Nat.le_of_ble_eq_true (by kernel_rfl)) (by kernel_rfl) (by kernel_rfl) (by kernel_rfl) ?_
 rw [← e2Q]
 exact h
end Go.Proofs.YthldnpmfelniiaaDoor
