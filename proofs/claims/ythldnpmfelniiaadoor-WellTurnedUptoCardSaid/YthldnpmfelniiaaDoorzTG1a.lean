/- The second reading of some of the program's functions, printed by gen2.py off the code; each is held against the code by the kernel. -/
import Derived.Test.YthldnpmfelniiaaDoorProg
import Derived.Test.YthldnpmfelniiaaDoorzTK0
import Derived.KernelRfl
namespace Go.Proofs.YthldnpmfelniiaaDoor
open Go.RowKit
set_option maxRecDepth 100000
noncomputable def c3 : Code := Tryd.f3.body.getD .skip
def h3 : Hint := (.seq .none (.seq (.reg [(0, 32, 0), (1, 64, 32), (2, 128, 68), (2, 256, 72), (14, 512, 448), (2, 1024, 68), (2, 2048, 72), (114, 4096, 3136), (146, 8192, 4672), (258, 16384, 8256), (640, 32768, 16384), (1024, 65536, 32776), (1024, 131072, 32772), (7168, 262144, 229376), (1024, 524288, 32772), (1024, 1048576, 32776), (58368, 2097152, 1605632), (74752, 4194304, 2392064), (132096, 8388608, 4227072), (524287, 16, 8388608)] [0, 55404, 55400, 55396, 96, 55372, 55340, 0, 55404, 55404, 55404, 53356, 51308, 49152, 39020, 22636, 0, 55404, 55404, 55404] (.step 0 (.early 1 (.load 2 (.load 3 (.load 5 (.load 6 (.step 4 (.step 7 (.early 8 (.early 9 (.early 10 (.load 11 (.load 12 (.load 14 (.load 15 (.step 13 (.step 16 (.early 17 (.early 18 (.early 19 .done))))))))))))))))))))) .none))
def F27 (x0 : Value) (w : World) (R : Value → World → Prop) (E : Pan) : Prop :=
 opK Tryd.prog E (xV (Instr.box 25 x0)) w fun p6 w_2 =>
 opK Tryd.prog E (xV (Instr.loadAt 25 p6)) w_2 fun a0V w_4 =>
 opK Tryd.prog E (xCall (Value.func (.func 66) #[] #[]) [a0V]) w_4 fun U5 w_6 =>
 opK Tryd.prog E (xNil U5) w_6 fun a0W w_8 =>
 opK Tryd.prog E (xV (Instr.fieldAt 92 a0W 2)) w_8 fun a5y o2 =>
 opK Tryd.prog E (xV (Instr.loadAt 34 a5y)) o2 fun a0z u7 =>
 R a0z u7
noncomputable def c27 : Code := Tryd.f27.body.getD .skip
def h27 : Hint := (.seq .none (.seq .none .none))
theorem c5J (x0 : Value) (w : World) (R : Value → World → Prop) (E : Pan) : F27 x0 w R E = callX Tryd.prog [.tmp 2] c27 h27 [x0] w R E := by kernel_rfl
theorem c5K {x0 : Value} {w : World} {R : Value → World → Prop} {E : Pan} (h : F27 x0 w R E) : Cv Tryd.prog 27 #[x0] w R E := by
 refine g8 (args := [x0]) (c := c27) (h := h27) (rs := [.tmp 2]) Tryd.func27 (by kernel_rfl) (by kernel_rfl) (Nat.le_of_ble_eq_true (by kernel_rfl)) (by kernel_rfl) (by kernel_rfl) (by kernel_rfl) ?_
 rw [← c5J]
 exact h
def b2r (x3 : Value) (w : World) (R : Value → World → Prop) (E : Pan) : Prop :=
 ∀ _τ : Fr, (opK Tryd.prog E (xV (Instr.loadAt 93 x3)) w fun c5L v6 =>
 R c5L v6)
def F57 (x0 : Value) (w : World) (R : Value → World → Prop) (E : Pan) : Prop :=
 opK Tryd.prog E (xV (Instr.build 92 #[])) w fun b0m w_2 =>
 opK Tryd.prog E (xV (Instr.box 92 b0m)) w_2 fun a8q w_4 =>
 opK Tryd.prog E (xV (Instr.alloc 93 true (.tuple #[]))) w_4 fun a8r w_6 =>
 opK Tryd.prog E (xU (Instr.storeAt 93 a8r a8q)) w_6 fun _z_7 w_8 =>
 opK Tryd.prog E (xV (Instr.alloc 139 true (.tuple #[]))) w_8 fun b9J o2 =>
 opK Tryd.prog E (xV (Instr.makeFunc (.func 89) #[] #[a8r, b9J])) o2 fun a9o u7 =>
 opK Tryd.prog E (xU (Instr.storeAt 139 b9J a9o)) u7 fun _z_13 r9 =>
 xcut (fun _ y9 => b2r a8r y9 R E) fun j1 =>
 opK Tryd.prog E (xV (Instr.loadAt 139 b9J)) r9 fun d4c v8 =>
 opK Tryd.prog E (xCall d4c [x0, (Value.int .i64 1)]) v8 fun c5M A5 =>
 opK Tryd.prog E (xV (Op.unary .not c5M)) A5 fun c5N A6 =>
 xcond c5N
 (j1 [] A6)
 (opK Tryd.prog E (xV (Instr.loadAt 93 a8r)) A6 fun c5O B8 =>
 opK Tryd.prog E (xNil c5O) B8 fun c5P G4 =>
 opK Tryd.prog E (xV (Instr.fieldAt 92 c5P 3)) G4 fun a9p J2 =>
 opK Tryd.prog E (xV (Instr.loadAt 4 a9p)) J2 fun c5Q G1 =>
 xcond c5Q
 (opK Tryd.prog E (xV (Instr.loadAt 93 a8r)) G1 fun c5R J3 =>
 opK Tryd.prog E (xNil c5R) J3 fun c5S N7 =>
 opK Tryd.prog E (xV (Instr.fieldAt 92 c5S 2)) N7 fun c5T M4 =>
 opK Tryd.prog E (xU (Instr.storeAt 34 c5T (Value.int .i64 30))) M4 fun _z_39 L0 =>
 j1 [] L0)
 (opK Tryd.prog E (xV (Instr.loadAt 93 a8r)) G1 fun c5U Q2 =>
 opK Tryd.prog E (xNil c5U) Q2 fun c5V N8 =>
 opK Tryd.prog E (xV (Instr.fieldAt 92 c5V 4)) N8 fun c5W W1 =>
 opK Tryd.prog E (xV (Instr.loadAt 4 c5W)) W1 fun c5X S2 =>
 xcond c5X
 (opK Tryd.prog E (xV (Instr.loadAt 93 a8r)) S2 fun c5Y M5 =>
 opK Tryd.prog E (xNil c5Y) M5 fun c5Z Q0 =>
 opK Tryd.prog E (xV (Instr.fieldAt 92 c5Z 2)) Q0 fun c6a W2 =>
 opK Tryd.prog E (xU (Instr.storeAt 34 c6a (Value.int .i64 31))) W2 fun _z_55 U6 =>
 j1 [] U6)
 (j1 [] S2)))
noncomputable def c57 : Code := Tryd.f57.body.getD .skip
def h57 : Hint := (.seq .none (.seq .none (.seq .none (.seq .none (.cut [] (.seq .none (.block (.seq .none (.cond .none (.seq .none (.cond .none (.seq .none (.cond .none .none)))))))) (.seq .none .none))))))
theorem c6b (x0 : Value) (w : World) (R : Value → World → Prop) (E : Pan) : F57 x0 w R E = callX Tryd.prog [.tmp 2] c57 h57 [x0] w R E := by kernel_rfl
theorem c6c {x0 : Value} {w : World} {R : Value → World → Prop} {E : Pan} (h : F57 x0 w R E) : Cv Tryd.prog 57 #[x0] w R E := by
 refine g8 (args := [x0]) (c := c57) (h := h57) (rs := [.tmp 2]) Tryd.func57 (by kernel_rfl) (by kernel_rfl) (Nat.le_of_ble_eq_true (by kernel_rfl)) (by kernel_rfl) (by kernel_rfl) (by kernel_rfl) ?_
 rw [← c6b]
 exact h
def F66 (x0 : Value) (w : World) (R : Value → World → Prop) (E : Pan) : Prop :=
 opK Tryd.prog E (xV (Instr.box 25 x0)) w fun p6 w_2 =>
 dX w_2 fun w_3 =>
 qP Tryd.prog (xV (Instr.fieldAt 25 p6 0)) fun b0n =>
 qP Tryd.prog (xV (Instr.fieldAt 25 p6 1)) fun a6I =>
 qL Tryd.prog w_3 (blk b0n) (xV (Instr.loadAt 22 b0n)) fun d6K =>
 qL Tryd.prog w_3 (blk a6I) (xV (Instr.loadAt 23 a6I)) fun b0o =>
 opK Tryd.prog E (xCall (Value.func (.func 95) #[] #[]) [d6K, (Value.func (.func 96) #[] #[])]) w_3 fun b9K w_9 =>
 keepX [(blk a6I)] w_3 w_9 (opK Tryd.prog E (xCall (Value.func (.func 97) #[] #[]) [b0o, (Value.func (.func 98) #[] #[])]) w_9 fun d4d S3 =>
 keepX [] w_9 S3 (opK Tryd.prog E (xV (Instr.buildSlice 172 2 #[(0, b9K), (1, d4d)])) S3 fun d4e a3x =>
 keepX [] S3 a3x (opK Tryd.prog E (xCall (Value.func (.func 94) #[] #[]) [d4e]) a3x fun c6d a8s =>
 keepX [] a3x a8s (opK Tryd.prog E (xCall (Value.func (.func 57) #[] #[]) [c6d]) a8s fun c6e a0F =>
 keepX [] a8s a0F (R c6e a0F)))))
noncomputable def c66 : Code := Tryd.f66.body.getD .skip
def h66 : Hint := (.seq .none (.seq (.reg [(0, 8, 2), (1, 16, 8), (2, 32, 16), (0, 64, 2), (8, 128, 64), (20, 256, 128), (36, 512, 288), (96, 1024, 512), (128, 2048, 1024), (511, 4, 2048)] [18, 16, 16, 18, 2, 0, 0, 0, 0, 18] (.early 0 (.early 3 (.load 1 (.load 4 (.step 2 (.step 5 (.step 6 (.step 7 (.step 8 (.early 9 .done))))))))))) .none))
theorem c6f (x0 : Value) (w : World) (R : Value → World → Prop) (E : Pan) : F66 x0 w R E = callX Tryd.prog [.tmp 2] c66 h66 [x0] w R E := by kernel_rfl
theorem c6g {x0 : Value} {w : World} {R : Value → World → Prop} {E : Pan} (h : F66 x0 w R E) : Cv Tryd.prog 66 #[x0] w R E := by
 refine g8 (args := [x0]) (c := c66) (h := h66) (rs := [.tmp 2]) Tryd.func66 (by kernel_rfl) (by kernel_rfl) (Nat.le_of_ble_eq_true (by kernel_rfl)) (by kernel_rfl) (by kernel_rfl) (by kernel_rfl) ?_
 rw [← c6f]
 exact h
def b2s (w : World) (R : Value → World → Prop) (_E : Pan) : Prop :=
 ∀ _τ : Fr, (R (Value.bool true) w)
def b7H (x1 x2 x3 x9 x10 x11 : Value) (w : World) (next2 : List Value → World → Prop) (j1 : List Value → World → Prop) (R : Value → World → Prop) (E : Pan) : Prop :=
 opK Tryd.prog E (xBin .lss 3 (.tmp 11) (.tmp 10) x11 x10) w fun a9q w_6 =>
 xcond a9q
 (opK Tryd.prog E (xV (Instr.indexAt 97 x9 x11)) w_6 fun a9r w_8 =>
 opK Tryd.prog E (xV (Instr.loadAt 141 a9r)) w_8 fun a1z o2 =>
 dX o2 fun S3 =>
 qL Tryd.prog S3 (blk x2) (xV (Instr.loadAt 93 x2)) fun c6h =>
 opK Tryd.prog E (xCall (Value.func (.func 90) #[] #[]) [c6h, a1z, x1]) S3 fun a6J r9 =>
 keepX [] S3 r9 (qP Tryd.prog (xV (Op.unary .not a6J)) fun a0O =>
 qP Tryd.prog (gsem (asB a0O) false (xBin .add 3 (.tmp 24) (.const (Value.int .i64 1)) (gval (asB a0O) false x1) (Value.int .i64 1))) fun c6i =>
 qL Tryd.prog r9 (blk x3) (gsem (asB a0O) false (xV (Instr.loadAt 139 x3))) fun c6j =>
 opK Tryd.prog E (gsem (asB a0O) false (xInvoke (gval (asB a0O) false a1z) "gnomon/tree.parts" [])) r9 fun c6k a5z =>
 keepX [(blk x3)] r9 a5z (opK Tryd.prog E (gsem (asB a0O) false (xCall c6j [c6k, c6i])) a5z fun c6l a6K =>
 keepX [] a5z a6K (qP Tryd.prog (gsem (asB a0O) false (xV (Op.unary .not c6l))) fun c6m =>
 qP Tryd.prog (xPick a0O (Value.bool true) c6m) fun b2t =>
 xcond b2t
 (R (Value.bool false) a6K)
 (opK Tryd.prog E (xBin .add 3 (.tmp 11) (.const (Value.int .i64 1)) x11 (Value.int .i64 1)) a6K fun c6n b2u =>
 next2 [c6n] b2u)))))
 (j1 [] w_6)
def F89 (x0 x1 x2 x3 : Value) (w : World) (R : Value → World → Prop) (E : Pan) : Prop :=
 xcut (fun _ w_2 => b2s w_2 R E) fun j1 =>
 opK Tryd.prog E (xBuiltin .len #[97] 3 [false] [x0]) w fun b5e w_4 =>
 xloop [11] [(Value.int .i64 0)] w_4 fun τ_26 a3y next2 =>
 b7H x1 x2 x3 x0 b5e (τ_26 11) a3y next2 j1 R E
noncomputable def c89 : Code := Tryd.f89.body.getD .skip
def h89 : Hint := (.seq .none (.cut [] (.seq .none (.block (.loop [11] (.seq .none (.seq (.cond .none .none) (.seq (.block (.seq .none (.seq (.reg [(0, 32768, 4), (0, 65536, 256), (0, 131072, 2), (7, 262144, 229376), (8, 524288, 262144), (24, 1048576, 524288), (32, 2097152, 1048584), (32, 4194304, 1048832), (160, 8388608, 5242880), (32, 16777216, 1048578), (544, 33554432, 17825792), (1376, 67108864, 45088768), (2080, 134217728, 68157440), (4128, 268435456, 135266304)] [64, 65, 65, 0, 65, 65, 1, 65, 64, 65, 65, 0, 65, 65] (.early 1 (.early 2 (.load 0 (.step 3 (.early 4 (.early 5 (.early 7 (.early 9 (.early 10 (.load 6 (.step 8 (.step 11 (.early 12 (.early 13 .done))))))))))))))) (.cond (.seq .none .none) .none)))) .none)))))) (.seq .none .none)))
theorem c6o (x0 x1 x2 x3 : Value) (w : World) (R : Value → World → Prop) (E : Pan) : F89 x0 x1 x2 x3 w R E = callX Tryd.prog [.tmp 6] c89 h89 [x0, x1, x2, x3] w R E := by kernel_rfl
theorem c6p {x0 x1 x2 x3 : Value} {w : World} {R : Value → World → Prop} {E : Pan} (h : F89 x0 x1 x2 x3 w R E) : Cv Tryd.prog 89 #[x0, x1, x2, x3] w R E := by
 refine g8 (args := [x0, x1, x2, x3]) (c := c89) (h := h89) (rs := [.tmp 6]) Tryd.func89 (by kernel_rfl) (by kernel_rfl) (Nat.le_of_ble_eq_true (by kernel_rfl)) (by kernel_rfl) (by kernel_rfl) (by kernel_rfl) ?_
 rw [← c6o]
 exact h
def b2v (w : World) (R : Value → World → Prop) (_E : Pan) : Prop :=
 ∀ _τ : Fr, (R (Value.bool true) w)
def F90 (x0 x1 x2 : Value) (w : World) (R : Value → World → Prop) (E : Pan) : Prop :=
 opK Tryd.prog E (xNil x0) w fun b1O w_2 =>
 opK Tryd.prog E (xV (Instr.fieldAt 92 b1O 0)) w_2 fun a9s w_4 =>
 opK Tryd.prog E (xV (Instr.loadAt 3 a9s)) w_4 fun a9q w_6 =>
 opK Tryd.prog E (xBin .add 3 (.tmp 12) (.const (Value.int .i64 1)) a9q (Value.int .i64 1)) w_6 fun a9r w_8 =>
 opK Tryd.prog E (xNil x0) w_8 fun a1z o2 =>
 opK Tryd.prog E (xV (Instr.fieldAt 92 a1z 0)) o2 fun a3z u7 =>
 opK Tryd.prog E (xU (Instr.storeAt 3 a3z a9r)) u7 fun _z_13 r9 =>
 opK Tryd.prog E (xNil x0) r9 fun a6L v6 =>
 opK Tryd.prog E (xV (Instr.fieldAt 92 a6L 0)) v6 fun b2w y9 =>
 opK Tryd.prog E (xV (Instr.loadAt 3 b2w)) y9 fun c6q v8 =>
 opK Tryd.prog E (xBin .gtr 3 (.tmp 19) (.const (Value.int .i64 4096)) c6q (Value.int .i64 4096)) v8 fun c6r A5 =>
 xcond c6r
 (opK Tryd.prog E (xNil x0) A5 fun c6s A6 =>
 opK Tryd.prog E (xV (Instr.fieldAt 92 c6s 2)) A6 fun c6t B8 =>
 opK Tryd.prog E (xU (Instr.storeAt 34 c6t (Value.int .i64 33))) B8 fun _z_27 G4 =>
 R (Value.bool false) G4)
 (opK Tryd.prog E (xBin .gtr 3 (.tmp 24) (.const (Value.int .i64 64)) x2 (Value.int .i64 64)) A5 fun c6u J2 =>
 xcond c6u
 (opK Tryd.prog E (xNil x0) J2 fun c6v G1 =>
 opK Tryd.prog E (xV (Instr.fieldAt 92 c6v 2)) G1 fun c6w J3 =>
 opK Tryd.prog E (xU (Instr.storeAt 34 c6w (Value.int .i64 32))) J3 fun _z_35 N7 =>
 R (Value.bool false) N7)
 (opK Tryd.prog E (xNil x0) J2 fun c6x M4 =>
 opK Tryd.prog E (xV (Instr.fieldAt 92 c6x 1)) M4 fun c6y L0 =>
 opK Tryd.prog E (xV (Instr.loadAt 3 c6y)) L0 fun c6z Q2 =>
 opK Tryd.prog E (xBuiltin .max #[3, 3] 3 [false, false] [c6z, x2]) Q2 fun c6A N8 =>
 opK Tryd.prog E (xNil x0) N8 fun c6B W1 =>
 opK Tryd.prog E (xV (Instr.fieldAt 92 c6B 1)) W1 fun c6C S2 =>
 opK Tryd.prog E (xU (Instr.storeAt 3 c6C c6A)) S2 fun _z_49 M5 =>
 opK Tryd.prog E (xNil x0) M5 fun c6D Q0 =>
 opK Tryd.prog E (xV (Instr.fieldAt 92 c6D 3)) Q0 fun c6E W2 =>
 opK Tryd.prog E (xV (Instr.loadAt 4 c6E)) W2 fun a9t U6 =>
 opK Tryd.prog E (gsem (asB a9t) false (xInvoke (gval (asB a9t) false x1) "gnomon/tree.form" [])) U6 fun c6F W3 =>
 opK Tryd.prog E (gsem (asB a9t) false (xV (Op.unary .not c6F))) W3 fun c6G X3 =>
 opK Tryd.prog E (xPick a9t (Value.bool true) c6G) X3 fun c6H Z5 =>
 opK Tryd.prog E (xNil x0) Z5 fun c6I Z6 =>
 opK Tryd.prog E (xV (Instr.fieldAt 92 c6I 3)) Z6 fun c6J X4 =>
 opK Tryd.prog E (xU (Instr.storeAt 4 c6J c6H)) X4 fun _z_67 a0X =>
 xcut (fun _ Z7 => b2v Z7 R E) fun j1 =>
 opK Tryd.prog E (xCall (Value.func (.func 114) #[] #[]) [x1]) a0X fun b7I Z8 =>
 opK Tryd.prog E (xV (Instr.extract b7I 0)) Z8 fun a6M a0G =>
 opK Tryd.prog E (xV (Instr.extract b7I 1)) a0G fun c6K a0i =>
 xcond c6K
 (opK Tryd.prog E (xNil x0) a0i fun c6L a1A =>
 opK Tryd.prog E (xV (Instr.fieldAt 92 c6L 4)) a1A fun c6M a1Y =>
 opK Tryd.prog E (xV (Instr.loadAt 4 c6M)) a1Y fun a3A a2L =>
 opK Tryd.prog E (gsem (asB a3A) false (xCall (Value.func (.func 115) #[] #[]) [(gval (asB a3A) false a6M)])) a2L fun c6N a4E =>
 opK Tryd.prog E (gsem (asB a3A) false (xV (Op.unary .not c6N))) a4E fun c6O a4F =>
 opK Tryd.prog E (xPick a3A (Value.bool true) c6O) a4F fun c6P a2M =>
 opK Tryd.prog E (xNil x0) a2M fun c6Q a8t =>
 opK Tryd.prog E (xV (Instr.fieldAt 92 c6Q 4)) a8t fun c6R a8u =>
 opK Tryd.prog E (xU (Instr.storeAt 4 c6R c6P)) a8u fun _z_93 a6N =>
 opK Tryd.prog E (xNil x0) a6N fun c6S a5A =>
 opK Tryd.prog E (xV (Instr.fieldAt 92 c6S 5)) a5A fun c6T a8v =>
 opK Tryd.prog E (xV (Instr.loadAt 47 c6T)) a8v fun c6U a4p =>
 opK Tryd.prog E (xCall (Value.func (.func 116) #[] #[]) [c6U, a6M]) a4p fun c3m a2Y =>
 opK Tryd.prog E (xV (Op.unary .not c3m)) a2Y fun c3n a5B =>
 xcond c3n
 (opK Tryd.prog E (xNil x0) a5B fun c3o a2Z =>
 opK Tryd.prog E (xV (Instr.fieldAt 92 c3o 5)) a2Z fun c3p b5f =>
 opK Tryd.prog E (xV (Instr.loadAt 47 c3p)) b5f fun c3q b5g =>
 opK Tryd.prog E (xV (Instr.buildSlice 47 1 #[(0, a6M)])) b5g fun c3r b5h =>
 opK Tryd.prog E (xBuiltin .append #[47, 47] 47 [false, false] [c3q, c3r]) b5h fun c3s a4q =>
 opK Tryd.prog E (xNil x0) a4q fun c3t a5C =>
 opK Tryd.prog E (xV (Instr.fieldAt 92 c3t 5)) a5C fun c3u b5i =>
 opK Tryd.prog E (xU (Instr.storeAt 47 c3u c3s)) b5i fun _z_119 a7z =>
 j1 [] a7z)
 (j1 [] a5B))
 (j1 [] a0i)))
noncomputable def c90 : Code := Tryd.f90.body.getD .skip
def h90 : Hint := (.seq .none (.seq (.seq .none (.seq .none (.cond (.seq .none (.seq .none .none)) .none))) (.seq (.seq .none (.cond (.seq .none (.seq .none .none)) .none)) (.seq .none (.seq .none (.cut [] (.seq .none (.seq .none (.cond (.seq .none (.seq .none (.cond .none .none))) .none))) (.seq .none .none)))))))
theorem c6V (x0 x1 x2 : Value) (w : World) (R : Value → World → Prop) (E : Pan) : F90 x0 x1 x2 w R E = callX Tryd.prog [.tmp 6] c90 h90 [x0, x1, x2] w R E := by kernel_rfl
theorem c6W {x0 x1 x2 : Value} {w : World} {R : Value → World → Prop} {E : Pan} (h : F90 x0 x1 x2 w R E) : Cv Tryd.prog 90 #[x0, x1, x2] w R E := by
 refine g8 (args := [x0, x1, x2]) (c := c90) (h := h90) (rs := [.tmp 6]) Tryd.func90 (by kernel_rfl) (by kernel_rfl) (Nat.le_of_ble_eq_true (by kernel_rfl)) (by kernel_rfl) (by kernel_rfl) (by kernel_rfl) ?_
 rw [← c6V]
 exact h
def b2x (x6 : Value) (w : World) (R : Value → World → Prop) (_E : Pan) : Prop :=
 ∀ _τ : Fr, (R x6 w)
def b7J (x6 x25 x26 x27 : Value) (w : World) (next3 : List Value → World → Prop) (j2 : List Value → World → Prop) (_R : Value → World → Prop) (E : Pan) : Prop :=
 opK Tryd.prog E (xBin .lss 3 (.tmp 27) (.tmp 26) x27 x26) w fun d4f w_8 =>
 xcond d4f
 (opK Tryd.prog E (xV (Instr.indexAt 172 x25 x27)) w_8 fun d4g o2 =>
 opK Tryd.prog E (xV (Instr.loadAt 97 d4g)) o2 fun c6X u7 =>
 opK Tryd.prog E (xBuiltin .append #[97, 97] 97 [false, false] [x6, c6X]) u7 fun c6Y r9 =>
 opK Tryd.prog E (xBin .add 3 (.tmp 27) (.const (Value.int .i64 1)) x27 (Value.int .i64 1)) r9 fun c6Z v6 =>
 next3 [c6Y, c6Z] v6)
 (j2 [x6] w_8)
def b2y (x0 x3 : Value) (w : World) (R : Value → World → Prop) (E : Pan) : Prop :=
 ∀ _τ : Fr, (opK Tryd.prog E (xCall (Value.func (.func 120) #[] #[]) [(Value.slice none 0 0), x3]) w fun d4h w_2 =>
 xcut (fun l_3 w_4 => b2x (nth l_3 0) w_4 R E) fun j2 =>
 opK Tryd.prog E (xBuiltin .len #[172] 3 [false] [x0]) w_2 fun d4i w_6 =>
 xloop [6, 27] [d4h, (Value.int .i64 0)] w_6 fun τ_17 y9 next3 =>
 b7J (τ_17 6) x0 d4i (τ_17 27) y9 next3 j2 R E)
def b2z (_x0 x3 _x9 _x10 x11 : Value) (w : World) (next4 : List Value → World → Prop) (_R : Value → World → Prop) (E : Pan) : Prop :=
 ∀ _τ : Fr, (opK Tryd.prog E (xBin .add 3 (.tmp 11) (.const (Value.int .i64 1)) x11 (Value.int .i64 1)) w fun c7a B8 =>
 next4 [x3, c7a] B8)
def b7K (x0 x3 x9 x10 x11 : Value) (w : World) (next4 : List Value → World → Prop) (j1 : List Value → World → Prop) (R : Value → World → Prop) (E : Pan) : Prop :=
 opK Tryd.prog E (xBin .lss 3 (.tmp 11) (.tmp 10) x11 x10) w fun c7b A6 =>
 xcond c7b
 (xcut (fun b9L G4 => b2z x0 (nth b9L 0) x9 x10 x11 G4 next4 R E) fun j5 =>
 opK Tryd.prog E (xV (Instr.indexAt 172 x9 x11)) A6 fun c7c J2 =>
 opK Tryd.prog E (xV (Instr.loadAt 97 c7c)) J2 fun c7d G1 =>
 opK Tryd.prog E (xBuiltin .len #[97] 3 [false] [c7d]) G1 fun b2A J3 =>
 opK Tryd.prog E (xBin .add 3 (.tmp 15) (.tmp 17) x3 b2A) J3 fun a6O N7 =>
 opK Tryd.prog E (xBin .lss 3 (.tmp 19) (.const (Value.int .i64 0)) a6O (Value.int .i64 0)) N7 fun c7e M4 =>
 xcond c7e
 (opK Tryd.prog E (xV (Instr.makeInterface 9 (Value.string ⟨#[108, 101, 110, 32, 111, 117, 116, 32, 111, 102, 32, 114, 97, 110, 103, 101]⟩))) M4 fun c7f L0 =>
 opK Tryd.prog E (xV (Instr.panic c7f)) L0 fun _z_41 Q2 =>
 j5 [a6O] Q2)
 (j5 [a6O] M4))
 (j1 [x3] A6)
def F94 (x0 : Value) (w : World) (R : Value → World → Prop) (E : Pan) : Prop :=
 xcut (fun d6L v8 => b2y x0 (nth d6L 0) v8 R E) fun j1 =>
 opK Tryd.prog E (xBuiltin .len #[172] 3 [false] [x0]) w fun c7g A5 =>
 xloop [3, 11] [(Value.int .i64 0), (Value.int .i64 0)] A5 fun τ_43 N8 next4 =>
 b7K x0 (τ_43 3) x0 c7g (τ_43 11) N8 next4 j1 R E
noncomputable def c94 : Code := Tryd.f94.body.getD .skip
def h94 : Hint := (.seq .none (.seq .none (.cut [3] (.seq .none (.block (.loop [3, 11] (.seq .none (.seq (.cond .none .none) (.cut [3] (.block (.seq .none (.seq .none (.seq .none (.cond .none .none))))) .none)))))) (.seq .none (.cut [6] (.seq .none (.block (.loop [6, 27] (.seq .none (.seq (.cond .none .none) (.seq (.block (.seq .none .none)) .none)))))) (.seq .none .none))))))
theorem c7h (x0 : Value) (w : World) (R : Value → World → Prop) (E : Pan) : F94 x0 w R E = callX Tryd.prog [.tmp 2] c94 h94 [x0] w R E := by kernel_rfl
theorem c7i {x0 : Value} {w : World} {R : Value → World → Prop} {E : Pan} (h : F94 x0 w R E) : Cv Tryd.prog 94 #[x0] w R E := by
 refine g8 (args := [x0]) (c := c94) (h := h94) (rs := [.tmp 2]) Tryd.func94 (by kernel_rfl) (by kernel_rfl) (Nat.le_of_ble_eq_true (by kernel_rfl)) (by kernel_rfl) (by kernel_rfl) (by kernel_rfl) ?_
 rw [← c7h]
 exact h
def b2B (x5 : Value) (w : World) (R : Value → World → Prop) (_E : Pan) : Prop :=
 ∀ _τ : Fr, (R x5 w)
def b7L (x1 x5 x8 x9 x10 : Value) (w : World) (next2 : List Value → World → Prop) (j1 : List Value → World → Prop) (_R : Value → World → Prop) (E : Pan) : Prop :=
 opK Tryd.prog E (xBin .lss 3 (.tmp 10) (.tmp 9) x10 x9) w fun a5D w_6 =>
 xcond a5D
 (opK Tryd.prog E (xV (Instr.indexAt 22 x8 x10)) w_6 fun a1B w_8 =>
 opK Tryd.prog E (xV (Instr.loadAt 67 a1B)) w_8 fun a0S o2 =>
 opK Tryd.prog E (xV (Instr.alloc 67 true (.tuple #[]))) o2 fun a0z u7 =>
 opK Tryd.prog E (xU (Instr.storeAt 67 a0z a0S)) u7 fun _z_13 r9 =>
 opK Tryd.prog E (xV (Instr.loadAt 67 a0z)) r9 fun a1C v6 =>
 opK Tryd.prog E (xCall x1 [a1C]) v6 fun a1D y9 =>
 opK Tryd.prog E (xV (Instr.buildSlice 97 1 #[(0, a1D)])) y9 fun a1E v8 =>
 opK Tryd.prog E (xBuiltin .append #[97, 97] 97 [false, false] [x5, a1E]) v8 fun a1F A5 =>
 opK Tryd.prog E (xBin .add 3 (.tmp 10) (.const (Value.int .i64 1)) x10 (Value.int .i64 1)) A5 fun a1G A6 =>
 next2 [a1F, a1G] A6)
 (j1 [x5] w_6)
def F95 (x0 x1 : Value) (w : World) (R : Value → World → Prop) (E : Pan) : Prop :=
 xcut (fun l_1 w_2 => b2B (nth l_1 0) w_2 R E) fun j1 =>
 opK Tryd.prog E (xBuiltin .len #[22] 3 [false] [x0]) w fun a1Z w_4 =>
 xloop [5, 10] [(Value.slice none 0 0), (Value.int .i64 0)] w_4 fun τ_25 B8 next2 =>
 b7L x1 (τ_25 5) x0 a1Z (τ_25 10) B8 next2 j1 R E
noncomputable def c95 : Code := Tryd.f95.body.getD .skip
def h95 : Hint := (.seq .none (.seq .none (.cut [5] (.seq .none (.block (.loop [5, 10] (.seq .none (.seq (.cond .none .none) (.seq (.block (.seq .none .none)) .none)))))) (.seq .none .none))))
theorem c7j (x0 x1 : Value) (w : World) (R : Value → World → Prop) (E : Pan) : F95 x0 x1 w R E = callX Tryd.prog [.tmp 4] c95 h95 [x0, x1] w R E := by kernel_rfl
theorem c7k {x0 x1 : Value} {w : World} {R : Value → World → Prop} {E : Pan} (h : F95 x0 x1 w R E) : Cv Tryd.prog 95 #[x0, x1] w R E := by
 refine g8 (args := [x0, x1]) (c := c95) (h := h95) (rs := [.tmp 4]) Tryd.func95 (by kernel_rfl) (by kernel_rfl) (Nat.le_of_ble_eq_true (by kernel_rfl)) (by kernel_rfl) (by kernel_rfl) (by kernel_rfl) ?_
 rw [← c7j]
 exact h
def F96 (x0 : Value) (w : World) (R : Value → World → Prop) (E : Pan) : Prop :=
 opK Tryd.prog E (xV (Instr.box 67 x0)) w fun p6 w_2 =>
 opK Tryd.prog E (xV (Instr.loadAt 67 p6)) w_2 fun a0V w_4 =>
 opK Tryd.prog E (xV (Instr.build 175 #[(0, a0V)])) w_4 fun U5 w_6 =>
 opK Tryd.prog E (xV (Instr.makeInterface 175 U5)) w_6 fun a0W w_8 =>
 R a0W w_8
noncomputable def c96 : Code := Tryd.f96.body.getD .skip
def h96 : Hint := (.seq .none (.seq .none .none))
theorem c7l (x0 : Value) (w : World) (R : Value → World → Prop) (E : Pan) : F96 x0 w R E = callX Tryd.prog [.tmp 2] c96 h96 [x0] w R E := by kernel_rfl
theorem c7m {x0 : Value} {w : World} {R : Value → World → Prop} {E : Pan} (h : F96 x0 w R E) : Cv Tryd.prog 96 #[x0] w R E := by
 refine g8 (args := [x0]) (c := c96) (h := h96) (rs := [.tmp 2]) Tryd.func96 (by kernel_rfl) (by kernel_rfl) (Nat.le_of_ble_eq_true (by kernel_rfl)) (by kernel_rfl) (by kernel_rfl) (by kernel_rfl) ?_
 rw [← c7l]
 exact h
def b2C (x5 : Value) (w : World) (R : Value → World → Prop) (_E : Pan) : Prop :=
 ∀ _τ : Fr, (R x5 w)
def b7M (x1 x5 x8 x9 x10 : Value) (w : World) (next2 : List Value → World → Prop) (j1 : List Value → World → Prop) (_R : Value → World → Prop) (E : Pan) : Prop :=
 opK Tryd.prog E (xBin .lss 3 (.tmp 10) (.tmp 9) x10 x9) w fun a5D w_6 =>
 xcond a5D
 (opK Tryd.prog E (xV (Instr.indexAt 23 x8 x10)) w_6 fun a1B w_8 =>
 opK Tryd.prog E (xV (Instr.loadAt 88 a1B)) w_8 fun a0S o2 =>
 opK Tryd.prog E (xV (Instr.alloc 88 true (.tuple #[]))) o2 fun a0z u7 =>
 opK Tryd.prog E (xU (Instr.storeAt 88 a0z a0S)) u7 fun _z_13 r9 =>
 opK Tryd.prog E (xV (Instr.loadAt 88 a0z)) r9 fun a1C v6 =>
 opK Tryd.prog E (xCall x1 [a1C]) v6 fun a1D y9 =>
 opK Tryd.prog E (xV (Instr.buildSlice 97 1 #[(0, a1D)])) y9 fun a1E v8 =>
 opK Tryd.prog E (xBuiltin .append #[97, 97] 97 [false, false] [x5, a1E]) v8 fun a1F A5 =>
 opK Tryd.prog E (xBin .add 3 (.tmp 10) (.const (Value.int .i64 1)) x10 (Value.int .i64 1)) A5 fun a1G A6 =>
 next2 [a1F, a1G] A6)
 (j1 [x5] w_6)
def F97 (x0 x1 : Value) (w : World) (R : Value → World → Prop) (E : Pan) : Prop :=
 xcut (fun l_1 w_2 => b2C (nth l_1 0) w_2 R E) fun j1 =>
 opK Tryd.prog E (xBuiltin .len #[23] 3 [false] [x0]) w fun a1Z w_4 =>
 xloop [5, 10] [(Value.slice none 0 0), (Value.int .i64 0)] w_4 fun τ_25 B8 next2 =>
 b7M x1 (τ_25 5) x0 a1Z (τ_25 10) B8 next2 j1 R E
noncomputable def c97 : Code := Tryd.f97.body.getD .skip
def h97 : Hint := (.seq .none (.seq .none (.cut [5] (.seq .none (.block (.loop [5, 10] (.seq .none (.seq (.cond .none .none) (.seq (.block (.seq .none .none)) .none)))))) (.seq .none .none))))
theorem c7n (x0 x1 : Value) (w : World) (R : Value → World → Prop) (E : Pan) : F97 x0 x1 w R E = callX Tryd.prog [.tmp 4] c97 h97 [x0, x1] w R E := by kernel_rfl
theorem c7o {x0 x1 : Value} {w : World} {R : Value → World → Prop} {E : Pan} (h : F97 x0 x1 w R E) : Cv Tryd.prog 97 #[x0, x1] w R E := by
 refine g8 (args := [x0, x1]) (c := c97) (h := h97) (rs := [.tmp 4]) Tryd.func97 (by kernel_rfl) (by kernel_rfl) (Nat.le_of_ble_eq_true (by kernel_rfl)) (by kernel_rfl) (by kernel_rfl) (by kernel_rfl) ?_
 rw [← c7n]
 exact h
def F98 (x0 : Value) (w : World) (R : Value → World → Prop) (E : Pan) : Prop :=
 opK Tryd.prog E (xV (Instr.box 88 x0)) w fun p6 w_2 =>
 opK Tryd.prog E (xV (Instr.loadAt 88 p6)) w_2 fun a0V w_4 =>
 opK Tryd.prog E (xV (Instr.build 177 #[(0, a0V)])) w_4 fun U5 w_6 =>
 opK Tryd.prog E (xV (Instr.makeInterface 177 U5)) w_6 fun a0W w_8 =>
 R a0W w_8
noncomputable def c98 : Code := Tryd.f98.body.getD .skip
def h98 : Hint := (.seq .none (.seq .none .none))
theorem c7p (x0 : Value) (w : World) (R : Value → World → Prop) (E : Pan) : F98 x0 w R E = callX Tryd.prog [.tmp 2] c98 h98 [x0] w R E := by kernel_rfl
theorem c7q {x0 : Value} {w : World} {R : Value → World → Prop} {E : Pan} (h : F98 x0 w R E) : Cv Tryd.prog 98 #[x0] w R E := by
 refine g8 (args := [x0]) (c := c98) (h := h98) (rs := [.tmp 2]) Tryd.func98 (by kernel_rfl) (by kernel_rfl) (Nat.le_of_ble_eq_true (by kernel_rfl)) (by kernel_rfl) (by kernel_rfl) (by kernel_rfl) ?_
 rw [← c7p]
 exact h
def b5j (x0 : Value) (w : World) (R : Value → World → Prop) (E : Pan) : Prop :=
 opK Tryd.prog E (xV (Instr.typeAssert x0 141 175 true)) w fun c7r w_2 =>
 opK Tryd.prog E (xV (Instr.extract c7r 1)) w_2 fun a1Z w_4 =>
 opK Tryd.prog E (xV (Instr.extract c7r 0)) w_4 fun a1H w_6 =>
 xcond a1Z
 (opK Tryd.prog E (xV (Instr.alloc 175 true (.tuple #[]))) w_6 fun c7s w_8 =>
 opK Tryd.prog E (xU (Instr.storeAt 175 c7s a1H)) w_8 fun _z_9 o2 =>
 opK Tryd.prog E (xV (Instr.fieldAt 175 c7s 0)) o2 fun b2D u7 =>
 opK Tryd.prog E (xV (Instr.fieldAt 67 b2D 0)) u7 fun b2E r9 =>
 opK Tryd.prog E (xV (Instr.loadAt 9 b2E)) r9 fun a9u v6 =>
 R (Value.tuple #[a9u, (Value.bool true)]) v6)
 (opK Tryd.prog E (xV (Instr.typeAssert x0 141 177 true)) w_6 fun b7N y9 =>
 opK Tryd.prog E (xV (Instr.extract b7N 1)) y9 fun b2F v8 =>
 opK Tryd.prog E (xV (Instr.extract b7N 0)) v8 fun b2G A5 =>
 xcond b2F
 (opK Tryd.prog E (xV (Instr.alloc 177 true (.tuple #[]))) A5 fun b1P A6 =>
 opK Tryd.prog E (xU (Instr.storeAt 177 b1P b2G)) A6 fun _z_25 B8 =>
 dX B8 fun a3y =>
 qP Tryd.prog (xV (Instr.fieldAt 177 b1P 0)) fun c7t =>
 qP Tryd.prog (xV (Instr.fieldAt 88 c7t 1)) fun a9p =>
 qP Tryd.prog (xV (Instr.fieldAt 177 b1P 0)) fun c7u =>
 qP Tryd.prog (xV (Instr.fieldAt 88 c7u 0)) fun b7O =>
 qL Tryd.prog a3y (blk a9p) (xV (Instr.loadAt 9 a9p)) fun c7v =>
 qL Tryd.prog a3y (blk b7O) (xV (Instr.loadAt 3 b7O)) fun c7w =>
 qP Tryd.prog (xBin .eql 3 (.tmp 22) (.const (Value.int .i64 1)) c7w (Value.int .i64 1)) fun a6P =>
 qP Tryd.prog (gsem (asB a6P) false (xV (Instr.fieldAt 177 b1P 0))) fun c7x =>
 qP Tryd.prog (gsem (asB a6P) false (xV (Instr.fieldAt 88 c7x 0))) fun b7P =>
 qL Tryd.prog a3y (blk b7P) (gsem (asB a6P) false (xV (Instr.loadAt 3 b7P))) fun c7y =>
 qP Tryd.prog (gsem (asB a6P) false (xBin .eql 3 (.tmp 27) (.const (Value.int .i64 2)) c7y (Value.int .i64 2))) fun c7z =>
 qP Tryd.prog (xPick a6P (Value.bool true) c7z) fun c7A =>
 R (Value.tuple #[c7v, c7A]) a3y)
 (opK Tryd.prog E (xV (Instr.typeAssert x0 141 96 true)) A5 fun b7Q b5k =>
 opK Tryd.prog E (xV (Instr.extract b7Q 1)) b5k fun a9v b2H =>
 opK Tryd.prog E (xV (Instr.extract b7Q 0)) b2H fun c7B a6Q =>
 xcond a9v
 (opK Tryd.prog E (xV (Instr.alloc 96 true (.tuple #[]))) a6Q fun b1Q b5l =>
 opK Tryd.prog E (xU (Instr.storeAt 96 b1Q c7B)) b5l fun _z_48 a8w =>
 dX a8w fun M5 =>
 qP Tryd.prog (xV (Instr.fieldAt 96 b1Q 0)) fun c7C =>
 qP Tryd.prog (xV (Instr.fieldAt 30 c7C 2)) fun b7R =>
 qP Tryd.prog (xV (Instr.fieldAt 96 b1Q 0)) fun b2I =>
 qP Tryd.prog (xV (Instr.fieldAt 30 b2I 0)) fun b7S =>
 qL Tryd.prog M5 (blk b7R) (xV (Instr.loadAt 9 b7R)) fun c7D =>
 qL Tryd.prog M5 (blk b7S) (xV (Instr.loadAt 3 b7S)) fun c7E =>
 qP Tryd.prog (xBin .eql 3 (.tmp 38) (.const (Value.int .i64 2)) c7E (Value.int .i64 2)) fun a6R =>
 qP Tryd.prog (gsem (asB a6R) false (xV (Instr.fieldAt 96 b1Q 0))) fun c7F =>
 qP Tryd.prog (gsem (asB a6R) false (xV (Instr.fieldAt 30 c7F 0))) fun b7T =>
 qL Tryd.prog M5 (blk b7T) (gsem (asB a6R) false (xV (Instr.loadAt 3 b7T))) fun c7G =>
 qP Tryd.prog (gsem (asB a6R) false (xBin .eql 3 (.tmp 43) (.const (Value.int .i64 4)) c7G (Value.int .i64 4))) fun c7H =>
 qP Tryd.prog (xPick a6R (Value.bool true) c7H) fun c7I =>
 R (Value.tuple #[c7D, c7I]) M5)
 (R (Value.tuple #[(Value.string ⟨#[]⟩), (Value.bool false)]) a6Q)))
noncomputable def c7J : Code := Tryd.f114.body.getD .skip
def c7K : Hint := (.seq .none (.seq (.seq .none (.block (.seq .none (.cond (.seq .none (.seq .none .none)) (.seq .none (.cond (.seq .none (.seq (.reg [(0, 131072, 32), (1, 262144, 131072), (2, 524288, 262144), (0, 1048576, 32), (8, 2097152, 1048576), (16, 4194304, 2097152), (32, 8388608, 4194304), (64, 16777216, 8388608), (128, 33554432, 16777248), (384, 67108864, 50331648), (640, 134217728, 83886080), (1152, 268435456, 150994944), (2176, 536870912, 285212672), (135, 4, 524288), (16383, 8, 536870912)] [1060, 1060, 1056, 1060, 1060, 1028, 1060, 1060, 1060, 1060, 36, 1060, 1060, 1060, 1060] (.early 0 (.early 1 (.early 3 (.early 4 (.load 2 (.load 5 (.early 6 (.early 7 (.early 8 (.early 9 (.early 13 (.load 10 (.early 11 (.early 12 (.early 14 .done)))))))))))))))) .none)) (.seq .none (.cond (.seq .none (.seq (.reg [(0, 8589934592, 64), (1, 17179869184, 8589934592), (2, 34359738368, 17179869184), (0, 68719476736, 64), (8, 137438953472, 68719476736), (16, 274877906944, 137438953472), (32, 549755813888, 274877906944), (64, 1099511627776, 549755813888), (128, 2199023255552, 1099511627840), (384, 4398046511104, 3298534883328), (640, 8796093022208, 5497558138880), (1152, 17592186044416, 9895604649984), (2176, 35184372088832, 18691697672192), (135, 4, 34359738368), (16383, 8, 35184372088832)] [1060, 1060, 1056, 1060, 1060, 1028, 1060, 1060, 1060, 1060, 36, 1060, 1060, 1060, 1060] (.early 0 (.early 1 (.early 3 (.early 4 (.load 2 (.load 5 (.early 6 (.early 7 (.early 8 (.early 9 (.early 13 (.load 10 (.early 11 (.early 12 (.early 14 .done)))))))))))))))) .none)) .none)))))))) (.seq .none .none)))
theorem c3v (x0 : Value) (w : World) (R : Value → World → Prop) (E : Pan) : b5j x0 w R E = callX Tryd.prog [.tmp 2, .tmp 3] c7J c7K [x0] w R E := by kernel_rfl
theorem c3w {x0 : Value} {w : World} {R : Value → World → Prop} {E : Pan} (h : b5j x0 w R E) : Cv Tryd.prog 114 #[x0] w R E := by
 refine g8 (args := [x0]) (c := c7J) (h := c7K) (rs := [.tmp 2, .tmp 3]) Tryd.func114 (by kernel_rfl) (by kernel_rfl) (Nat.le_of_ble_eq_true (by kernel_rfl)) (by kernel_rfl) (by kernel_rfl) (by kernel_rfl) ?_
 rw [← c3v]
 exact h
def b0p (w : World) (R : Value → World → Prop) (_E : Pan) : Prop :=
 ∀ _τ : Fr, (R (Value.bool true) w)
def b4A (x21 : Value) (w : World) (next2 : List Value → World → Prop) (j1 : List Value → World → Prop) (R : Value → World → Prop) (E : Pan) : Prop :=
 opK Tryd.prog E (xV (Instr.next x21 true 0)) w fun b2J A5 =>
 opK Tryd.prog E (xV (Instr.extract b2J 0)) A5 fun c7L A6 =>
 xcond c7L
 (opK Tryd.prog E (xV (Instr.extract b2J 1)) A6 fun c7M B8 =>
 opK Tryd.prog E (xV (Instr.extract b2J 2)) B8 fun b7U G4 =>
 opK Tryd.prog E (xCall (Value.func (.func 125) #[] #[]) [b7U]) G4 fun c7N J2 =>
 opK Tryd.prog E (xV (Op.unary .not c7N)) J2 fun a2E G1 =>
 opK Tryd.prog E (gsem (asB a2E) false (xBin .eql 3 (.tmp 30) (.const (Value.int .i64 0)) (gval (asB a2E) false c7M) (Value.int .i64 0))) G1 fun a9w J3 =>
 opK Tryd.prog E (gsem (asB (gval (asB a2E) false a9w)) true (xCall (Value.func (.func 126) #[] #[]) [(gval (asB (gval (asB a2E) false a9w)) true b7U)])) J3 fun c7O N7 =>
 opK Tryd.prog E (gsem (asB (gval (asB a2E) false a9w)) true (xBin .neq 3 (.tmp 34) (.const (Value.int .i64 3)) c7O (Value.int .i64 3))) N7 fun c7P M4 =>
 opK Tryd.prog E (gsem (asB a2E) false (xPick (gval (asB a2E) false a9w) c7P (Value.bool false))) M4 fun c7Q L0 =>
 opK Tryd.prog E (xPick a2E (Value.bool true) c7Q) L0 fun c7R Q2 =>
 xcond c7R
 (R (Value.bool false) Q2)
 (next2 [] Q2))
 (j1 [] A6)
def b5m (x0 : Value) (w : World) (R : Value → World → Prop) (E : Pan) : Prop :=
 opK Tryd.prog E (xBin .eql 9 (.tmp 5) (.const (Value.string ⟨#[]⟩)) x0 (Value.string ⟨#[]⟩)) w fun b0m w_2 =>
 opK Tryd.prog E (gsem (asB b0m) false (xCall (Value.func (.func 122) #[] #[]) [(gval (asB b0m) false x0)])) w_2 fun a1Z w_4 =>
 opK Tryd.prog E (gsem (asB b0m) false (xV (Op.unary .not a1Z))) w_4 fun a1H w_6 =>
 opK Tryd.prog E (xPick b0m (Value.bool true) a1H) w_6 fun a9x w_8 =>
 opK Tryd.prog E (gsem (asB a9x) false (xCall (Value.func (.func 123) #[] #[]) [(gval (asB a9x) false x0)])) w_8 fun a1z o2 =>
 opK Tryd.prog E (xPick a9x (Value.bool true) a1z) o2 fun a3z u7 =>
 opK Tryd.prog E (gsem (asB a3z) false (xCall (Value.func (.func 124) #[] #[]) [(gval (asB a3z) false x0)])) u7 fun a6J r9 =>
 opK Tryd.prog E (xPick a3z (Value.bool true) a6J) r9 fun a0O v6 =>
 xcond a0O
 (R (Value.bool false) v6)
 (xcut (fun _ y9 => b0p y9 R E) fun j1 =>
 opK Tryd.prog E (xV (Instr.range 9 x0)) v6 fun c7S v8 =>
 xloop [] [] v8 fun _ N8 next2 =>
 b4A c7S N8 next2 j1 R E)
noncomputable def c7T : Code := Tryd.f115.body.getD .skip
def c7U : Hint := (.seq .none (.seq (.seq .none (.cond (.seq .none .none) .none)) (.cut [] (.seq .none (.block (.loop [] (.seq .none (.seq (.cond .none .none) (.block (.seq .none (.seq .none (.cond (.seq .none .none) .none))))))))) (.seq .none .none))))
theorem c3x (x0 : Value) (w : World) (R : Value → World → Prop) (E : Pan) : b5m x0 w R E = callX Tryd.prog [.tmp 2] c7T c7U [x0] w R E := by kernel_rfl
theorem c3y {x0 : Value} {w : World} {R : Value → World → Prop} {E : Pan} (h : b5m x0 w R E) : Cv Tryd.prog 115 #[x0] w R E := by
 refine g8 (args := [x0]) (c := c7T) (h := c7U) (rs := [.tmp 2]) Tryd.func115 (by kernel_rfl) (by kernel_rfl) (Nat.le_of_ble_eq_true (by kernel_rfl)) (by kernel_rfl) (by kernel_rfl) (by kernel_rfl) ?_
 rw [← c3x]
 exact h
def b5n (x0 x1 : Value) (w : World) (R : Value → World → Prop) (E : Pan) : Prop :=
 opK Tryd.prog E (xCall (Value.func (.func 127) #[] #[]) [x0, x1]) w fun b9M w_2 =>
 opK Tryd.prog E (xBin .geq 3 (.tmp 7) (.const (Value.int .i64 0)) b9M (Value.int .i64 0)) w_2 fun b0q w_4 =>
 R b0q w_4
noncomputable def c7V : Code := Tryd.f116.body.getD .skip
def c7W : Hint := (.seq .none (.seq .none .none))
theorem c3z (x0 x1 : Value) (w : World) (R : Value → World → Prop) (E : Pan) : b5n x0 x1 w R E = callX Tryd.prog [.tmp 4] c7V c7W [x0, x1] w R E := by kernel_rfl
theorem c3A {x0 x1 : Value} {w : World} {R : Value → World → Prop} {E : Pan} (h : b5n x0 x1 w R E) : Cv Tryd.prog 116 #[x0, x1] w R E := by
 refine g8 (args := [x0, x1]) (c := c7V) (h := c7W) (rs := [.tmp 4]) Tryd.func116 (by kernel_rfl) (by kernel_rfl) (Nat.le_of_ble_eq_true (by kernel_rfl)) (by kernel_rfl) (by kernel_rfl) (by kernel_rfl) ?_
 rw [← c3z]
 exact h
def b0r (x0 : Value) (w : World) (R : Value → World → Prop) (_E : Pan) : Prop :=
 ∀ _τ : Fr, (R x0 w)
def b4B (x0 x1 : Value) (w : World) (R : Value → World → Prop) (E : Pan) : Prop :=
 ∀ _τ : Fr, (xcut (fun l_1 w_2 => b0r (nth l_1 0) w_2 R E) fun j2 =>
 opK Tryd.prog E (xBuiltin .cap #[97] 3 [false] [x0]) w fun b5e w_4 =>
 opK Tryd.prog E (xBuiltin .len #[97] 3 [false] [x0]) w_4 fun a9q w_6 =>
 opK Tryd.prog E (xBin .sub 3 (.tmp 10) (.tmp 12) b5e a9q) w_6 fun a9r w_8 =>
 opK Tryd.prog E (xBin .sub 3 (.tmp 8) (.tmp 13) x1 a9r) w_8 fun a1z o2 =>
 opK Tryd.prog E (xBin .gtr 3 (.tmp 15) (.const (Value.int .i64 0)) a1z (Value.int .i64 0)) o2 fun a1I u7 =>
 xcond a1I
 (opK Tryd.prog E (xBuiltin .cap #[97] 3 [false] [x0]) u7 fun c7X r9 =>
 opK Tryd.prog E (xV (Instr.sliceAt 97 x0 none (some c7X) none)) r9 fun c7Y v6 =>
 opK Tryd.prog E (xBuiltin .append #[97, 3] 97 [false, false] [c7Y, a1z]) v6 fun b2K y9 =>
 opK Tryd.prog E (xBuiltin .len #[97] 3 [false] [x0]) y9 fun c7Z v8 =>
 opK Tryd.prog E (xV (Instr.sliceAt 97 b2K none (some c7Z) none)) v8 fun b2L A5 =>
 j2 [b2L] A5)
 (j2 [x0] u7))
def b9N (x0 x1 : Value) (w : World) (R : Value → World → Prop) (E : Pan) : Prop :=
 xcut (fun _ A6 => b4B x0 x1 A6 R E) fun j1 =>
 opK Tryd.prog E (xBin .lss 3 (.tmp 5) (.const (Value.int .i64 0)) x1 (Value.int .i64 0)) w fun d4j B8 =>
 xcond d4j
 (opK Tryd.prog E (xV (Instr.makeInterface 9 (Value.string ⟨#[99, 97, 110, 110, 111, 116, 32, 98, 101, 32, 110, 101, 103, 97, 116, 105, 118, 101]⟩))) B8 fun d4k G4 =>
 opK Tryd.prog E (xV (Instr.panic d4k)) G4 fun _z_29 J2 =>
 j1 [] J2)
 (j1 [] B8)
noncomputable def c8a : Code := Tryd.f120.body.getD .skip
def c8b : Hint := (.seq .none (.cut [] (.seq .none (.cond .none .none)) (.cut [0] (.seq .none (.seq .none (.cond .none .none))) (.seq .none .none))))
theorem c3B (x0 x1 : Value) (w : World) (R : Value → World → Prop) (E : Pan) : b9N x0 x1 w R E = callX Tryd.prog [.tmp 4] c8a c8b [x0, x1] w R E := by kernel_rfl
theorem c3C {x0 x1 : Value} {w : World} {R : Value → World → Prop} {E : Pan} (h : b9N x0 x1 w R E) : Cv Tryd.prog 120 #[x0, x1] w R E := by
 refine g8 (args := [x0, x1]) (c := c8a) (h := c8b) (rs := [.tmp 4]) Tryd.func120 (by kernel_rfl) (by kernel_rfl) (Nat.le_of_ble_eq_true (by kernel_rfl)) (by kernel_rfl) (by kernel_rfl) (by kernel_rfl) ?_
 rw [← c3B]
 exact h
def b5o (x0 : Value) (w : World) (R : Value → World → Prop) (E : Pan) : Prop :=
 opK Tryd.prog E (xCall (Value.func (.func 130) #[] #[]) [x0]) w fun b9O w_2 =>
 opK Tryd.prog E (xBin .gtr 3 (.tmp 4) (.const (Value.int .i64 32)) b9O (Value.int .i64 32)) w_2 fun b0s w_4 =>
 R b0s w_4
noncomputable def c8c : Code := Tryd.f123.body.getD .skip
def c8d : Hint := (.seq .none (.seq .none .none))
theorem c3D (x0 : Value) (w : World) (R : Value → World → Prop) (E : Pan) : b5o x0 w R E = callX Tryd.prog [.tmp 2] c8c c8d [x0] w R E := by kernel_rfl
theorem c3E {x0 : Value} {w : World} {R : Value → World → Prop} {E : Pan} (h : b5o x0 w R E) : Cv Tryd.prog 123 #[x0] w R E := by
 refine g8 (args := [x0]) (c := c8c) (h := c8d) (rs := [.tmp 2]) Tryd.func123 (by kernel_rfl) (by kernel_rfl) (Nat.le_of_ble_eq_true (by kernel_rfl)) (by kernel_rfl) (by kernel_rfl) (by kernel_rfl) ?_
 rw [← c3D]
 exact h
def b0t (x4 : Value) (w : World) (R : Value → World → Prop) (_E : Pan) : Prop :=
 ∀ _τ : Fr, (xcond x4
 (R (Value.bool true) w)
 (R (Value.bool false) w))
def b5p (x0 : Value) (w : World) (R : Value → World → Prop) (E : Pan) : Prop :=
 xcut (fun l_1 w_2 => b0t (nth l_1 0) w_2 R E) fun j1 =>
 opK Tryd.prog E (xBin .eql 9 (.tmp 3) (.const (Value.string ⟨#[118, 97, 114]⟩)) x0 (Value.string ⟨#[118, 97, 114]⟩)) w fun b0s w_4 =>
 xcond b0s
 (j1 [b0s] w_4)
 (opK Tryd.prog E (xBin .eql 9 (.tmp 3) (.const (Value.string ⟨#[97, 114, 114, 97, 121]⟩)) x0 (Value.string ⟨#[97, 114, 114, 97, 121]⟩)) w_4 fun a6I w_6 =>
 xcond a6I
 (j1 [a6I] w_6)
 (opK Tryd.prog E (xBin .eql 9 (.tmp 3) (.const (Value.string ⟨#[105, 102]⟩)) x0 (Value.string ⟨#[105, 102]⟩)) w_6 fun b0o w_8 =>
 xcond b0o
 (j1 [b0o] w_8)
 (opK Tryd.prog E (xBin .eql 9 (.tmp 3) (.const (Value.string ⟨#[101, 108, 115, 101]⟩)) x0 (Value.string ⟨#[101, 108, 115, 101]⟩)) w_8 fun a8x o2 =>
 xcond a8x
 (j1 [a8x] o2)
 (opK Tryd.prog E (xBin .eql 9 (.tmp 3) (.const (Value.string ⟨#[119, 104, 105, 108, 101]⟩)) x0 (Value.string ⟨#[119, 104, 105, 108, 101]⟩)) o2 fun b1R u7 =>
 xcond b1R
 (j1 [b1R] u7)
 (opK Tryd.prog E (xBin .eql 9 (.tmp 3) (.const (Value.string ⟨#[97, 115, 115, 101, 114, 116]⟩)) x0 (Value.string ⟨#[97, 115, 115, 101, 114, 116]⟩)) u7 fun a9y r9 =>
 xcond a9y
 (j1 [a9y] r9)
 (opK Tryd.prog E (xBin .eql 9 (.tmp 3) (.const (Value.string ⟨#[97, 115, 115, 117, 109, 101]⟩)) x0 (Value.string ⟨#[97, 115, 115, 117, 109, 101]⟩)) r9 fun b7V v6 =>
 xcond b7V
 (j1 [b7V] v6)
 (opK Tryd.prog E (xBin .eql 9 (.tmp 3) (.const (Value.string ⟨#[115, 107, 105, 112]⟩)) x0 (Value.string ⟨#[115, 107, 105, 112]⟩)) v6 fun b7W y9 =>
 xcond b7W
 (j1 [b7W] y9)
 (opK Tryd.prog E (xBin .eql 9 (.tmp 3) (.const (Value.string ⟨#[105, 110, 112, 117, 116]⟩)) x0 (Value.string ⟨#[105, 110, 112, 117, 116]⟩)) y9 fun b7X v8 =>
 xcond b7X
 (j1 [b7X] v8)
 (opK Tryd.prog E (xBin .eql 9 (.tmp 3) (.const (Value.string ⟨#[116, 114, 117, 101]⟩)) x0 (Value.string ⟨#[116, 114, 117, 101]⟩)) v8 fun b7Y A5 =>
 xcond b7Y
 (j1 [b7Y] A5)
 (opK Tryd.prog E (xBin .eql 9 (.tmp 3) (.const (Value.string ⟨#[102, 97, 108, 115, 101]⟩)) x0 (Value.string ⟨#[102, 97, 108, 115, 101]⟩)) A5 fun c8e A6 =>
 j1 [c8e] A6))))))))))
noncomputable def c8f : Code := Tryd.f124.body.getD .skip
def c8g : Hint := (.seq .none (.seq (.seq .none (.block (.cut [4] (.seq .none (.cond .none (.seq .none (.cond .none (.seq .none (.cond .none (.seq .none (.cond .none (.seq .none (.cond .none (.seq .none (.cond .none (.seq .none (.cond .none (.seq .none (.cond .none (.seq .none (.cond .none (.seq .none (.cond .none .none)))))))))))))))))))) (.cond (.seq .none .none) .none)))) (.seq .none .none)))
theorem c3F (x0 : Value) (w : World) (R : Value → World → Prop) (E : Pan) : b5p x0 w R E = callX Tryd.prog [.tmp 2] c8f c8g [x0] w R E := by kernel_rfl
theorem c3G {x0 : Value} {w : World} {R : Value → World → Prop} {E : Pan} (h : b5p x0 w R E) : Cv Tryd.prog 124 #[x0] w R E := by
 refine g8 (args := [x0]) (c := c8f) (h := c8g) (rs := [.tmp 2]) Tryd.func124 (by kernel_rfl) (by kernel_rfl) (Nat.le_of_ble_eq_true (by kernel_rfl)) (by kernel_rfl) (by kernel_rfl) (by kernel_rfl) ?_
 rw [← c3F]
 exact h
def b5q (x0 : Value) (w : World) (R : Value → World → Prop) (E : Pan) : Prop :=
 opK Tryd.prog E (xCall (Value.func (.func 126) #[] #[]) [x0]) w fun c8h w_2 =>
 opK Tryd.prog E (xBin .eql 3 (.tmp 6) (.const (Value.int .i64 3)) c8h (Value.int .i64 3)) w_2 fun a8q w_4 =>
 opK Tryd.prog E (gsem (asB a8q) false (xBin .eql 3 (.tmp 9) (.const (Value.int .i64 4)) (gval (asB a8q) false c8h) (Value.int .i64 4))) w_4 fun a1H w_6 =>
 opK Tryd.prog E (xPick a8q (Value.bool true) a1H) w_6 fun a9x w_8 =>
 R a9x w_8
noncomputable def c8i : Code := Tryd.f125.body.getD .skip
def c8j : Hint := (.seq .none (.seq .none (.seq .none .none)))
theorem c3H (x0 : Value) (w : World) (R : Value → World → Prop) (E : Pan) : b5q x0 w R E = callX Tryd.prog [.tmp 2] c8i c8j [x0] w R E := by kernel_rfl
theorem c3I {x0 : Value} {w : World} {R : Value → World → Prop} {E : Pan} (h : b5q x0 w R E) : Cv Tryd.prog 125 #[x0] w R E := by
 refine g8 (args := [x0]) (c := c8i) (h := c8j) (rs := [.tmp 2]) Tryd.func125 (by kernel_rfl) (by kernel_rfl) (Nat.le_of_ble_eq_true (by kernel_rfl)) (by kernel_rfl) (by kernel_rfl) (by kernel_rfl) ?_
 rw [← c3H]
 exact h
def b0u (x39 : Value) (w : World) (R : Value → World → Prop) (_E : Pan) : Prop :=
 ∀ _τ : Fr, (xcond x39
 (R (Value.int .i64 3) w)
 (R (Value.int .i64 6) w))
def b0v (x1 x31 : Value) (w : World) (R : Value → World → Prop) (E : Pan) : Prop :=
 ∀ _τ : Fr, (xcond x31
 (R (Value.int .i64 6) w)
 (opK Tryd.prog E (xV (Instr.makeFunc (.func 131) #[] #[x1])) w fun a7A w_8 =>
 opK Tryd.prog E (xCall a7A [(Value.int .i32 48), (Value.int .i32 57)]) w_8 fun d4l o2 =>
 xcond d4l
 (R (Value.int .i64 4) o2)
 (xcut (fun d6M u7 => b0u (nth d6M 0) u7 R E) fun j4 =>
 opK Tryd.prog E (xV (Instr.loadAt 21 x1)) o2 fun c8k r9 =>
 opK Tryd.prog E (xBin .eql 21 (.tmp 40) (.const (Value.int .i32 95)) c8k (Value.int .i32 95)) r9 fun b7Z v6 =>
 xcond b7Z
 (j4 [b7Z] v6)
 (opK Tryd.prog E (xCall a7A [(Value.int .i32 97), (Value.int .i32 122)]) v6 fun b8a y9 =>
 xcond b8a
 (j4 [b8a] y9)
 (opK Tryd.prog E (xCall a7A [(Value.int .i32 65), (Value.int .i32 90)]) y9 fun b8b v8 =>
 xcond b8b
 (j4 [b8b] v8)
 (opK Tryd.prog E (xCall a7A [(Value.int .i32 192), (Value.int .i32 591)]) v8 fun b8c A5 =>
 xcond b8c
 (j4 [b8c] A5)
 (opK Tryd.prog E (xCall a7A [(Value.int .i32 913), (Value.int .i32 969)]) A5 fun b8d A6 =>
 xcond b8d
 (j4 [b8d] A6)
 (opK Tryd.prog E (xCall a7A [(Value.int .i32 1040), (Value.int .i32 1103)]) A6 fun c8l B8 =>
 j4 [c8l] B8))))))))
def b0w (x1 x4 x11 : Value) (w : World) (R : Value → World → Prop) (E : Pan) : Prop :=
 ∀ _τ : Fr, (xcond x11
 (R (Value.int .i64 5) w)
 (xcut (fun b9L G4 => b0v x1 (nth b9L 0) G4 R E) fun j3 =>
 opK Tryd.prog E (xBin .eql 21 (.tmp 4) (.const (Value.int .i32 215)) x4 (Value.int .i32 215)) w fun a9z J2 =>
 xcond a9z
 (j3 [a9z] J2)
 (opK Tryd.prog E (xBin .eql 21 (.tmp 4) (.const (Value.int .i32 247)) x4 (Value.int .i32 247)) J2 fun b8e G1 =>
 xcond b8e
 (j3 [b8e] G1)
 (opK Tryd.prog E (xBin .eql 21 (.tmp 4) (.const (Value.int .i32 930)) x4 (Value.int .i32 930)) G1 fun c8m J3 =>
 j3 [c8m] J3))))
def b0x (x1 x4 x5 : Value) (w : World) (R : Value → World → Prop) (E : Pan) : Prop :=
 ∀ _τ : Fr, (xcond x5
 (R (Value.int .i64 1) w)
 (opK Tryd.prog E (xBin .eql 21 (.tmp 4) (.const (Value.int .i32 10)) x4 (Value.int .i32 10)) w fun a1H w_6 =>
 xcond a1H
 (R (Value.int .i64 2) w_6)
 (xcut (fun b2M N7 => b0w x1 x4 (nth b2M 0) N7 R E) fun j2 =>
 opK Tryd.prog E (xBin .eql 21 (.tmp 4) (.const (Value.int .i32 59)) x4 (Value.int .i32 59)) w_6 fun b8f M4 =>
 xcond b8f
 (j2 [b8f] M4)
 (opK Tryd.prog E (xBin .eql 21 (.tmp 4) (.const (Value.int .i32 44)) x4 (Value.int .i32 44)) M4 fun b8g L0 =>
 xcond b8g
 (j2 [b8g] L0)
 (opK Tryd.prog E (xBin .eql 21 (.tmp 4) (.const (Value.int .i32 123)) x4 (Value.int .i32 123)) L0 fun b8h Q2 =>
 xcond b8h
 (j2 [b8h] Q2)
 (opK Tryd.prog E (xBin .eql 21 (.tmp 4) (.const (Value.int .i32 125)) x4 (Value.int .i32 125)) Q2 fun b8i N8 =>
 xcond b8i
 (j2 [b8i] N8)
 (opK Tryd.prog E (xBin .eql 21 (.tmp 4) (.const (Value.int .i32 40)) x4 (Value.int .i32 40)) N8 fun a9A W1 =>
 xcond a9A
 (j2 [a9A] W1)
 (opK Tryd.prog E (xBin .eql 21 (.tmp 4) (.const (Value.int .i32 41)) x4 (Value.int .i32 41)) W1 fun b8j S2 =>
 xcond b8j
 (j2 [b8j] S2)
 (opK Tryd.prog E (xBin .eql 21 (.tmp 4) (.const (Value.int .i32 91)) x4 (Value.int .i32 91)) S2 fun a9B M5 =>
 xcond a9B
 (j2 [a9B] M5)
 (opK Tryd.prog E (xBin .eql 21 (.tmp 4) (.const (Value.int .i32 93)) x4 (Value.int .i32 93)) M5 fun b8k Q0 =>
 xcond b8k
 (j2 [b8k] Q0)
 (opK Tryd.prog E (xBin .eql 21 (.tmp 4) (.const (Value.int .i32 61)) x4 (Value.int .i32 61)) Q0 fun b8l W2 =>
 xcond b8l
 (j2 [b8l] W2)
 (opK Tryd.prog E (xBin .eql 21 (.tmp 4) (.const (Value.int .i32 33)) x4 (Value.int .i32 33)) W2 fun b8m U6 =>
 xcond b8m
 (j2 [b8m] U6)
 (opK Tryd.prog E (xBin .eql 21 (.tmp 4) (.const (Value.int .i32 60)) x4 (Value.int .i32 60)) U6 fun b8n W3 =>
 xcond b8n
 (j2 [b8n] W3)
 (opK Tryd.prog E (xBin .eql 21 (.tmp 4) (.const (Value.int .i32 62)) x4 (Value.int .i32 62)) W3 fun b8o X3 =>
 xcond b8o
 (j2 [b8o] X3)
 (opK Tryd.prog E (xBin .eql 21 (.tmp 4) (.const (Value.int .i32 43)) x4 (Value.int .i32 43)) X3 fun b8p Z5 =>
 xcond b8p
 (j2 [b8p] Z5)
 (opK Tryd.prog E (xBin .eql 21 (.tmp 4) (.const (Value.int .i32 45)) x4 (Value.int .i32 45)) Z5 fun b8q Z6 =>
 xcond b8q
 (j2 [b8q] Z6)
 (opK Tryd.prog E (xBin .eql 21 (.tmp 4) (.const (Value.int .i32 42)) x4 (Value.int .i32 42)) Z6 fun b8r X4 =>
 xcond b8r
 (j2 [b8r] X4)
 (opK Tryd.prog E (xBin .eql 21 (.tmp 4) (.const (Value.int .i32 47)) x4 (Value.int .i32 47)) X4 fun b8s a0X =>
 xcond b8s
 (j2 [b8s] a0X)
 (opK Tryd.prog E (xBin .eql 21 (.tmp 4) (.const (Value.int .i32 37)) x4 (Value.int .i32 37)) a0X fun b8t Z7 =>
 xcond b8t
 (j2 [b8t] Z7)
 (opK Tryd.prog E (xBin .eql 21 (.tmp 4) (.const (Value.int .i32 38)) x4 (Value.int .i32 38)) Z7 fun b8u Z8 =>
 xcond b8u
 (j2 [b8u] Z8)
 (opK Tryd.prog E (xBin .eql 21 (.tmp 4) (.const (Value.int .i32 124)) x4 (Value.int .i32 124)) Z8 fun b2N a0G =>
 j2 [b2N] a0G)))))))))))))))))))))
def b5r (x0 : Value) (w : World) (R : Value → World → Prop) (E : Pan) : Prop :=
 opK Tryd.prog E (xV (Instr.box 21 x0)) w fun p6 w_2 =>
 opK Tryd.prog E (xV (Instr.loadAt 21 p6)) w_2 fun a6S w_4 =>
 xcut (fun d6N a0i => b0x p6 a6S (nth d6N 0) a0i R E) fun j1 =>
 opK Tryd.prog E (xBin .eql 21 (.tmp 4) (.const (Value.int .i32 32)) a6S (Value.int .i32 32)) w_4 fun c2o a1A =>
 xcond c2o
 (j1 [c2o] a1A)
 (opK Tryd.prog E (xBin .eql 21 (.tmp 4) (.const (Value.int .i32 9)) a6S (Value.int .i32 9)) a1A fun c2p a1Y =>
 xcond c2p
 (j1 [c2p] a1Y)
 (opK Tryd.prog E (xBin .eql 21 (.tmp 4) (.const (Value.int .i32 13)) a6S (Value.int .i32 13)) a1Y fun d4m a2L =>
 j1 [d4m] a2L))
noncomputable def c8n : Code := Tryd.f126.body.getD .skip
def c8o : Hint := (.seq .none (.seq (.seq .none (.block (.cut [5] (.seq .none (.cond .none (.seq .none (.cond .none .none)))) (.cond (.seq .none .none) (.seq .none (.cond (.seq .none .none) (.cut [11] (.seq .none (.cond .none (.seq .none (.cond .none (.seq .none (.cond .none (.seq .none (.cond .none (.seq .none (.cond .none (.seq .none (.cond .none (.seq .none (.cond .none (.seq .none (.cond .none (.seq .none (.cond .none (.seq .none (.cond .none (.seq .none (.cond .none (.seq .none (.cond .none (.seq .none (.cond .none (.seq .none (.cond .none (.seq .none (.cond .none (.seq .none (.cond .none (.seq .none (.cond .none (.seq .none (.cond .none .none)))))))))))))))))))))))))))))))))))) (.cond (.seq .none .none) (.cut [31] (.seq .none (.cond .none (.seq .none (.cond .none .none)))) (.cond (.seq .none .none) .none)))))))))) (.seq .none (.seq (.block (.seq .none (.cond (.seq .none .none) (.cut [39] (.seq .none (.cond .none (.seq .none (.cond .none (.seq .none (.cond .none (.seq .none (.cond .none (.seq .none (.cond .none .none)))))))))) (.cond (.seq .none .none) .none))))) (.seq .none .none)))))
theorem c3J (x0 : Value) (w : World) (R : Value → World → Prop) (E : Pan) : b5r x0 w R E = callX Tryd.prog [.tmp 2] c8n c8o [x0] w R E := by kernel_rfl
theorem c3K {x0 : Value} {w : World} {R : Value → World → Prop} {E : Pan} (h : b5r x0 w R E) : Cv Tryd.prog 126 #[x0] w R E := by
 refine g8 (args := [x0]) (c := c8n) (h := c8o) (rs := [.tmp 2]) Tryd.func126 (by kernel_rfl) (by kernel_rfl) (Nat.le_of_ble_eq_true (by kernel_rfl)) (by kernel_rfl) (by kernel_rfl) (by kernel_rfl) ?_
 rw [← c3J]
 exact h
def b0y (w : World) (R : Value → World → Prop) (_E : Pan) : Prop :=
 ∀ _τ : Fr, (R (Value.int .i64 (-1)) w)
def b4C (x0 x1 x7 x8 : Value) (w : World) (next2 : List Value → World → Prop) (j1 : List Value → World → Prop) (R : Value → World → Prop) (E : Pan) : Prop :=
 opK Tryd.prog E (xBin .lss 3 (.tmp 8) (.tmp 7) x8 x7) w fun d6O w_6 =>
 xcond d6O
 (opK Tryd.prog E (xV (Instr.indexAt 47 x0 x8)) w_6 fun d4n w_8 =>
 opK Tryd.prog E (xV (Instr.loadAt 9 d4n)) w_8 fun d4o o2 =>
 opK Tryd.prog E (xBin .eql 9 (.tmp 11) (.tmp 15) x1 d4o) o2 fun a1I u7 =>
 xcond a1I
 (R x8 u7)
 (opK Tryd.prog E (xBin .add 3 (.tmp 8) (.const (Value.int .i64 1)) x8 (Value.int .i64 1)) u7 fun a6J r9 =>
 next2 [a6J] r9))
 (j1 [] w_6)
def b5s (x0 x1 : Value) (w : World) (R : Value → World → Prop) (E : Pan) : Prop :=
 xcut (fun _ w_2 => b0y w_2 R E) fun j1 =>
 opK Tryd.prog E (xBuiltin .len #[47] 3 [false] [x0]) w fun a8q w_4 =>
 xloop [8] [(Value.int .i64 0)] w_4 fun τ_15 v6 next2 =>
 b4C x0 x1 a8q (τ_15 8) v6 next2 j1 R E
noncomputable def c8p : Code := Tryd.f127.body.getD .skip
def c8q : Hint := (.seq .none (.cut [] (.seq .none (.block (.loop [8] (.seq .none (.seq (.cond .none .none) (.seq (.block (.seq .none (.seq .none (.cond (.seq .none .none) .none)))) .none)))))) (.seq .none .none)))
theorem c3L (x0 x1 : Value) (w : World) (R : Value → World → Prop) (E : Pan) : b5s x0 x1 w R E = callX Tryd.prog [.tmp 4] c8p c8q [x0, x1] w R E := by kernel_rfl
theorem c3M {x0 x1 : Value} {w : World} {R : Value → World → Prop} {E : Pan} (h : b5s x0 x1 w R E) : Cv Tryd.prog 127 #[x0, x1] w R E := by
 refine g8 (args := [x0, x1]) (c := c8p) (h := c8q) (rs := [.tmp 4]) Tryd.func127 (by kernel_rfl) (by kernel_rfl) (Nat.le_of_ble_eq_true (by kernel_rfl)) (by kernel_rfl) (by kernel_rfl) (by kernel_rfl) ?_
 rw [← c3L]
 exact h
def b0z (x2 : Value) (w : World) (R : Value → World → Prop) (_E : Pan) : Prop :=
 ∀ _τ : Fr, (R x2 w)
def b4D (x2 x4 : Value) (w : World) (next2 : List Value → World → Prop) (j1 : List Value → World → Prop) (_R : Value → World → Prop) (E : Pan) : Prop :=
 opK Tryd.prog E (xV (Instr.next x4 true 0)) w fun b9P w_6 =>
 opK Tryd.prog E (xV (Instr.extract b9P 0)) w_6 fun b9Q w_8 =>
 xcond b9Q
 (opK Tryd.prog E (xBin .add 3 (.tmp 7) (.const (Value.int .i64 1)) x2 (Value.int .i64 1)) w_8 fun a8x o2 =>
 next2 [a8x] o2)
 (j1 [x2] w_8)
def b5t (x0 : Value) (w : World) (R : Value → World → Prop) (E : Pan) : Prop :=
 xcut (fun l_1 w_2 => b0z (nth l_1 0) w_2 R E) fun j1 =>
 opK Tryd.prog E (xV (Instr.range 9 x0)) w fun a6S w_4 =>
 xloop [2] [(Value.int .i64 0)] w_4 fun τ_11 u7 next2 =>
 b4D (τ_11 2) a6S u7 next2 j1 R E
noncomputable def c8r : Code := Tryd.f130.body.getD .skip
def c8s : Hint := (.seq .none (.cut [2] (.seq .none (.block (.loop [2] (.seq .none (.seq (.cond .none .none) (.block .none)))))) (.seq .none .none)))
theorem c3N (x0 : Value) (w : World) (R : Value → World → Prop) (E : Pan) : b5t x0 w R E = callX Tryd.prog [.tmp 2] c8r c8s [x0] w R E := by kernel_rfl
theorem c3O {x0 : Value} {w : World} {R : Value → World → Prop} {E : Pan} (h : b5t x0 w R E) : Cv Tryd.prog 130 #[x0] w R E := by
 refine g8 (args := [x0]) (c := c8r) (h := c8s) (rs := [.tmp 2]) Tryd.func130 (by kernel_rfl) (by kernel_rfl) (Nat.le_of_ble_eq_true (by kernel_rfl)) (by kernel_rfl) (by kernel_rfl) (by kernel_rfl) ?_
 rw [← c3N]
 exact h
def b5u (x0 x1 x2 : Value) (w : World) (R : Value → World → Prop) (E : Pan) : Prop :=
 opK Tryd.prog E (xV (Instr.loadAt 21 x2)) w fun b9M w_2 =>
 opK Tryd.prog E (xBin .leq 21 (.tmp 6) (.tmp 7) x0 b9M) w_2 fun b0q w_4 =>
 opK Tryd.prog E (gsem (asB b0q) true (xV (Instr.loadAt 21 x2))) w_4 fun a1H w_6 =>
 opK Tryd.prog E (gsem (asB b0q) true (xBin .leq 21 (.tmp 10) (.tmp 11) a1H (gval (asB b0q) true x1))) w_6 fun a1B w_8 =>
 opK Tryd.prog E (xPick b0q a1B (Value.bool false)) w_8 fun a0S o2 =>
 R a0S o2
noncomputable def c8t : Code := Tryd.f131.body.getD .skip
def c8u : Hint := (.seq .none (.seq .none .none))
theorem c3P (x0 x1 x2 : Value) (w : World) (R : Value → World → Prop) (E : Pan) : b5u x0 x1 x2 w R E = callX Tryd.prog [.tmp 5] c8t c8u [x0, x1, x2] w R E := by kernel_rfl
theorem c3Q {x0 x1 x2 : Value} {w : World} {R : Value → World → Prop} {E : Pan} (h : b5u x0 x1 x2 w R E) : Cv Tryd.prog 131 #[x0, x1, x2] w R E := by
 refine g8 (args := [x0, x1, x2]) (c := c8t) (h := c8u) (rs := [.tmp 5]) Tryd.func131 (by kernel_rfl) (by kernel_rfl) (Nat.le_of_ble_eq_true (by kernel_rfl)) (by kernel_rfl) (by kernel_rfl) (by kernel_rfl) ?_
 rw [← c3P]
 exact h
def b0A (x3 x59 : Value) (w : World) (R : Value → World → Prop) (E : Pan) : Prop :=
 ∀ _τ : Fr, (xcond x59
 (opK Tryd.prog E (xBin .eql 3 (.tmp 65) (.const (Value.int .i64 2)) x3 (Value.int .i64 2)) w fun c8v a1A =>
 R c8v a1A)
 (R (Value.bool false) w))
def b0B (x3 x38 x54 : Value) (w : World) (R : Value → World → Prop) (E : Pan) : Prop :=
 ∀ _τ : Fr, (xcond x54
 (opK Tryd.prog E (xBin .eql 3 (.tmp 57) (.const (Value.int .i64 1)) x3 (Value.int .i64 1)) w fun c8w a0i =>
 R c8w a0i)
 (xcut (fun b5v a1Y => b0A x3 (nth b5v 0) a1Y R E) fun j3 =>
 opK Tryd.prog E (xBin .eql 3 (.tmp 38) (.const (Value.int .i64 6)) x38 (Value.int .i64 6)) w fun a3A a2L =>
 xcond a3A
 (j3 [a3A] a2L)
 (opK Tryd.prog E (xBin .eql 3 (.tmp 38) (.const (Value.int .i64 7)) x38 (Value.int .i64 7)) a2L fun b8v a4E =>
 xcond b8v
 (j3 [b8v] a4E)
 (opK Tryd.prog E (xBin .eql 3 (.tmp 38) (.const (Value.int .i64 8)) x38 (Value.int .i64 8)) a4E fun b8w a4F =>
 xcond b8w
 (j3 [b8w] a4F)
 (opK Tryd.prog E (xBin .eql 3 (.tmp 38) (.const (Value.int .i64 9)) x38 (Value.int .i64 9)) a4F fun b8x a2M =>
 xcond b8x
 (j3 [b8x] a2M)
 (opK Tryd.prog E (xBin .eql 3 (.tmp 38) (.const (Value.int .i64 10)) x38 (Value.int .i64 10)) a2M fun c8x a8t =>
 j3 [c8x] a8t))))))
def b0C (x3 x38 x49 : Value) (w : World) (R : Value → World → Prop) (E : Pan) : Prop :=
 ∀ _τ : Fr, (xcond x49
 (opK Tryd.prog E (xBin .eql 3 (.tmp 52) (.const (Value.int .i64 0)) x3 (Value.int .i64 0)) w fun a6M a0G =>
 R a6M a0G)
 (xcut (fun d6P a8u => b0B x3 x38 (nth d6P 0) a8u R E) fun j2 =>
 opK Tryd.prog E (xBin .eql 3 (.tmp 38) (.const (Value.int .i64 4)) x38 (Value.int .i64 4)) w fun b8y a6N =>
 xcond b8y
 (j2 [b8y] a6N)
 (opK Tryd.prog E (xBin .eql 3 (.tmp 38) (.const (Value.int .i64 5)) x38 (Value.int .i64 5)) a6N fun c8y a5A =>
 j2 [c8y] a5A)))
def b5w (x0 : Value) (w : World) (R : Value → World → Prop) (E : Pan) : Prop :=
 opK Tryd.prog E (xV (Instr.box 96 x0)) w fun p6 w_2 =>
 opK Tryd.prog E (xV (Instr.fieldAt 96 p6 0)) w_2 fun b9R w_4 =>
 opK Tryd.prog E (xV (Instr.fieldAt 30 b9R 3)) w_4 fun b9S w_6 =>
 opK Tryd.prog E (xV (Instr.loadAt 28 b9S)) w_6 fun a3B w_8 =>
 opK Tryd.prog E (xBuiltin .len #[28] 3 [false] [a3B]) w_8 fun b0D o2 =>
 opK Tryd.prog E (xV (Instr.loadAt 96 p6)) o2 fun b2D u7 =>
 opK Tryd.prog E (xV (Instr.makeInterface 96 b2D)) u7 fun b2E r9 =>
 opK Tryd.prog E (xCall (Value.func (.func 114) #[] #[]) [b2E]) r9 fun a9u v6 =>
 opK Tryd.prog E (xV (Instr.extract a9u 0)) v6 fun _t14_17 y9 =>
 opK Tryd.prog E (xV (Instr.extract a9u 1)) y9 fun b2F v8 =>
 opK Tryd.prog E (xV (Instr.fieldAt 96 p6 0)) v8 fun b2G A5 =>
 opK Tryd.prog E (xV (Instr.fieldAt 30 b2G 0)) A5 fun c8z A6 =>
 opK Tryd.prog E (xV (Instr.loadAt 3 c8z)) A6 fun c8A B8 =>
 opK Tryd.prog E (xBin .neq 3 (.tmp 18) (.const (Value.int .i64 1)) c8A (Value.int .i64 1)) B8 fun a6T G4 =>
 opK Tryd.prog E (gsem (asB a6T) true (xV (Instr.fieldAt 96 p6 0))) G4 fun c8B J2 =>
 opK Tryd.prog E (gsem (asB a6T) true (xV (Instr.fieldAt 30 c8B 1))) J2 fun c8C G1 =>
 opK Tryd.prog E (gsem (asB a6T) true (xV (Instr.loadAt 2 c8C))) G1 fun c8D J3 =>
 opK Tryd.prog E (gsem (asB a6T) true (xBin .neq 2 (.tmp 23) (.const (Value.int .i64 0)) c8D (Value.int .i64 0))) J3 fun c8E N7 =>
 opK Tryd.prog E (xPick a6T c8E (Value.bool false)) N7 fun a1J M4 =>
 opK Tryd.prog E (gsem (asB a1J) false (xV (Op.unary .not (gval (asB a1J) false b2F)))) M4 fun a6U L0 =>
 opK Tryd.prog E (gsem (asB (gval (asB a1J) false a6U)) true (xV (Instr.fieldAt 96 p6 0))) L0 fun c8F Q2 =>
 opK Tryd.prog E (gsem (asB (gval (asB a1J) false a6U)) true (xV (Instr.fieldAt 30 c8F 2))) Q2 fun c8G N8 =>
 opK Tryd.prog E (gsem (asB (gval (asB a1J) false a6U)) true (xV (Instr.loadAt 9 c8G))) N8 fun c8H W1 =>
 opK Tryd.prog E (gsem (asB (gval (asB a1J) false a6U)) true (xBin .neq 9 (.tmp 32) (.const (Value.string ⟨#[]⟩)) c8H (Value.string ⟨#[]⟩))) W1 fun c8I S2 =>
 opK Tryd.prog E (gsem (asB a1J) false (xPick (gval (asB a1J) false a6U) c8I (Value.bool false))) S2 fun c8J M5 =>
 opK Tryd.prog E (xPick a1J (Value.bool true) c8J) M5 fun c8K Q0 =>
 xcond c8K
 (R (Value.bool false) Q0)
 (opK Tryd.prog E (xV (Instr.fieldAt 96 p6 0)) Q0 fun b2I W2 =>
 opK Tryd.prog E (xV (Instr.fieldAt 30 b2I 0)) W2 fun c8L U6 =>
 opK Tryd.prog E (xV (Instr.loadAt 3 c8L)) U6 fun a9C W3 =>
 opK Tryd.prog E (xBin .eql 3 (.tmp 38) (.const (Value.int .i64 1)) a9C (Value.int .i64 1)) W3 fun c8M X3 =>
 xcond c8M
 (opK Tryd.prog E (xV (Instr.fieldAt 96 p6 0)) X3 fun c8N Z5 =>
 opK Tryd.prog E (xV (Instr.fieldAt 30 c8N 1)) Z5 fun c8O Z6 =>
 opK Tryd.prog E (xV (Instr.loadAt 2 c8O)) Z6 fun c8P X4 =>
 opK Tryd.prog E (xBin .geq 2 (.tmp 43) (.const (Value.int .i64 0)) c8P (Value.int .i64 0)) X4 fun b2O a0X =>
 opK Tryd.prog E (gsem (asB b2O) true (xBin .eql 3 (.tmp 46) (.const (Value.int .i64 0)) (gval (asB b2O) true b0D) (Value.int .i64 0))) a0X fun c8Q Z7 =>
 opK Tryd.prog E (xPick b2O c8Q (Value.bool false)) Z7 fun c8R Z8 =>
 R c8R Z8)
 (xcut (fun d6Q a8v => b0C b0D a9C (nth d6Q 0) a8v R E) fun j1 =>
 opK Tryd.prog E (xBin .eql 3 (.tmp 38) (.const (Value.int .i64 2)) a9C (Value.int .i64 2)) X3 fun b8z a4p =>
 xcond b8z
 (j1 [b8z] a4p)
 (opK Tryd.prog E (xBin .eql 3 (.tmp 38) (.const (Value.int .i64 3)) a9C (Value.int .i64 3)) a4p fun c3R a2Y =>
 j1 [c3R] a2Y)))
noncomputable def c8S : Code := Tryd.f148.body.getD .skip
def c8T : Hint := (.seq .none (.seq .none (.seq .none (.seq (.seq .none (.cond (.seq .none .none) .none)) (.seq (.seq .none (.block (.seq .none (.cond (.seq .none .none) (.cut [49] (.seq .none (.cond .none .none)) (.cond (.seq .none .none) (.cut [54] (.seq .none (.cond .none .none)) (.cond (.seq .none .none) (.cut [59] (.seq .none (.cond .none (.seq .none (.cond .none (.seq .none (.cond .none (.seq .none (.cond .none .none)))))))) (.cond (.seq .none .none) .none)))))))))) (.seq .none .none))))))
theorem c3S (x0 : Value) (w : World) (R : Value → World → Prop) (E : Pan) : b5w x0 w R E = callX Tryd.prog [.tmp 2] c8S c8T [x0] w R E := by kernel_rfl
theorem c3T {x0 : Value} {w : World} {R : Value → World → Prop} {E : Pan} (h : b5w x0 w R E) : Cv Tryd.prog 148 #[x0] w R E := by
 refine g8 (args := [x0]) (c := c8S) (h := c8T) (rs := [.tmp 2]) Tryd.func148 (by kernel_rfl) (by kernel_rfl) (Nat.le_of_ble_eq_true (by kernel_rfl)) (by kernel_rfl) (by kernel_rfl) (by kernel_rfl) ?_
 rw [← c3S]
 exact h
def b5x (x0 : Value) (w : World) (R : Value → World → Prop) (E : Pan) : Prop :=
 opK Tryd.prog E (xV (Instr.box 96 x0)) w fun p6 w_2 =>
 opK Tryd.prog E (xV (Instr.fieldAt 96 p6 0)) w_2 fun a0V w_4 =>
 opK Tryd.prog E (xV (Instr.fieldAt 30 a0V 3)) w_4 fun U5 w_6 =>
 opK Tryd.prog E (xV (Instr.loadAt 28 U5)) w_6 fun a0W w_8 =>
 opK Tryd.prog E (xCall (Value.func (.func 150) #[] #[]) [a0W, (Value.func (.func 151) #[] #[])]) w_8 fun a5y o2 =>
 R a5y o2
noncomputable def c8U : Code := Tryd.f149.body.getD .skip
def c8V : Hint := (.seq .none (.seq .none .none))
theorem c3U (x0 : Value) (w : World) (R : Value → World → Prop) (E : Pan) : b5x x0 w R E = callX Tryd.prog [.tmp 2] c8U c8V [x0] w R E := by kernel_rfl
theorem c3V {x0 : Value} {w : World} {R : Value → World → Prop} {E : Pan} (h : b5x x0 w R E) : Cv Tryd.prog 149 #[x0] w R E := by
 refine g8 (args := [x0]) (c := c8U) (h := c8V) (rs := [.tmp 2]) Tryd.func149 (by kernel_rfl) (by kernel_rfl) (Nat.le_of_ble_eq_true (by kernel_rfl)) (by kernel_rfl) (by kernel_rfl) (by kernel_rfl) ?_
 rw [← c3U]
 exact h
def b0E (x5 : Value) (w : World) (R : Value → World → Prop) (_E : Pan) : Prop :=
 ∀ _τ : Fr, (R x5 w)
def b4E (x1 x5 x8 x9 x10 : Value) (w : World) (next2 : List Value → World → Prop) (j1 : List Value → World → Prop) (_R : Value → World → Prop) (E : Pan) : Prop :=
 opK Tryd.prog E (xBin .lss 3 (.tmp 10) (.tmp 9) x10 x9) w fun a5D w_6 =>
 xcond a5D
 (opK Tryd.prog E (xV (Instr.indexAt 28 x8 x10)) w_6 fun a1B w_8 =>
 opK Tryd.prog E (xV (Instr.loadAt 30 a1B)) w_8 fun a0S o2 =>
 opK Tryd.prog E (xV (Instr.alloc 30 true (.tuple #[]))) o2 fun a0z u7 =>
 opK Tryd.prog E (xU (Instr.storeAt 30 a0z a0S)) u7 fun _z_13 r9 =>
 opK Tryd.prog E (xV (Instr.loadAt 30 a0z)) r9 fun a1C v6 =>
 opK Tryd.prog E (xCall x1 [a1C]) v6 fun a1D y9 =>
 opK Tryd.prog E (xV (Instr.buildSlice 97 1 #[(0, a1D)])) y9 fun a1E v8 =>
 opK Tryd.prog E (xBuiltin .append #[97, 97] 97 [false, false] [x5, a1E]) v8 fun a1F A5 =>
 opK Tryd.prog E (xBin .add 3 (.tmp 10) (.const (Value.int .i64 1)) x10 (Value.int .i64 1)) A5 fun a1G A6 =>
 next2 [a1F, a1G] A6)
 (j1 [x5] w_6)
def b5y (x0 x1 : Value) (w : World) (R : Value → World → Prop) (E : Pan) : Prop :=
 xcut (fun l_1 w_2 => b0E (nth l_1 0) w_2 R E) fun j1 =>
 opK Tryd.prog E (xBuiltin .len #[28] 3 [false] [x0]) w fun a1Z w_4 =>
 xloop [5, 10] [(Value.slice none 0 0), (Value.int .i64 0)] w_4 fun τ_25 B8 next2 =>
 b4E x1 (τ_25 5) x0 a1Z (τ_25 10) B8 next2 j1 R E
noncomputable def c8W : Code := Tryd.f150.body.getD .skip
def c8X : Hint := (.seq .none (.seq .none (.cut [5] (.seq .none (.block (.loop [5, 10] (.seq .none (.seq (.cond .none .none) (.seq (.block (.seq .none .none)) .none)))))) (.seq .none .none))))
theorem c3W (x0 x1 : Value) (w : World) (R : Value → World → Prop) (E : Pan) : b5y x0 x1 w R E = callX Tryd.prog [.tmp 4] c8W c8X [x0, x1] w R E := by kernel_rfl
theorem c3X {x0 x1 : Value} {w : World} {R : Value → World → Prop} {E : Pan} (h : b5y x0 x1 w R E) : Cv Tryd.prog 150 #[x0, x1] w R E := by
 refine g8 (args := [x0, x1]) (c := c8W) (h := c8X) (rs := [.tmp 4]) Tryd.func150 (by kernel_rfl) (by kernel_rfl) (Nat.le_of_ble_eq_true (by kernel_rfl)) (by kernel_rfl) (by kernel_rfl) (by kernel_rfl) ?_
 rw [← c3W]
 exact h
def b5z (x0 : Value) (w : World) (R : Value → World → Prop) (E : Pan) : Prop :=
 opK Tryd.prog E (xV (Instr.box 30 x0)) w fun p6 w_2 =>
 opK Tryd.prog E (xV (Instr.loadAt 30 p6)) w_2 fun a0V w_4 =>
 opK Tryd.prog E (xV (Instr.build 96 #[(0, a0V)])) w_4 fun U5 w_6 =>
 opK Tryd.prog E (xV (Instr.makeInterface 96 U5)) w_6 fun a0W w_8 =>
 R a0W w_8
noncomputable def c8Y : Code := Tryd.f151.body.getD .skip
def c8Z : Hint := (.seq .none (.seq .none .none))
theorem c3Y (x0 : Value) (w : World) (R : Value → World → Prop) (E : Pan) : b5z x0 w R E = callX Tryd.prog [.tmp 2] c8Y c8Z [x0] w R E := by kernel_rfl
theorem c3Z {x0 : Value} {w : World} {R : Value → World → Prop} {E : Pan} (h : b5z x0 w R E) : Cv Tryd.prog 151 #[x0] w R E := by
 refine g8 (args := [x0]) (c := c8Y) (h := c8Z) (rs := [.tmp 2]) Tryd.func151 (by kernel_rfl) (by kernel_rfl) (Nat.le_of_ble_eq_true (by kernel_rfl)) (by kernel_rfl) (by kernel_rfl) (by kernel_rfl) ?_
 rw [← c3Y]
 exact h
def b0F (x3 x50 : Value) (w : World) (R : Value → World → Prop) (E : Pan) : Prop :=
 ∀ _τ : Fr, (xcond x50
 (opK Tryd.prog E (xV (Instr.loadAt 209 x3)) w fun c9a a2M =>
 opK Tryd.prog E (xV (Instr.build 209 #[(0, (Value.int .i64 0)), (1, (Value.int .i64 2))])) a2M fun c9b a8t =>
 opK Tryd.prog E (xBin .eql 209 (.tmp 53) (.tmp 54) c9a c9b) a8t fun c9c a8u =>
 R c9c a8u)
 (R (Value.bool false) w))
def b0G (x3 x38 x39 : Value) (w : World) (R : Value → World → Prop) (E : Pan) : Prop :=
 ∀ _τ : Fr, (xcond x39
 (opK Tryd.prog E (xV (Instr.loadAt 209 x3)) w fun c9d a0G =>
 opK Tryd.prog E (xV (Instr.build 209 #[])) a0G fun c9e a0i =>
 opK Tryd.prog E (xBin .eql 209 (.tmp 42) (.tmp 43) c9d c9e) a0i fun c9f a1A =>
 R c9f a1A)
 (opK Tryd.prog E (xBin .eql 3 (.tmp 38) (.const (Value.int .i64 4)) x38 (Value.int .i64 4)) w fun c9g a1Y =>
 xcond c9g
 (opK Tryd.prog E (xV (Instr.loadAt 209 x3)) a1Y fun c9h a2L =>
 opK Tryd.prog E (xV (Instr.build 209 #[(0, (Value.int .i64 0)), (1, (Value.int .i64 1))])) a2L fun c9i a4E =>
 opK Tryd.prog E (xBin .eql 209 (.tmp 47) (.tmp 48) c9h c9i) a4E fun c9j a4F =>
 R c9j a4F)
 (xcut (fun b2P a6N => b0F x3 (nth b2P 0) a6N R E) fun j2 =>
 opK Tryd.prog E (xBin .eql 3 (.tmp 38) (.const (Value.int .i64 5)) x38 (Value.int .i64 5)) a1Y fun b8A a5A =>
 xcond b8A
 (j2 [b8A] a5A)
 (opK Tryd.prog E (xBin .eql 3 (.tmp 38) (.const (Value.int .i64 6)) x38 (Value.int .i64 6)) a5A fun c9k a8v =>
 j2 [c9k] a8v))))
def b5A (x0 : Value) (w : World) (R : Value → World → Prop) (E : Pan) : Prop :=
 opK Tryd.prog E (xV (Instr.box 106 x0)) w fun p6 w_2 =>
 opK Tryd.prog E (xV (Instr.fieldAt 106 p6 0)) w_2 fun a6S w_4 =>
 opK Tryd.prog E (xV (Instr.fieldAt 33 a6S 2)) w_4 fun b9P w_6 =>
 opK Tryd.prog E (xV (Instr.loadAt 28 b9P)) w_6 fun b9Q w_8 =>
 opK Tryd.prog E (xBuiltin .len #[28] 3 [false] [b9Q]) w_8 fun d6R o2 =>
 opK Tryd.prog E (xV (Instr.fieldAt 106 p6 0)) o2 fun a9o u7 =>
 opK Tryd.prog E (xV (Instr.fieldAt 33 a9o 3)) u7 fun a9D r9 =>
 opK Tryd.prog E (xV (Instr.loadAt 31 a9D)) r9 fun b2Q v6 =>
 opK Tryd.prog E (xBuiltin .len #[31] 3 [false] [b2Q]) v6 fun b2R y9 =>
 opK Tryd.prog E (xV (Instr.build 209 #[(0, d6R), (1, b2R)])) y9 fun b2S v8 =>
 opK Tryd.prog E (xV (Instr.alloc 209 true (.tuple #[]))) v8 fun b5B A5 =>
 opK Tryd.prog E (xU (Instr.storeAt 209 b5B b2S)) A5 fun _z_23 A6 =>
 opK Tryd.prog E (xV (Instr.fieldAt 106 p6 0)) A6 fun c9l B8 =>
 opK Tryd.prog E (xV (Instr.fieldAt 33 c9l 0)) B8 fun c9m G4 =>
 opK Tryd.prog E (xV (Instr.loadAt 3 c9m)) G4 fun c9n J2 =>
 opK Tryd.prog E (xBin .eql 3 (.tmp 15) (.const (Value.int .i64 3)) c9n (Value.int .i64 3)) J2 fun c9o G1 =>
 xcond c9o
 (opK Tryd.prog E (xV (Instr.fieldAt 106 p6 0)) G1 fun b2A J3 =>
 opK Tryd.prog E (xV (Instr.fieldAt 33 b2A 1)) J3 fun a6O N7 =>
 opK Tryd.prog E (xV (Instr.loadAt 3 a6O)) N7 fun c9p M4 =>
 opK Tryd.prog E (xBin .geq 3 (.tmp 19) (.const (Value.int .i64 1)) c9p (Value.int .i64 1)) M4 fun a6V L0 =>
 opK Tryd.prog E (gsem (asB a6V) true (xV (Instr.fieldAt 106 p6 0))) L0 fun c9q Q2 =>
 opK Tryd.prog E (gsem (asB a6V) true (xV (Instr.fieldAt 33 c9q 1))) Q2 fun c9r N8 =>
 opK Tryd.prog E (gsem (asB a6V) true (xV (Instr.loadAt 3 c9r))) N8 fun c9s W1 =>
 opK Tryd.prog E (gsem (asB a6V) true (xBin .leq 3 (.tmp 24) (.const (Value.int .i64 6)) c9s (Value.int .i64 6))) W1 fun c9t S2 =>
 opK Tryd.prog E (xPick a6V c9t (Value.bool false)) S2 fun a9E M5 =>
 opK Tryd.prog E (gsem (asB a9E) true (xV (Instr.loadAt 209 b5B))) M5 fun a6W Q0 =>
 opK Tryd.prog E (gsem (asB a9E) true (xV (Instr.build 209 #[(0, (Value.int .i64 2)), (1, (Value.int .i64 0))]))) Q0 fun c9u W2 =>
 opK Tryd.prog E (gsem (asB a9E) true (xBin .eql 209 (.tmp 28) (.tmp 29) a6W c9u)) W2 fun c9v U6 =>
 opK Tryd.prog E (xPick a9E c9v (Value.bool false)) U6 fun c9w W3 =>
 R c9w W3)
 (opK Tryd.prog E (xV (Instr.fieldAt 106 p6 0)) G1 fun b2T X3 =>
 opK Tryd.prog E (xV (Instr.fieldAt 33 b2T 1)) X3 fun a4R Z5 =>
 opK Tryd.prog E (xV (Instr.loadAt 3 a4R)) Z5 fun a6X Z6 =>
 opK Tryd.prog E (xBin .neq 3 (.tmp 34) (.const (Value.int .i64 0)) a6X (Value.int .i64 0)) Z6 fun c9x X4 =>
 xcond c9x
 (R (Value.bool false) X4)
 (opK Tryd.prog E (xV (Instr.fieldAt 106 p6 0)) X4 fun c9y a0X =>
 opK Tryd.prog E (xV (Instr.fieldAt 33 c9y 0)) a0X fun c9z Z7 =>
 opK Tryd.prog E (xV (Instr.loadAt 3 c9z)) Z7 fun b2U Z8 =>
 xcut (fun d6S a4p => b0G b5B b2U (nth d6S 0) a4p R E) fun j1 =>
 opK Tryd.prog E (xBin .eql 3 (.tmp 38) (.const (Value.int .i64 1)) b2U (Value.int .i64 1)) Z8 fun b4F a2Y =>
 xcond b4F
 (j1 [b4F] a2Y)
 (opK Tryd.prog E (xBin .eql 3 (.tmp 38) (.const (Value.int .i64 2)) b2U (Value.int .i64 2)) a2Y fun c4a a5B =>
 j1 [c4a] a5B)))
noncomputable def c9A : Code := Tryd.f152.body.getD .skip
def c9B : Hint := (.seq .none (.seq .none (.seq (.seq .none (.cond (.seq .none .none) .none)) (.seq (.seq .none (.cond (.seq .none .none) .none)) (.seq (.seq .none (.block (.cut [39] (.seq .none (.cond .none .none)) (.cond (.seq .none .none) (.seq .none (.cond (.seq .none .none) (.cut [50] (.seq .none (.cond .none .none)) (.cond (.seq .none .none) .none)))))))) (.seq .none .none))))))
theorem c4b (x0 : Value) (w : World) (R : Value → World → Prop) (E : Pan) : b5A x0 w R E = callX Tryd.prog [.tmp 2] c9A c9B [x0] w R E := by kernel_rfl
theorem c4c {x0 : Value} {w : World} {R : Value → World → Prop} {E : Pan} (h : b5A x0 w R E) : Cv Tryd.prog 152 #[x0] w R E := by
 refine g8 (args := [x0]) (c := c9A) (h := c9B) (rs := [.tmp 2]) Tryd.func152 (by kernel_rfl) (by kernel_rfl) (Nat.le_of_ble_eq_true (by kernel_rfl)) (by kernel_rfl) (by kernel_rfl) (by kernel_rfl) ?_
 rw [← c4b]
 exact h
def b5C (x0 : Value) (w : World) (R : Value → World → Prop) (E : Pan) : Prop :=
 opK Tryd.prog E (xV (Instr.box 106 x0)) w fun p6 w_2 =>
 dX w_2 fun w_3 =>
 qP Tryd.prog (xV (Instr.fieldAt 106 p6 0)) fun b0n =>
 qP Tryd.prog (xV (Instr.fieldAt 33 b0n 2)) fun U5 =>
 qP Tryd.prog (xV (Instr.fieldAt 106 p6 0)) fun b9T =>
 qP Tryd.prog (xV (Instr.fieldAt 33 b9T 3)) fun a3B =>
 qL Tryd.prog w_3 (blk U5) (xV (Instr.loadAt 28 U5)) fun b9K =>
 qL Tryd.prog w_3 (blk a3B) (xV (Instr.loadAt 31 a3B)) fun b0D =>
 opK Tryd.prog E (xCall (Value.func (.func 150) #[] #[]) [b9K, (Value.func (.func 151) #[] #[])]) w_3 fun d4p S3 =>
 keepX [(blk a3B)] w_3 S3 (opK Tryd.prog E (xCall (Value.func (.func 154) #[] #[]) [b0D, (Value.func (.func 155) #[] #[])]) S3 fun c9C a3x =>
 keepX [] S3 a3x (opK Tryd.prog E (xV (Instr.buildSlice 172 2 #[(0, d4p), (1, c9C)])) a3x fun c9D a8s =>
 keepX [] a3x a8s (opK Tryd.prog E (xCall (Value.func (.func 94) #[] #[]) [c9D]) a8s fun c9E a0F =>
 keepX [] a8s a0F (R c9E a0F))))
noncomputable def c9F : Code := Tryd.f153.body.getD .skip
def c9G : Hint := (.seq .none (.seq (.reg [(0, 8, 2), (1, 16, 8), (2, 32, 16), (4, 64, 32), (0, 128, 2), (16, 256, 128), (32, 512, 256), (72, 1024, 512), (136, 2048, 1088), (384, 4096, 2048), (1023, 4, 4096)] [68, 68, 64, 64, 68, 68, 4, 0, 0, 0, 68] (.early 0 (.early 1 (.early 4 (.early 5 (.load 2 (.load 6 (.step 3 (.step 7 (.step 8 (.step 9 (.early 10 .done)))))))))))) .none))
theorem c4d (x0 : Value) (w : World) (R : Value → World → Prop) (E : Pan) : b5C x0 w R E = callX Tryd.prog [.tmp 2] c9F c9G [x0] w R E := by kernel_rfl
theorem c4e {x0 : Value} {w : World} {R : Value → World → Prop} {E : Pan} (h : b5C x0 w R E) : Cv Tryd.prog 153 #[x0] w R E := by
 refine g8 (args := [x0]) (c := c9F) (h := c9G) (rs := [.tmp 2]) Tryd.func153 (by kernel_rfl) (by kernel_rfl) (Nat.le_of_ble_eq_true (by kernel_rfl)) (by kernel_rfl) (by kernel_rfl) (by kernel_rfl) ?_
 rw [← c4d]
 exact h
end Go.Proofs.YthldnpmfelniiaaDoor
