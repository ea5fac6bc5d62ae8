/- The second reading of some of the program's functions, printed by gen2.py off the code; each is held against the code by the kernel. -/
import Derived.Test.YthldnpmfelniiaaDoorProg
import Derived.Test.YthldnpmfelniiaaDoorzLK0
import Derived.KernelRfl
namespace Go.Proofs.YthldnpmfelniiaaDoor
open Go.RowKit
set_option maxRecDepth 100000
noncomputable def c3 : Code := Tryd.f3.body.getD .skip
def h3 : Hint := (.seq .none (.seq (.reg [(0, 32, 0), (1, 64, 32), (2, 128, 68), (2, 256, 72), (14, 512, 448), (2, 1024, 68), (2, 2048, 72), (114, 4096, 3136), (146, 8192, 4672), (258, 16384, 8256), (640, 32768, 16384), (1024, 65536, 32776), (1024, 131072, 32772), (7168, 262144, 229376), (1024, 524288, 32772), (1024, 1048576, 32776), (58368, 2097152, 1605632), (74752, 4194304, 2392064), (132096, 8388608, 4227072), (524287, 16, 8388608)] [0, 55404, 55400, 55396, 96, 55372, 55340, 0, 55404, 55404, 55404, 53356, 51308, 49152, 39020, 22636, 0, 55404, 55404, 55404] (.step 0 (.early 1 (.load 2 (.load 3 (.load 5 (.load 6 (.step 4 (.step 7 (.early 8 (.early 9 (.early 10 (.load 11 (.load 12 (.load 14 (.load 15 (.step 13 (.step 16 (.early 17 (.early 18 (.early 19 .done))))))))))))))))))))) .none))
def h15 : Hint := (.seq .none (.seq .none .none))
def F25 (x0 : Value) (w : World) (R : Value → World → Prop) (E : Pan) : Prop :=
 opK Tryd.prog E (xV (Instr.box 25 x0)) w fun o7 w_2 =>
 opK Tryd.prog E (xV (Instr.loadAt 25 o7)) w_2 fun a7R w_4 =>
 opK Tryd.prog E (xCall (Value.func (.func 66) #[] #[]) [a7R]) w_4 fun a3T w_6 =>
 opK Tryd.prog E (xNil a3T) w_6 fun a1U w_8 =>
 opK Tryd.prog E (xV (Instr.fieldAt 92 a1U 2)) w_8 fun a5X k8 =>
 opK Tryd.prog E (xV (Instr.loadAt 34 a5X)) k8 fun a7S o9 =>
 opK Tryd.prog E (xBin .neq 34 (.tmp 10) (.const (Value.int .i64 0)) a7S (Value.int .i64 0)) o9 fun a1I o0 =>
 xcond a1I
 (dX o0 fun a3U =>
 qP Tryd.prog (xNil a3T) fun c8j =>
 qP Tryd.prog (xV (Instr.fieldAt 92 c8j 2)) fun a7T =>
 qL Tryd.prog a3U (blk a7T) (xV (Instr.loadAt 34 a7T)) fun c8k =>
 R (Value.tuple #[(Value.int .i64 0), c8k]) a3U)
 (opK Tryd.prog E (xNil a3T) o0 fun b3T r6 =>
 opK Tryd.prog E (xV (Instr.fieldAt 92 b3T 0)) r6 fun b3U u2 =>
 opK Tryd.prog E (xV (Instr.loadAt 3 b3U)) u2 fun b3V s9 =>
 R (Value.tuple #[b3V, (Value.int .i64 0)]) s9)
noncomputable def c25 : Code := Tryd.f25.body.getD .skip
def h25 : Hint := (.seq .none (.seq .none (.seq (.seq .none (.cond (.seq (.reg [(0, 4096, 16), (1, 8192, 4096), (2, 16384, 8192), (4, 32768, 16384), (0, 4, 0), (31, 8, 32768)] [8, 8, 8, 0, 8, 8] (.early 0 (.early 1 (.early 2 (.early 4 (.load 3 (.early 5 .done))))))) .none) .none)) (.seq .none .none))))
theorem c8l (x0 : Value) (w : World) (R : Value → World → Prop) (E : Pan) : F25 x0 w R E = callX Tryd.prog [.tmp 2, .tmp 3] c25 h25 [x0] w R E := by kernel_rfl
theorem c8m {x0 : Value} {w : World} {R : Value → World → Prop} {E : Pan} (h : F25 x0 w R E) : Cv Tryd.prog 25 #[x0] w R E := by
 refine f7 (args := [x0]) (c := c25) (h := h25) (rs := [.tmp 2, .tmp 3]) Tryd.func25 (by kernel_rfl) (by kernel_rfl) (Nat.le_of_ble_eq_true (by kernel_rfl)) (by kernel_rfl) (by kernel_rfl) (by kernel_rfl) ?_
 rw [← c8l]
 exact h
def F27 (x0 : Value) (w : World) (R : Value → World → Prop) (E : Pan) : Prop :=
 opK Tryd.prog E (xV (Instr.box 25 x0)) w fun o7 w_2 =>
 opK Tryd.prog E (xV (Instr.loadAt 25 o7)) w_2 fun a1V w_4 =>
 opK Tryd.prog E (xCall (Value.func (.func 66) #[] #[]) [a1V]) w_4 fun Y0 w_6 =>
 opK Tryd.prog E (xNil Y0) w_6 fun a1W w_8 =>
 opK Tryd.prog E (xV (Instr.fieldAt 92 a1W 2)) w_8 fun a6O k8 =>
 opK Tryd.prog E (xV (Instr.loadAt 34 a6O)) k8 fun a1p o9 =>
 R a1p o9
noncomputable def c27 : Code := Tryd.f27.body.getD .skip
def h27 : Hint := (.seq .none (.seq .none .none))
theorem c8n (x0 : Value) (w : World) (R : Value → World → Prop) (E : Pan) : F27 x0 w R E = callX Tryd.prog [.tmp 2] c27 h27 [x0] w R E := by kernel_rfl
theorem c8o {x0 : Value} {w : World} {R : Value → World → Prop} {E : Pan} (h : F27 x0 w R E) : Cv Tryd.prog 27 #[x0] w R E := by
 refine f7 (args := [x0]) (c := c27) (h := h27) (rs := [.tmp 2]) Tryd.func27 (by kernel_rfl) (by kernel_rfl) (Nat.le_of_ble_eq_true (by kernel_rfl)) (by kernel_rfl) (by kernel_rfl) (by kernel_rfl) ?_
 rw [← c8n]
 exact h
def b3W (x3 : Value) (w : World) (R : Value → World → Prop) (E : Pan) : Prop :=
 ∀ _τ : Fr, (opK Tryd.prog E (xV (Instr.loadAt 93 x3)) w fun c8p r7 =>
 R c8p r7)
def F57 (x0 : Value) (w : World) (R : Value → World → Prop) (E : Pan) : Prop :=
 opK Tryd.prog E (xV (Instr.build 92 #[])) w fun b1M w_2 =>
 opK Tryd.prog E (xV (Instr.box 92 b1M)) w_2 fun a6P w_4 =>
 opK Tryd.prog E (xV (Instr.alloc 93 true (.tuple #[]))) w_4 fun a9M w_6 =>
 opK Tryd.prog E (xU (Instr.storeAt 93 a9M a6P)) w_6 fun _z_7 w_8 =>
 opK Tryd.prog E (xV (Instr.alloc 139 true (.tuple #[]))) w_8 fun c2l k8 =>
 opK Tryd.prog E (xV (Instr.makeFunc (.func 89) #[] #[a9M, c2l])) k8 fun b0E o9 =>
 opK Tryd.prog E (xU (Instr.storeAt 139 c2l b0E)) o9 fun _z_13 o0 =>
 xcut (fun _ s7 => b3W a9M s7 R E) fun j1 =>
 opK Tryd.prog E (xV (Instr.loadAt 139 c2l)) o0 fun d8d r6 =>
 opK Tryd.prog E (xCall d8d [x0, (Value.int .i64 1)]) r6 fun c8q u2 =>
 opK Tryd.prog E (xV (Op.unary .not c8q)) u2 fun c8r s9 =>
 xcond c8r
 (j1 [] s9)
 (opK Tryd.prog E (xV (Instr.loadAt 93 a9M)) s9 fun c8s y7 =>
 opK Tryd.prog E (xNil c8s) y7 fun c8t B5 =>
 opK Tryd.prog E (xV (Instr.fieldAt 92 c8t 3)) B5 fun b0F C5 =>
 opK Tryd.prog E (xV (Instr.loadAt 4 b0F)) C5 fun c8u B6 =>
 xcond c8u
 (opK Tryd.prog E (xV (Instr.loadAt 93 a9M)) B6 fun c8v D5 =>
 opK Tryd.prog E (xNil c8v) D5 fun c8w E4 =>
 opK Tryd.prog E (xV (Instr.fieldAt 92 c8w 2)) E4 fun c8x E0 =>
 opK Tryd.prog E (xU (Instr.storeAt 34 c8x (Value.int .i64 30))) E0 fun _z_39 G6 =>
 j1 [] G6)
 (opK Tryd.prog E (xV (Instr.loadAt 93 a9M)) B6 fun c8y G9 =>
 opK Tryd.prog E (xNil c8y) G9 fun b3X H8 =>
 opK Tryd.prog E (xV (Instr.fieldAt 92 b3X 4)) H8 fun b3Y J4 =>
 opK Tryd.prog E (xV (Instr.loadAt 4 b3Y)) J4 fun c8z M5 =>
 xcond c8z
 (opK Tryd.prog E (xV (Instr.loadAt 93 a9M)) M5 fun b3Z J5 =>
 opK Tryd.prog E (xNil b3Z) J5 fun b4a Q0 =>
 opK Tryd.prog E (xV (Instr.fieldAt 92 b4a 2)) Q0 fun c8A R7 =>
 opK Tryd.prog E (xU (Instr.storeAt 34 c8A (Value.int .i64 31))) R7 fun _z_55 T3 =>
 j1 [] T3)
 (j1 [] M5)))
noncomputable def c57 : Code := Tryd.f57.body.getD .skip
def h57 : Hint := (.seq .none (.seq .none (.seq .none (.seq .none (.cut [] (.seq .none (.block (.seq .none (.cond .none (.seq .none (.cond .none (.seq .none (.cond .none .none)))))))) (.seq .none .none))))))
theorem c8B (x0 : Value) (w : World) (R : Value → World → Prop) (E : Pan) : F57 x0 w R E = callX Tryd.prog [.tmp 2] c57 h57 [x0] w R E := by kernel_rfl
theorem c8C {x0 : Value} {w : World} {R : Value → World → Prop} {E : Pan} (h : F57 x0 w R E) : Cv Tryd.prog 57 #[x0] w R E := by
 refine f7 (args := [x0]) (c := c57) (h := h57) (rs := [.tmp 2]) Tryd.func57 (by kernel_rfl) (by kernel_rfl) (Nat.le_of_ble_eq_true (by kernel_rfl)) (by kernel_rfl) (by kernel_rfl) (by kernel_rfl) ?_
 rw [← c8B]
 exact h
def F66 (x0 : Value) (w : World) (R : Value → World → Prop) (E : Pan) : Prop :=
 opK Tryd.prog E (xV (Instr.box 25 x0)) w fun o7 w_2 =>
 dX w_2 fun w_3 =>
 qP Tryd.prog (xV (Instr.fieldAt 25 o7 0)) fun b1N =>
 qP Tryd.prog (xV (Instr.fieldAt 25 o7 1)) fun a3T =>
 qL Tryd.prog w_3 (blk b1N) (xV (Instr.loadAt 22 b1N)) fun e0Y =>
 qL Tryd.prog w_3 (blk a3T) (xV (Instr.loadAt 23 a3T)) fun a9N =>
 opK Tryd.prog E (xCall (Value.func (.func 95) #[] #[]) [e0Y, (Value.func (.func 96) #[] #[])]) w_3 fun c2m w_9 =>
 keepX [(blk a3T)] w_3 w_9 (opK Tryd.prog E (xCall (Value.func (.func 97) #[] #[]) [a9N, (Value.func (.func 98) #[] #[])]) w_9 fun d8e W3 =>
 keepX [] w_9 W3 (opK Tryd.prog E (xV (Instr.buildSlice 172 2 #[(0, c2m), (1, d8e)])) W3 fun d8f a3V =>
 keepX [] W3 a3V (opK Tryd.prog E (xCall (Value.func (.func 94) #[] #[]) [d8f]) a3V fun c8D a3U =>
 keepX [] a3V a3U (opK Tryd.prog E (xCall (Value.func (.func 57) #[] #[]) [c8D]) a3U fun c8E a1x =>
 keepX [] a3U a1x (R c8E a1x)))))
noncomputable def c66 : Code := Tryd.f66.body.getD .skip
def h66 : Hint := (.seq .none (.seq (.reg [(0, 8, 2), (1, 16, 8), (2, 32, 16), (0, 64, 2), (8, 128, 64), (20, 256, 128), (36, 512, 288), (96, 1024, 512), (128, 2048, 1024), (511, 4, 2048)] [18, 16, 16, 18, 2, 0, 0, 0, 0, 18] (.early 0 (.early 3 (.load 1 (.load 4 (.step 2 (.step 5 (.step 6 (.step 7 (.step 8 (.early 9 .done))))))))))) .none))
theorem c8F (x0 : Value) (w : World) (R : Value → World → Prop) (E : Pan) : F66 x0 w R E = callX Tryd.prog [.tmp 2] c66 h66 [x0] w R E := by kernel_rfl
theorem c8G {x0 : Value} {w : World} {R : Value → World → Prop} {E : Pan} (h : F66 x0 w R E) : Cv Tryd.prog 66 #[x0] w R E := by
 refine f7 (args := [x0]) (c := c66) (h := h66) (rs := [.tmp 2]) Tryd.func66 (by kernel_rfl) (by kernel_rfl) (Nat.le_of_ble_eq_true (by kernel_rfl)) (by kernel_rfl) (by kernel_rfl) (by kernel_rfl) ?_
 rw [← c8F]
 exact h
def b4b (w : World) (R : Value → World → Prop) (_E : Pan) : Prop :=
 ∀ _τ : Fr, (R (Value.bool true) w)
def c0v (x1 x2 x3 x9 x10 x11 : Value) (w : World) (next2 : List Value → World → Prop) (j1 : List Value → World → Prop) (R : Value → World → Prop) (E : Pan) : Prop :=
 opK Tryd.prog E (xBin .lss 3 (.tmp 11) (.tmp 10) x11 x10) w fun a4l w_6 =>
 xcond a4l
 (opK Tryd.prog E (xV (Instr.indexAt 97 x9 x11)) w_6 fun b0G w_8 =>
 opK Tryd.prog E (xV (Instr.loadAt 141 b0G)) w_8 fun a4m k8 =>
 dX k8 fun W3 =>
 qL Tryd.prog W3 (blk x2) (xV (Instr.loadAt 93 x2)) fun c8H =>
 opK Tryd.prog E (xCall (Value.func (.func 90) #[] #[]) [c8H, a4m, x1]) W3 fun a4L o0 =>
 keepX [] W3 o0 (qP Tryd.prog (xV (Op.unary .not a4L)) fun a0E =>
 qP Tryd.prog (gsem (asB a0E) false (xBin .add 3 (.tmp 24) (.const (Value.int .i64 1)) (gval (asB a0E) false x1) (Value.int .i64 1))) fun c8I =>
 qL Tryd.prog o0 (blk x3) (gsem (asB a0E) false (xV (Instr.loadAt 139 x3))) fun c8J =>
 opK Tryd.prog E (gsem (asB a0E) false (xInvoke (gval (asB a0E) false a4m) "gnomon/tree.parts" [])) o0 fun c8K a5Y =>
 keepX [(blk x3)] o0 a5Y (opK Tryd.prog E (gsem (asB a0E) false (xCall c8J [c8K, c8I])) a5Y fun c8L a7U =>
 keepX [] a5Y a7U (qP Tryd.prog (gsem (asB a0E) false (xV (Op.unary .not c8L))) fun c8M =>
 qP Tryd.prog (xPick a0E (Value.bool true) c8M) fun c8N =>
 xcond c8N
 (R (Value.bool false) a7U)
 (opK Tryd.prog E (xBin .add 3 (.tmp 11) (.const (Value.int .i64 1)) x11 (Value.int .i64 1)) a7U fun c8O a7V =>
 next2 [c8O] a7V)))))
 (j1 [] w_6)
def F89 (x0 x1 x2 x3 : Value) (w : World) (R : Value → World → Prop) (E : Pan) : Prop :=
 xcut (fun _ w_2 => b4b w_2 R E) fun j1 =>
 opK Tryd.prog E (xBuiltin .len #[97] 3 [false] [x0]) w fun b7w w_4 =>
 xloop [11] [(Value.int .i64 0)] w_4 fun τ_26 a4M next2 =>
 c0v x1 x2 x3 x0 b7w (τ_26 11) a4M next2 j1 R E
noncomputable def c89 : Code := Tryd.f89.body.getD .skip
def h89 : Hint := (.seq .none (.cut [] (.seq .none (.block (.loop [11] (.seq .none (.seq (.cond .none .none) (.seq (.block (.seq .none (.seq (.reg [(0, 32768, 4), (0, 65536, 256), (0, 131072, 2), (7, 262144, 229376), (8, 524288, 262144), (24, 1048576, 524288), (32, 2097152, 1048584), (32, 4194304, 1048832), (160, 8388608, 5242880), (32, 16777216, 1048578), (544, 33554432, 17825792), (1376, 67108864, 45088768), (2080, 134217728, 68157440), (4128, 268435456, 135266304)] [64, 65, 65, 0, 65, 65, 1, 65, 64, 65, 65, 0, 65, 65] (.early 1 (.early 2 (.load 0 (.step 3 (.early 4 (.early 5 (.early 7 (.early 9 (.early 10 (.load 6 (.step 8 (.step 11 (.early 12 (.early 13 .done))))))))))))))) (.cond (.seq .none .none) .none)))) .none)))))) (.seq .none .none)))
theorem c8P (x0 x1 x2 x3 : Value) (w : World) (R : Value → World → Prop) (E : Pan) : F89 x0 x1 x2 x3 w R E = callX Tryd.prog [.tmp 6] c89 h89 [x0, x1, x2, x3] w R E := by kernel_rfl
theorem c8Q {x0 x1 x2 x3 : Value} {w : World} {R : Value → World → Prop} {E : Pan} (h : F89 x0 x1 x2 x3 w R E) : Cv Tryd.prog 89 #[x0, x1, x2, x3] w R E := by
 refine f7 (args := [x0, x1, x2, x3]) (c := c89) (h := h89) (rs := [.tmp 6]) Tryd.func89 (by kernel_rfl) (by kernel_rfl) (Nat.le_of_ble_eq_true (by kernel_rfl)) (by kernel_rfl) (by kernel_rfl) (by kernel_rfl) ?_
 rw [← c8P]
 exact h
def b4c (w : World) (R : Value → World → Prop) (_E : Pan) : Prop :=
 ∀ _τ : Fr, (R (Value.bool true) w)
def F90 (x0 x1 x2 : Value) (w : World) (R : Value → World → Prop) (E : Pan) : Prop :=
 opK Tryd.prog E (xNil x0) w fun b3d w_2 =>
 opK Tryd.prog E (xV (Instr.fieldAt 92 b3d 0)) w_2 fun b0H w_4 =>
 opK Tryd.prog E (xV (Instr.loadAt 3 b0H)) w_4 fun a4l w_6 =>
 opK Tryd.prog E (xBin .add 3 (.tmp 12) (.const (Value.int .i64 1)) a4l (Value.int .i64 1)) w_6 fun b0G w_8 =>
 opK Tryd.prog E (xNil x0) w_8 fun a4m k8 =>
 opK Tryd.prog E (xV (Instr.fieldAt 92 a4m 0)) k8 fun a7W o9 =>
 opK Tryd.prog E (xU (Instr.storeAt 3 a7W b0G)) o9 fun _z_13 o0 =>
 opK Tryd.prog E (xNil x0) o0 fun b4d r7 =>
 opK Tryd.prog E (xV (Instr.fieldAt 92 b4d 0)) r7 fun b4e s7 =>
 opK Tryd.prog E (xV (Instr.loadAt 3 b4e)) s7 fun b4f r6 =>
 opK Tryd.prog E (xBin .gtr 3 (.tmp 19) (.const (Value.int .i64 4096)) b4f (Value.int .i64 4096)) r6 fun b4g u2 =>
 xcond b4g
 (opK Tryd.prog E (xNil x0) u2 fun c8R s9 =>
 opK Tryd.prog E (xV (Instr.fieldAt 92 c8R 2)) s9 fun c8S y7 =>
 opK Tryd.prog E (xU (Instr.storeAt 34 c8S (Value.int .i64 33))) y7 fun _z_27 B5 =>
 R (Value.bool false) B5)
 (opK Tryd.prog E (xBin .gtr 3 (.tmp 24) (.const (Value.int .i64 64)) x2 (Value.int .i64 64)) u2 fun c8T C5 =>
 xcond c8T
 (opK Tryd.prog E (xNil x0) C5 fun c8U B6 =>
 opK Tryd.prog E (xV (Instr.fieldAt 92 c8U 2)) B6 fun c8V D5 =>
 opK Tryd.prog E (xU (Instr.storeAt 34 c8V (Value.int .i64 32))) D5 fun _z_35 E4 =>
 R (Value.bool false) E4)
 (opK Tryd.prog E (xNil x0) C5 fun c8W E0 =>
 opK Tryd.prog E (xV (Instr.fieldAt 92 c8W 1)) E0 fun c8X G6 =>
 opK Tryd.prog E (xV (Instr.loadAt 3 c8X)) G6 fun c8Y G9 =>
 opK Tryd.prog E (xBuiltin .max #[3, 3] 3 [false, false] [c8Y, x2]) G9 fun c8Z H8 =>
 opK Tryd.prog E (xNil x0) H8 fun c9a J4 =>
 opK Tryd.prog E (xV (Instr.fieldAt 92 c9a 1)) J4 fun c9b M5 =>
 opK Tryd.prog E (xU (Instr.storeAt 3 c9b c8Z)) M5 fun _z_49 J5 =>
 opK Tryd.prog E (xNil x0) J5 fun c9c Q0 =>
 opK Tryd.prog E (xV (Instr.fieldAt 92 c9c 3)) Q0 fun c9d R7 =>
 opK Tryd.prog E (xV (Instr.loadAt 4 c9d)) R7 fun b0I T3 =>
 opK Tryd.prog E (gsem (asB b0I) false (xInvoke (gval (asB b0I) false x1) "gnomon/tree.form" [])) T3 fun c9e S7 =>
 opK Tryd.prog E (gsem (asB b0I) false (xV (Op.unary .not c9e))) S7 fun c9f W4 =>
 opK Tryd.prog E (xPick b0I (Value.bool true) c9f) W4 fun c9g Z9 =>
 opK Tryd.prog E (xNil x0) Z9 fun c9h S8 =>
 opK Tryd.prog E (xV (Instr.fieldAt 92 c9h 3)) S8 fun c9i W5 =>
 opK Tryd.prog E (xU (Instr.storeAt 4 c9i c9g)) W5 fun _z_67 a0b =>
 xcut (fun _ T4 => b4c T4 R E) fun j1 =>
 opK Tryd.prog E (xCall (Value.func (.func 114) #[] #[]) [x1]) a0b fun c0w Y1 =>
 opK Tryd.prog E (xV (Instr.extract c0w 0)) Y1 fun a7X a0m =>
 opK Tryd.prog E (xV (Instr.extract c0w 1)) a0m fun c9j Y2 =>
 xcond c9j
 (opK Tryd.prog E (xNil x0) Y2 fun c9k a0d =>
 opK Tryd.prog E (xV (Instr.fieldAt 92 c9k 4)) a0d fun c9l W6 =>
 opK Tryd.prog E (xV (Instr.loadAt 4 c9l)) W6 fun a4N a0M =>
 opK Tryd.prog E (gsem (asB a4N) false (xCall (Value.func (.func 115) #[] #[]) [(gval (asB a4N) false a7X)])) a0M fun c9m a1X =>
 opK Tryd.prog E (gsem (asB a4N) false (xV (Op.unary .not c9m))) a1X fun c9n a2G =>
 opK Tryd.prog E (xPick a4N (Value.bool true) c9n) a2G fun c9o a1y =>
 opK Tryd.prog E (xNil x0) a1y fun c9p a4O =>
 opK Tryd.prog E (xV (Instr.fieldAt 92 c9p 4)) a4O fun c9q a4P =>
 opK Tryd.prog E (xU (Instr.storeAt 4 c9q c9o)) a4P fun _z_93 a3m =>
 opK Tryd.prog E (xNil x0) a3m fun c9r a3W =>
 opK Tryd.prog E (xV (Instr.fieldAt 92 c9r 5)) a3W fun c9s a4Q =>
 opK Tryd.prog E (xV (Instr.loadAt 47 c9s)) a4Q fun c9t a1q =>
 opK Tryd.prog E (xCall (Value.func (.func 116) #[] #[]) [c9t, a7X]) a1q fun c5S a1M =>
 opK Tryd.prog E (xV (Op.unary .not c5S)) a1M fun c5T a3G =>
 xcond c5T
 (opK Tryd.prog E (xNil x0) a3G fun c5U a4n =>
 opK Tryd.prog E (xV (Instr.fieldAt 92 c5U 5)) a4n fun c5V a4o =>
 opK Tryd.prog E (xV (Instr.loadAt 47 c5V)) a4o fun c5W a6Q =>
 opK Tryd.prog E (xV (Instr.buildSlice 47 1 #[(0, a7X)])) a6Q fun c5X a6R =>
 opK Tryd.prog E (xBuiltin .append #[47, 47] 47 [false, false] [c5W, c5X]) a6R fun c5Y b0J =>
 opK Tryd.prog E (xNil x0) b0J fun c5Z b0K =>
 opK Tryd.prog E (xV (Instr.fieldAt 92 c5Z 5)) b0K fun c6a b0L =>
 opK Tryd.prog E (xU (Instr.storeAt 47 c6a c5Y)) b0L fun _z_119 b0M =>
 j1 [] b0M)
 (j1 [] a3G))
 (j1 [] Y2)))
noncomputable def c90 : Code := Tryd.f90.body.getD .skip
def h90 : Hint := (.seq .none (.seq (.seq .none (.seq .none (.cond (.seq .none (.seq .none .none)) .none))) (.seq (.seq .none (.cond (.seq .none (.seq .none .none)) .none)) (.seq .none (.seq .none (.cut [] (.seq .none (.seq .none (.cond (.seq .none (.seq .none (.cond .none .none))) .none))) (.seq .none .none)))))))
theorem c9u (x0 x1 x2 : Value) (w : World) (R : Value → World → Prop) (E : Pan) : F90 x0 x1 x2 w R E = callX Tryd.prog [.tmp 6] c90 h90 [x0, x1, x2] w R E := by kernel_rfl
theorem c9v {x0 x1 x2 : Value} {w : World} {R : Value → World → Prop} {E : Pan} (h : F90 x0 x1 x2 w R E) : Cv Tryd.prog 90 #[x0, x1, x2] w R E := by
 refine f7 (args := [x0, x1, x2]) (c := c90) (h := h90) (rs := [.tmp 6]) Tryd.func90 (by kernel_rfl) (by kernel_rfl) (Nat.le_of_ble_eq_true (by kernel_rfl)) (by kernel_rfl) (by kernel_rfl) (by kernel_rfl) ?_
 rw [← c9u]
 exact h
def b4h (x6 : Value) (w : World) (R : Value → World → Prop) (_E : Pan) : Prop :=
 ∀ _τ : Fr, (R x6 w)
def c0x (x6 x25 x26 x27 : Value) (w : World) (next3 : List Value → World → Prop) (j2 : List Value → World → Prop) (_R : Value → World → Prop) (E : Pan) : Prop :=
 opK Tryd.prog E (xBin .lss 3 (.tmp 27) (.tmp 26) x27 x26) w fun d8g w_8 =>
 xcond d8g
 (opK Tryd.prog E (xV (Instr.indexAt 172 x25 x27)) w_8 fun d8h k8 =>
 opK Tryd.prog E (xV (Instr.loadAt 97 d8h)) k8 fun c9w o9 =>
 opK Tryd.prog E (xBuiltin .append #[97, 97] 97 [false, false] [x6, c9w]) o9 fun c9x o0 =>
 opK Tryd.prog E (xBin .add 3 (.tmp 27) (.const (Value.int .i64 1)) x27 (Value.int .i64 1)) o0 fun c9y r7 =>
 next3 [c9x, c9y] r7)
 (j2 [x6] w_8)
def b4i (x0 x3 : Value) (w : World) (R : Value → World → Prop) (E : Pan) : Prop :=
 ∀ _τ : Fr, (opK Tryd.prog E (xCall (Value.func (.func 120) #[] #[]) [(Value.slice none 0 0), x3]) w fun d8i w_2 =>
 xcut (fun l_3 w_4 => b4h (nth l_3 0) w_4 R E) fun j2 =>
 opK Tryd.prog E (xBuiltin .len #[172] 3 [false] [x0]) w_2 fun d8j w_6 =>
 xloop [6, 27] [d8i, (Value.int .i64 0)] w_6 fun τ_17 s7 next3 =>
 c0x (τ_17 6) x0 d8j (τ_17 27) s7 next3 j2 R E)
def b4j (_x0 x3 _x9 _x10 x11 : Value) (w : World) (next4 : List Value → World → Prop) (_R : Value → World → Prop) (E : Pan) : Prop :=
 ∀ _τ : Fr, (opK Tryd.prog E (xBin .add 3 (.tmp 11) (.const (Value.int .i64 1)) x11 (Value.int .i64 1)) w fun b4k y7 =>
 next4 [x3, b4k] y7)
def c0y (x0 x3 x9 x10 x11 : Value) (w : World) (next4 : List Value → World → Prop) (j1 : List Value → World → Prop) (R : Value → World → Prop) (E : Pan) : Prop :=
 opK Tryd.prog E (xBin .lss 3 (.tmp 11) (.tmp 10) x11 x10) w fun c9z s9 =>
 xcond c9z
 (xcut (fun a9O B5 => b4j x0 (nth a9O 0) x9 x10 x11 B5 next4 R E) fun j5 =>
 opK Tryd.prog E (xV (Instr.indexAt 172 x9 x11)) s9 fun c9A C5 =>
 opK Tryd.prog E (xV (Instr.loadAt 97 c9A)) C5 fun c9B B6 =>
 opK Tryd.prog E (xBuiltin .len #[97] 3 [false] [c9B]) B6 fun b4l D5 =>
 opK Tryd.prog E (xBin .add 3 (.tmp 15) (.tmp 17) x3 b4l) D5 fun a7Y E4 =>
 opK Tryd.prog E (xBin .lss 3 (.tmp 19) (.const (Value.int .i64 0)) a7Y (Value.int .i64 0)) E4 fun c9C E0 =>
 xcond c9C
 (opK Tryd.prog E (xV (Instr.makeInterface 9 (Value.string ⟨#[108, 101, 110, 32, 111, 117, 116, 32, 111, 102, 32, 114, 97, 110, 103, 101]⟩))) E0 fun c9D G6 =>
 opK Tryd.prog E (xV (Instr.panic c9D)) G6 fun _z_41 G9 =>
 j5 [a7Y] G9)
 (j5 [a7Y] E0))
 (j1 [x3] s9)
def F94 (x0 : Value) (w : World) (R : Value → World → Prop) (E : Pan) : Prop :=
 xcut (fun e0Z r6 => b4i x0 (nth e0Z 0) r6 R E) fun j1 =>
 opK Tryd.prog E (xBuiltin .len #[172] 3 [false] [x0]) w fun c9E u2 =>
 xloop [3, 11] [(Value.int .i64 0), (Value.int .i64 0)] u2 fun τ_43 H8 next4 =>
 c0y x0 (τ_43 3) x0 c9E (τ_43 11) H8 next4 j1 R E
noncomputable def c94 : Code := Tryd.f94.body.getD .skip
def h94 : Hint := (.seq .none (.seq .none (.cut [3] (.seq .none (.block (.loop [3, 11] (.seq .none (.seq (.cond .none .none) (.cut [3] (.block (.seq .none (.seq .none (.seq .none (.cond .none .none))))) .none)))))) (.seq .none (.cut [6] (.seq .none (.block (.loop [6, 27] (.seq .none (.seq (.cond .none .none) (.seq (.block (.seq .none .none)) .none)))))) (.seq .none .none))))))
theorem c9F (x0 : Value) (w : World) (R : Value → World → Prop) (E : Pan) : F94 x0 w R E = callX Tryd.prog [.tmp 2] c94 h94 [x0] w R E := by kernel_rfl
theorem c9G {x0 : Value} {w : World} {R : Value → World → Prop} {E : Pan} (h : F94 x0 w R E) : Cv Tryd.prog 94 #[x0] w R E := by
 refine f7 (args := [x0]) (c := c94) (h := h94) (rs := [.tmp 2]) Tryd.func94 (by kernel_rfl) (by kernel_rfl) (Nat.le_of_ble_eq_true (by kernel_rfl)) (by kernel_rfl) (by kernel_rfl) (by kernel_rfl) ?_
 rw [← c9F]
 exact h
def b4m (x5 : Value) (w : World) (R : Value → World → Prop) (_E : Pan) : Prop :=
 ∀ _τ : Fr, (R x5 w)
def c0z (x1 x5 x8 x9 x10 : Value) (w : World) (next2 : List Value → World → Prop) (j1 : List Value → World → Prop) (_R : Value → World → Prop) (E : Pan) : Prop :=
 opK Tryd.prog E (xBin .lss 3 (.tmp 10) (.tmp 9) x10 x9) w fun a6S w_6 =>
 xcond a6S
 (opK Tryd.prog E (xV (Instr.indexAt 22 x8 x10)) w_6 fun a4p w_8 =>
 opK Tryd.prog E (xV (Instr.loadAt 67 a4p)) w_8 fun a4q k8 =>
 opK Tryd.prog E (xV (Instr.alloc 67 true (.tuple #[]))) k8 fun a1p o9 =>
 opK Tryd.prog E (xU (Instr.storeAt 67 a1p a4q)) o9 fun _z_13 o0 =>
 opK Tryd.prog E (xV (Instr.loadAt 67 a1p)) o0 fun a2H r7 =>
 opK Tryd.prog E (xCall x1 [a2H]) r7 fun a2I s7 =>
 opK Tryd.prog E (xV (Instr.buildSlice 97 1 #[(0, a2I)])) s7 fun a2J r6 =>
 opK Tryd.prog E (xBuiltin .append #[97, 97] 97 [false, false] [x5, a2J]) r6 fun a2K u2 =>
 opK Tryd.prog E (xBin .add 3 (.tmp 10) (.const (Value.int .i64 1)) x10 (Value.int .i64 1)) u2 fun a2L s9 =>
 next2 [a2K, a2L] s9)
 (j1 [x5] w_6)
def F95 (x0 x1 : Value) (w : World) (R : Value → World → Prop) (E : Pan) : Prop :=
 xcut (fun l_1 w_2 => b4m (nth l_1 0) w_2 R E) fun j1 =>
 opK Tryd.prog E (xBuiltin .len #[22] 3 [false] [x0]) w fun a3o w_4 =>
 xloop [5, 10] [(Value.slice none 0 0), (Value.int .i64 0)] w_4 fun τ_25 y7 next2 =>
 c0z x1 (τ_25 5) x0 a3o (τ_25 10) y7 next2 j1 R E
noncomputable def c95 : Code := Tryd.f95.body.getD .skip
def h95 : Hint := (.seq .none (.seq .none (.cut [5] (.seq .none (.block (.loop [5, 10] (.seq .none (.seq (.cond .none .none) (.seq (.block (.seq .none .none)) .none)))))) (.seq .none .none))))
theorem c9H (x0 x1 : Value) (w : World) (R : Value → World → Prop) (E : Pan) : F95 x0 x1 w R E = callX Tryd.prog [.tmp 4] c95 h95 [x0, x1] w R E := by kernel_rfl
theorem c9I {x0 x1 : Value} {w : World} {R : Value → World → Prop} {E : Pan} (h : F95 x0 x1 w R E) : Cv Tryd.prog 95 #[x0, x1] w R E := by
 refine f7 (args := [x0, x1]) (c := c95) (h := h95) (rs := [.tmp 4]) Tryd.func95 (by kernel_rfl) (by kernel_rfl) (Nat.le_of_ble_eq_true (by kernel_rfl)) (by kernel_rfl) (by kernel_rfl) (by kernel_rfl) ?_
 rw [← c9H]
 exact h
def F96 (x0 : Value) (w : World) (R : Value → World → Prop) (E : Pan) : Prop :=
 opK Tryd.prog E (xV (Instr.box 67 x0)) w fun o7 w_2 =>
 opK Tryd.prog E (xV (Instr.loadAt 67 o7)) w_2 fun a1V w_4 =>
 opK Tryd.prog E (xV (Instr.build 175 #[(0, a1V)])) w_4 fun Y0 w_6 =>
 opK Tryd.prog E (xV (Instr.makeInterface 175 Y0)) w_6 fun a1W w_8 =>
 R a1W w_8
noncomputable def c96 : Code := Tryd.f96.body.getD .skip
def h96 : Hint := (.seq .none (.seq .none .none))
theorem c9J (x0 : Value) (w : World) (R : Value → World → Prop) (E : Pan) : F96 x0 w R E = callX Tryd.prog [.tmp 2] c96 h96 [x0] w R E := by kernel_rfl
theorem c9K {x0 : Value} {w : World} {R : Value → World → Prop} {E : Pan} (h : F96 x0 w R E) : Cv Tryd.prog 96 #[x0] w R E := by
 refine f7 (args := [x0]) (c := c96) (h := h96) (rs := [.tmp 2]) Tryd.func96 (by kernel_rfl) (by kernel_rfl) (Nat.le_of_ble_eq_true (by kernel_rfl)) (by kernel_rfl) (by kernel_rfl) (by kernel_rfl) ?_
 rw [← c9J]
 exact h
def b4n (x5 : Value) (w : World) (R : Value → World → Prop) (_E : Pan) : Prop :=
 ∀ _τ : Fr, (R x5 w)
def c0A (x1 x5 x8 x9 x10 : Value) (w : World) (next2 : List Value → World → Prop) (j1 : List Value → World → Prop) (_R : Value → World → Prop) (E : Pan) : Prop :=
 opK Tryd.prog E (xBin .lss 3 (.tmp 10) (.tmp 9) x10 x9) w fun a6S w_6 =>
 xcond a6S
 (opK Tryd.prog E (xV (Instr.indexAt 23 x8 x10)) w_6 fun a4p w_8 =>
 opK Tryd.prog E (xV (Instr.loadAt 88 a4p)) w_8 fun a4q k8 =>
 opK Tryd.prog E (xV (Instr.alloc 88 true (.tuple #[]))) k8 fun a1p o9 =>
 opK Tryd.prog E (xU (Instr.storeAt 88 a1p a4q)) o9 fun _z_13 o0 =>
 opK Tryd.prog E (xV (Instr.loadAt 88 a1p)) o0 fun a2H r7 =>
 opK Tryd.prog E (xCall x1 [a2H]) r7 fun a2I s7 =>
 opK Tryd.prog E (xV (Instr.buildSlice 97 1 #[(0, a2I)])) s7 fun a2J r6 =>
 opK Tryd.prog E (xBuiltin .append #[97, 97] 97 [false, false] [x5, a2J]) r6 fun a2K u2 =>
 opK Tryd.prog E (xBin .add 3 (.tmp 10) (.const (Value.int .i64 1)) x10 (Value.int .i64 1)) u2 fun a2L s9 =>
 next2 [a2K, a2L] s9)
 (j1 [x5] w_6)
def F97 (x0 x1 : Value) (w : World) (R : Value → World → Prop) (E : Pan) : Prop :=
 xcut (fun l_1 w_2 => b4n (nth l_1 0) w_2 R E) fun j1 =>
 opK Tryd.prog E (xBuiltin .len #[23] 3 [false] [x0]) w fun a3o w_4 =>
 xloop [5, 10] [(Value.slice none 0 0), (Value.int .i64 0)] w_4 fun τ_25 y7 next2 =>
 c0A x1 (τ_25 5) x0 a3o (τ_25 10) y7 next2 j1 R E
noncomputable def c97 : Code := Tryd.f97.body.getD .skip
def h97 : Hint := (.seq .none (.seq .none (.cut [5] (.seq .none (.block (.loop [5, 10] (.seq .none (.seq (.cond .none .none) (.seq (.block (.seq .none .none)) .none)))))) (.seq .none .none))))
theorem c9L (x0 x1 : Value) (w : World) (R : Value → World → Prop) (E : Pan) : F97 x0 x1 w R E = callX Tryd.prog [.tmp 4] c97 h97 [x0, x1] w R E := by kernel_rfl
theorem c9M {x0 x1 : Value} {w : World} {R : Value → World → Prop} {E : Pan} (h : F97 x0 x1 w R E) : Cv Tryd.prog 97 #[x0, x1] w R E := by
 refine f7 (args := [x0, x1]) (c := c97) (h := h97) (rs := [.tmp 4]) Tryd.func97 (by kernel_rfl) (by kernel_rfl) (Nat.le_of_ble_eq_true (by kernel_rfl)) (by kernel_rfl) (by kernel_rfl) (by kernel_rfl) ?_
 rw [← c9L]
 exact h
def F98 (x0 : Value) (w : World) (R : Value → World → Prop) (E : Pan) : Prop :=
 opK Tryd.prog E (xV (Instr.box 88 x0)) w fun o7 w_2 =>
 opK Tryd.prog E (xV (Instr.loadAt 88 o7)) w_2 fun a1V w_4 =>
 opK Tryd.prog E (xV (Instr.build 177 #[(0, a1V)])) w_4 fun Y0 w_6 =>
 opK Tryd.prog E (xV (Instr.makeInterface 177 Y0)) w_6 fun a1W w_8 =>
 R a1W w_8
noncomputable def c98 : Code := Tryd.f98.body.getD .skip
def h98 : Hint := (.seq .none (.seq .none .none))
theorem c9N (x0 : Value) (w : World) (R : Value → World → Prop) (E : Pan) : F98 x0 w R E = callX Tryd.prog [.tmp 2] c98 h98 [x0] w R E := by kernel_rfl
theorem c9O {x0 : Value} {w : World} {R : Value → World → Prop} {E : Pan} (h : F98 x0 w R E) : Cv Tryd.prog 98 #[x0] w R E := by
 refine f7 (args := [x0]) (c := c98) (h := h98) (rs := [.tmp 2]) Tryd.func98 (by kernel_rfl) (by kernel_rfl) (Nat.le_of_ble_eq_true (by kernel_rfl)) (by kernel_rfl) (by kernel_rfl) (by kernel_rfl) ?_
 rw [← c9N]
 exact h
def b7x (x0 : Value) (w : World) (R : Value → World → Prop) (E : Pan) : Prop :=
 opK Tryd.prog E (xV (Instr.typeAssert x0 141 175 true)) w fun c9P w_2 =>
 opK Tryd.prog E (xV (Instr.extract c9P 1)) w_2 fun a3o w_4 =>
 opK Tryd.prog E (xV (Instr.extract c9P 0)) w_4 fun a2M w_6 =>
 xcond a3o
 (opK Tryd.prog E (xV (Instr.alloc 175 true (.tuple #[]))) w_6 fun c9Q w_8 =>
 opK Tryd.prog E (xU (Instr.storeAt 175 c9Q a2M)) w_8 fun _z_9 k8 =>
 opK Tryd.prog E (xV (Instr.fieldAt 175 c9Q 0)) k8 fun b4o o9 =>
 opK Tryd.prog E (xV (Instr.fieldAt 67 b4o 0)) o9 fun b4p o0 =>
 opK Tryd.prog E (xV (Instr.loadAt 9 b4p)) o0 fun b0N r7 =>
 R (Value.tuple #[b0N, (Value.bool true)]) r7)
 (opK Tryd.prog E (xV (Instr.typeAssert x0 141 177 true)) w_6 fun a7T s7 =>
 opK Tryd.prog E (xV (Instr.extract a7T 1)) s7 fun b4q r6 =>
 opK Tryd.prog E (xV (Instr.extract a7T 0)) r6 fun b4r u2 =>
 xcond b4q
 (opK Tryd.prog E (xV (Instr.alloc 177 true (.tuple #[]))) u2 fun b3e s9 =>
 opK Tryd.prog E (xU (Instr.storeAt 177 b3e b4r)) s9 fun _z_25 y7 =>
 dX y7 fun a4M =>
 qP Tryd.prog (xV (Instr.fieldAt 177 b3e 0)) fun c9R =>
 qP Tryd.prog (xV (Instr.fieldAt 88 c9R 1)) fun b0F =>
 qP Tryd.prog (xV (Instr.fieldAt 177 b3e 0)) fun c9S =>
 qP Tryd.prog (xV (Instr.fieldAt 88 c9S 0)) fun c0B =>
 qL Tryd.prog a4M (blk b0F) (xV (Instr.loadAt 9 b0F)) fun c9T =>
 qL Tryd.prog a4M (blk c0B) (xV (Instr.loadAt 3 c0B)) fun b4s =>
 qP Tryd.prog (xBin .eql 3 (.tmp 22) (.const (Value.int .i64 1)) b4s (Value.int .i64 1)) fun a7Z =>
 qP Tryd.prog (gsem (asB a7Z) false (xV (Instr.fieldAt 177 b3e 0))) fun c9U =>
 qP Tryd.prog (gsem (asB a7Z) false (xV (Instr.fieldAt 88 c9U 0))) fun c0C =>
 qL Tryd.prog a4M (blk c0C) (gsem (asB a7Z) false (xV (Instr.loadAt 3 c0C))) fun c9V =>
 qP Tryd.prog (gsem (asB a7Z) false (xBin .eql 3 (.tmp 27) (.const (Value.int .i64 2)) c9V (Value.int .i64 2))) fun c9W =>
 qP Tryd.prog (xPick a7Z (Value.bool true) c9W) fun b4t =>
 R (Value.tuple #[c9T, b4t]) a4M)
 (opK Tryd.prog E (xV (Instr.typeAssert x0 141 96 true)) u2 fun c0D c2n =>
 opK Tryd.prog E (xV (Instr.extract c0D 1)) c2n fun c9X e1a =>
 opK Tryd.prog E (xV (Instr.extract c0D 0)) e1a fun c9Y c2o =>
 xcond c9X
 (opK Tryd.prog E (xV (Instr.alloc 96 true (.tuple #[]))) c2o fun b3f b1O =>
 opK Tryd.prog E (xU (Instr.storeAt 96 b3f c9Y)) b1O fun _z_48 c9Z =>
 dX c9Z fun J5 =>
 qP Tryd.prog (xV (Instr.fieldAt 96 b3f 0)) fun d0a =>
 qP Tryd.prog (xV (Instr.fieldAt 30 d0a 2)) fun c0E =>
 qP Tryd.prog (xV (Instr.fieldAt 96 b3f 0)) fun b4u =>
 qP Tryd.prog (xV (Instr.fieldAt 30 b4u 0)) fun c0F =>
 qL Tryd.prog J5 (blk c0E) (xV (Instr.loadAt 9 c0E)) fun d0b =>
 qL Tryd.prog J5 (blk c0F) (xV (Instr.loadAt 3 c0F)) fun d0c =>
 qP Tryd.prog (xBin .eql 3 (.tmp 38) (.const (Value.int .i64 2)) d0c (Value.int .i64 2)) fun a8a =>
 qP Tryd.prog (gsem (asB a8a) false (xV (Instr.fieldAt 96 b3f 0))) fun d0d =>
 qP Tryd.prog (gsem (asB a8a) false (xV (Instr.fieldAt 30 d0d 0))) fun c0G =>
 qL Tryd.prog J5 (blk c0G) (gsem (asB a8a) false (xV (Instr.loadAt 3 c0G))) fun d0e =>
 qP Tryd.prog (gsem (asB a8a) false (xBin .eql 3 (.tmp 43) (.const (Value.int .i64 4)) d0e (Value.int .i64 4))) fun d0f =>
 qP Tryd.prog (xPick a8a (Value.bool true) d0f) fun d0g =>
 R (Value.tuple #[d0b, d0g]) J5)
 (R (Value.tuple #[(Value.string ⟨#[]⟩), (Value.bool false)]) c2o)))
noncomputable def d0h : Code := Tryd.f114.body.getD .skip
def d0i : Hint := (.seq .none (.seq (.seq .none (.block (.seq .none (.cond (.seq .none (.seq .none .none)) (.seq .none (.cond (.seq .none (.seq (.reg [(0, 131072, 32), (1, 262144, 131072), (2, 524288, 262144), (0, 1048576, 32), (8, 2097152, 1048576), (16, 4194304, 2097152), (32, 8388608, 4194304), (64, 16777216, 8388608), (128, 33554432, 16777248), (384, 67108864, 50331648), (640, 134217728, 83886080), (1152, 268435456, 150994944), (2176, 536870912, 285212672), (135, 4, 524288), (16383, 8, 536870912)] [1060, 1060, 1056, 1060, 1060, 1028, 1060, 1060, 1060, 1060, 36, 1060, 1060, 1060, 1060] (.early 0 (.early 1 (.early 3 (.early 4 (.load 2 (.load 5 (.early 6 (.early 7 (.early 8 (.early 9 (.early 13 (.load 10 (.early 11 (.early 12 (.early 14 .done)))))))))))))))) .none)) (.seq .none (.cond (.seq .none (.seq (.reg [(0, 8589934592, 64), (1, 17179869184, 8589934592), (2, 34359738368, 17179869184), (0, 68719476736, 64), (8, 137438953472, 68719476736), (16, 274877906944, 137438953472), (32, 549755813888, 274877906944), (64, 1099511627776, 549755813888), (128, 2199023255552, 1099511627840), (384, 4398046511104, 3298534883328), (640, 8796093022208, 5497558138880), (1152, 17592186044416, 9895604649984), (2176, 35184372088832, 18691697672192), (135, 4, 34359738368), (16383, 8, 35184372088832)] [1060, 1060, 1056, 1060, 1060, 1028, 1060, 1060, 1060, 1060, 36, 1060, 1060, 1060, 1060] (.early 0 (.early 1 (.early 3 (.early 4 (.load 2 (.load 5 (.early 6 (.early 7 (.early 8 (.early 9 (.early 13 (.load 10 (.early 11 (.early 12 (.early 14 .done)))))))))))))))) .none)) .none)))))))) (.seq .none .none)))
theorem c6b (x0 : Value) (w : World) (R : Value → World → Prop) (E : Pan) : b7x x0 w R E = callX Tryd.prog [.tmp 2, .tmp 3] d0h d0i [x0] w R E := by kernel_rfl
theorem c6c {x0 : Value} {w : World} {R : Value → World → Prop} {E : Pan} (h : b7x x0 w R E) : Cv Tryd.prog 114 #[x0] w R E := by
 refine f7 (args := [x0]) (c := d0h) (h := d0i) (rs := [.tmp 2, .tmp 3]) Tryd.func114 (by kernel_rfl) (by kernel_rfl) (Nat.le_of_ble_eq_true (by kernel_rfl)) (by kernel_rfl) (by kernel_rfl) (by kernel_rfl) ?_
 rw [← c6b]
 exact h
def b1P (w : World) (R : Value → World → Prop) (_E : Pan) : Prop :=
 ∀ _τ : Fr, (R (Value.bool true) w)
def b6L (x21 : Value) (w : World) (next2 : List Value → World → Prop) (j1 : List Value → World → Prop) (R : Value → World → Prop) (E : Pan) : Prop :=
 opK Tryd.prog E (xV (Instr.next x21 true 0)) w fun a4R u2 =>
 opK Tryd.prog E (xV (Instr.extract a4R 0)) u2 fun d0j s9 =>
 xcond d0j
 (opK Tryd.prog E (xV (Instr.extract a4R 1)) s9 fun d0k y7 =>
 opK Tryd.prog E (xV (Instr.extract a4R 2)) y7 fun c0H B5 =>
 opK Tryd.prog E (xCall (Value.func (.func 125) #[] #[]) [c0H]) B5 fun d0l C5 =>
 opK Tryd.prog E (xV (Op.unary .not d0l)) C5 fun a3M B6 =>
 opK Tryd.prog E (gsem (asB a3M) false (xBin .eql 3 (.tmp 30) (.const (Value.int .i64 0)) (gval (asB a3M) false d0k) (Value.int .i64 0))) B6 fun b0O D5 =>
 opK Tryd.prog E (gsem (asB (gval (asB a3M) false b0O)) true (xCall (Value.func (.func 126) #[] #[]) [(gval (asB (gval (asB a3M) false b0O)) true c0H)])) D5 fun d0m E4 =>
 opK Tryd.prog E (gsem (asB (gval (asB a3M) false b0O)) true (xBin .neq 3 (.tmp 34) (.const (Value.int .i64 3)) d0m (Value.int .i64 3))) E4 fun d0n E0 =>
 opK Tryd.prog E (gsem (asB a3M) false (xPick (gval (asB a3M) false b0O) d0n (Value.bool false))) E0 fun d0o G6 =>
 opK Tryd.prog E (xPick a3M (Value.bool true) d0o) G6 fun d0p G9 =>
 xcond d0p
 (R (Value.bool false) G9)
 (next2 [] G9))
 (j1 [] s9)
def b7y (x0 : Value) (w : World) (R : Value → World → Prop) (E : Pan) : Prop :=
 opK Tryd.prog E (xBin .eql 9 (.tmp 5) (.const (Value.string ⟨#[]⟩)) x0 (Value.string ⟨#[]⟩)) w fun b1M w_2 =>
 opK Tryd.prog E (gsem (asB b1M) false (xCall (Value.func (.func 122) #[] #[]) [(gval (asB b1M) false x0)])) w_2 fun a3o w_4 =>
 opK Tryd.prog E (gsem (asB b1M) false (xV (Op.unary .not a3o))) w_4 fun a2M w_6 =>
 opK Tryd.prog E (xPick b1M (Value.bool true) a2M) w_6 fun a6T w_8 =>
 opK Tryd.prog E (gsem (asB a6T) false (xCall (Value.func (.func 123) #[] #[]) [(gval (asB a6T) false x0)])) w_8 fun a4m k8 =>
 opK Tryd.prog E (xPick a6T (Value.bool true) a4m) k8 fun a7W o9 =>
 opK Tryd.prog E (gsem (asB a7W) false (xCall (Value.func (.func 124) #[] #[]) [(gval (asB a7W) false x0)])) o9 fun a4L o0 =>
 opK Tryd.prog E (xPick a7W (Value.bool true) a4L) o0 fun a0E r7 =>
 xcond a0E
 (R (Value.bool false) r7)
 (xcut (fun _ s7 => b1P s7 R E) fun j1 =>
 opK Tryd.prog E (xV (Instr.range 9 x0)) r7 fun b4v r6 =>
 xloop [] [] r6 fun _ H8 next2 =>
 b6L b4v H8 next2 j1 R E)
noncomputable def d0q : Code := Tryd.f115.body.getD .skip
def d0r : Hint := (.seq .none (.seq (.seq .none (.cond (.seq .none .none) .none)) (.cut [] (.seq .none (.block (.loop [] (.seq .none (.seq (.cond .none .none) (.block (.seq .none (.seq .none (.cond (.seq .none .none) .none))))))))) (.seq .none .none))))
theorem c6d (x0 : Value) (w : World) (R : Value → World → Prop) (E : Pan) : b7y x0 w R E = callX Tryd.prog [.tmp 2] d0q d0r [x0] w R E := by kernel_rfl
theorem c6e {x0 : Value} {w : World} {R : Value → World → Prop} {E : Pan} (h : b7y x0 w R E) : Cv Tryd.prog 115 #[x0] w R E := by
 refine f7 (args := [x0]) (c := d0q) (h := d0r) (rs := [.tmp 2]) Tryd.func115 (by kernel_rfl) (by kernel_rfl) (Nat.le_of_ble_eq_true (by kernel_rfl)) (by kernel_rfl) (by kernel_rfl) (by kernel_rfl) ?_
 rw [← c6d]
 exact h
def b7z (x0 x1 : Value) (w : World) (R : Value → World → Prop) (E : Pan) : Prop :=
 opK Tryd.prog E (xCall (Value.func (.func 127) #[] #[]) [x0, x1]) w fun c2p w_2 =>
 opK Tryd.prog E (xBin .geq 3 (.tmp 7) (.const (Value.int .i64 0)) c2p (Value.int .i64 0)) w_2 fun b1Q w_4 =>
 R b1Q w_4
noncomputable def d0s : Code := Tryd.f116.body.getD .skip
def d0t : Hint := (.seq .none (.seq .none .none))
theorem c6f (x0 x1 : Value) (w : World) (R : Value → World → Prop) (E : Pan) : b7z x0 x1 w R E = callX Tryd.prog [.tmp 4] d0s d0t [x0, x1] w R E := by kernel_rfl
theorem c6g {x0 x1 : Value} {w : World} {R : Value → World → Prop} {E : Pan} (h : b7z x0 x1 w R E) : Cv Tryd.prog 116 #[x0, x1] w R E := by
 refine f7 (args := [x0, x1]) (c := d0s) (h := d0t) (rs := [.tmp 4]) Tryd.func116 (by kernel_rfl) (by kernel_rfl) (Nat.le_of_ble_eq_true (by kernel_rfl)) (by kernel_rfl) (by kernel_rfl) (by kernel_rfl) ?_
 rw [← c6f]
 exact h
def b1R (x0 : Value) (w : World) (R : Value → World → Prop) (_E : Pan) : Prop :=
 ∀ _τ : Fr, (R x0 w)
def b6M (x0 x1 : Value) (w : World) (R : Value → World → Prop) (E : Pan) : Prop :=
 ∀ _τ : Fr, (xcut (fun l_1 w_2 => b1R (nth l_1 0) w_2 R E) fun j2 =>
 opK Tryd.prog E (xBuiltin .cap #[97] 3 [false] [x0]) w fun b7w w_4 =>
 opK Tryd.prog E (xBuiltin .len #[97] 3 [false] [x0]) w_4 fun a4l w_6 =>
 opK Tryd.prog E (xBin .sub 3 (.tmp 10) (.tmp 12) b7w a4l) w_6 fun b0G w_8 =>
 opK Tryd.prog E (xBin .sub 3 (.tmp 8) (.tmp 13) x1 b0G) w_8 fun a4m k8 =>
 opK Tryd.prog E (xBin .gtr 3 (.tmp 15) (.const (Value.int .i64 0)) a4m (Value.int .i64 0)) k8 fun a0F o9 =>
 xcond a0F
 (opK Tryd.prog E (xBuiltin .cap #[97] 3 [false] [x0]) o9 fun d0u o0 =>
 opK Tryd.prog E (xV (Instr.sliceAt 97 x0 none (some d0u) none)) o0 fun d0v r7 =>
 opK Tryd.prog E (xBuiltin .append #[97, 3] 97 [false, false] [d0v, a4m]) r7 fun d0w s7 =>
 opK Tryd.prog E (xBuiltin .len #[97] 3 [false] [x0]) s7 fun d0x r6 =>
 opK Tryd.prog E (xV (Instr.sliceAt 97 d0w none (some d0x) none)) r6 fun d0y u2 =>
 j2 [d0y] u2)
 (j2 [x0] o9))
def c2q (x0 x1 : Value) (w : World) (R : Value → World → Prop) (E : Pan) : Prop :=
 xcut (fun _ s9 => b6M x0 x1 s9 R E) fun j1 =>
 opK Tryd.prog E (xBin .lss 3 (.tmp 5) (.const (Value.int .i64 0)) x1 (Value.int .i64 0)) w fun d8k y7 =>
 xcond d8k
 (opK Tryd.prog E (xV (Instr.makeInterface 9 (Value.string ⟨#[99, 97, 110, 110, 111, 116, 32, 98, 101, 32, 110, 101, 103, 97, 116, 105, 118, 101]⟩))) y7 fun d8l B5 =>
 opK Tryd.prog E (xV (Instr.panic d8l)) B5 fun _z_29 C5 =>
 j1 [] C5)
 (j1 [] y7)
noncomputable def d0z : Code := Tryd.f120.body.getD .skip
def d0A : Hint := (.seq .none (.cut [] (.seq .none (.cond .none .none)) (.cut [0] (.seq .none (.seq .none (.cond .none .none))) (.seq .none .none))))
theorem c6h (x0 x1 : Value) (w : World) (R : Value → World → Prop) (E : Pan) : c2q x0 x1 w R E = callX Tryd.prog [.tmp 4] d0z d0A [x0, x1] w R E := by kernel_rfl
theorem c6i {x0 x1 : Value} {w : World} {R : Value → World → Prop} {E : Pan} (h : c2q x0 x1 w R E) : Cv Tryd.prog 120 #[x0, x1] w R E := by
 refine f7 (args := [x0, x1]) (c := d0z) (h := d0A) (rs := [.tmp 4]) Tryd.func120 (by kernel_rfl) (by kernel_rfl) (Nat.le_of_ble_eq_true (by kernel_rfl)) (by kernel_rfl) (by kernel_rfl) (by kernel_rfl) ?_
 rw [← c6h]
 exact h
def b7A (x0 : Value) (w : World) (R : Value → World → Prop) (E : Pan) : Prop :=
 opK Tryd.prog E (xCall (Value.func (.func 130) #[] #[]) [x0]) w fun a4S w_2 =>
 opK Tryd.prog E (xBin .gtr 3 (.tmp 4) (.const (Value.int .i64 32)) a4S (Value.int .i64 32)) w_2 fun a7R w_4 =>
 R a7R w_4
noncomputable def d0B : Code := Tryd.f123.body.getD .skip
def d0C : Hint := (.seq .none (.seq .none .none))
theorem c6j (x0 : Value) (w : World) (R : Value → World → Prop) (E : Pan) : b7A x0 w R E = callX Tryd.prog [.tmp 2] d0B d0C [x0] w R E := by kernel_rfl
theorem c6k {x0 : Value} {w : World} {R : Value → World → Prop} {E : Pan} (h : b7A x0 w R E) : Cv Tryd.prog 123 #[x0] w R E := by
 refine f7 (args := [x0]) (c := d0B) (h := d0C) (rs := [.tmp 2]) Tryd.func123 (by kernel_rfl) (by kernel_rfl) (Nat.le_of_ble_eq_true (by kernel_rfl)) (by kernel_rfl) (by kernel_rfl) (by kernel_rfl) ?_
 rw [← c6j]
 exact h
def b1S (x4 : Value) (w : World) (R : Value → World → Prop) (_E : Pan) : Prop :=
 ∀ _τ : Fr, (xcond x4
 (R (Value.bool true) w)
 (R (Value.bool false) w))
def b7B (x0 : Value) (w : World) (R : Value → World → Prop) (E : Pan) : Prop :=
 xcut (fun l_1 w_2 => b1S (nth l_1 0) w_2 R E) fun j1 =>
 opK Tryd.prog E (xBin .eql 9 (.tmp 3) (.const (Value.string ⟨#[118, 97, 114]⟩)) x0 (Value.string ⟨#[118, 97, 114]⟩)) w fun a7R w_4 =>
 xcond a7R
 (j1 [a7R] w_4)
 (opK Tryd.prog E (xBin .eql 9 (.tmp 3) (.const (Value.string ⟨#[97, 114, 114, 97, 121]⟩)) x0 (Value.string ⟨#[97, 114, 114, 97, 121]⟩)) w_4 fun a3T w_6 =>
 xcond a3T
 (j1 [a3T] w_6)
 (opK Tryd.prog E (xBin .eql 9 (.tmp 3) (.const (Value.string ⟨#[105, 102]⟩)) x0 (Value.string ⟨#[105, 102]⟩)) w_6 fun a9N w_8 =>
 xcond a9N
 (j1 [a9N] w_8)
 (opK Tryd.prog E (xBin .eql 9 (.tmp 3) (.const (Value.string ⟨#[101, 108, 115, 101]⟩)) x0 (Value.string ⟨#[101, 108, 115, 101]⟩)) w_8 fun a9P k8 =>
 xcond a9P
 (j1 [a9P] k8)
 (opK Tryd.prog E (xBin .eql 9 (.tmp 3) (.const (Value.string ⟨#[119, 104, 105, 108, 101]⟩)) x0 (Value.string ⟨#[119, 104, 105, 108, 101]⟩)) k8 fun b3g o9 =>
 xcond b3g
 (j1 [b3g] o9)
 (opK Tryd.prog E (xBin .eql 9 (.tmp 3) (.const (Value.string ⟨#[97, 115, 115, 101, 114, 116]⟩)) x0 (Value.string ⟨#[97, 115, 115, 101, 114, 116]⟩)) o9 fun c0I o0 =>
 xcond c0I
 (j1 [c0I] o0)
 (opK Tryd.prog E (xBin .eql 9 (.tmp 3) (.const (Value.string ⟨#[97, 115, 115, 117, 109, 101]⟩)) x0 (Value.string ⟨#[97, 115, 115, 117, 109, 101]⟩)) o0 fun c0J r7 =>
 xcond c0J
 (j1 [c0J] r7)
 (opK Tryd.prog E (xBin .eql 9 (.tmp 3) (.const (Value.string ⟨#[115, 107, 105, 112]⟩)) x0 (Value.string ⟨#[115, 107, 105, 112]⟩)) r7 fun c0K s7 =>
 xcond c0K
 (j1 [c0K] s7)
 (opK Tryd.prog E (xBin .eql 9 (.tmp 3) (.const (Value.string ⟨#[105, 110, 112, 117, 116]⟩)) x0 (Value.string ⟨#[105, 110, 112, 117, 116]⟩)) s7 fun c0L r6 =>
 xcond c0L
 (j1 [c0L] r6)
 (opK Tryd.prog E (xBin .eql 9 (.tmp 3) (.const (Value.string ⟨#[116, 114, 117, 101]⟩)) x0 (Value.string ⟨#[116, 114, 117, 101]⟩)) r6 fun c0M u2 =>
 xcond c0M
 (j1 [c0M] u2)
 (opK Tryd.prog E (xBin .eql 9 (.tmp 3) (.const (Value.string ⟨#[102, 97, 108, 115, 101]⟩)) x0 (Value.string ⟨#[102, 97, 108, 115, 101]⟩)) u2 fun d0D s9 =>
 j1 [d0D] s9))))))))))
noncomputable def d0E : Code := Tryd.f124.body.getD .skip
def d0F : Hint := (.seq .none (.seq (.seq .none (.block (.cut [4] (.seq .none (.cond .none (.seq .none (.cond .none (.seq .none (.cond .none (.seq .none (.cond .none (.seq .none (.cond .none (.seq .none (.cond .none (.seq .none (.cond .none (.seq .none (.cond .none (.seq .none (.cond .none (.seq .none (.cond .none .none)))))))))))))))))))) (.cond (.seq .none .none) .none)))) (.seq .none .none)))
theorem c6l (x0 : Value) (w : World) (R : Value → World → Prop) (E : Pan) : b7B x0 w R E = callX Tryd.prog [.tmp 2] d0E d0F [x0] w R E := by kernel_rfl
theorem c6m {x0 : Value} {w : World} {R : Value → World → Prop} {E : Pan} (h : b7B x0 w R E) : Cv Tryd.prog 124 #[x0] w R E := by
 refine f7 (args := [x0]) (c := d0E) (h := d0F) (rs := [.tmp 2]) Tryd.func124 (by kernel_rfl) (by kernel_rfl) (Nat.le_of_ble_eq_true (by kernel_rfl)) (by kernel_rfl) (by kernel_rfl) (by kernel_rfl) ?_
 rw [← c6l]
 exact h
def b7C (x0 : Value) (w : World) (R : Value → World → Prop) (E : Pan) : Prop :=
 opK Tryd.prog E (xCall (Value.func (.func 126) #[] #[]) [x0]) w fun d0G w_2 =>
 opK Tryd.prog E (xBin .eql 3 (.tmp 6) (.const (Value.int .i64 3)) d0G (Value.int .i64 3)) w_2 fun a6P w_4 =>
 opK Tryd.prog E (gsem (asB a6P) false (xBin .eql 3 (.tmp 9) (.const (Value.int .i64 4)) (gval (asB a6P) false d0G) (Value.int .i64 4))) w_4 fun a2M w_6 =>
 opK Tryd.prog E (xPick a6P (Value.bool true) a2M) w_6 fun a6T w_8 =>
 R a6T w_8
noncomputable def d0H : Code := Tryd.f125.body.getD .skip
def d0I : Hint := (.seq .none (.seq .none (.seq .none .none)))
theorem c6n (x0 : Value) (w : World) (R : Value → World → Prop) (E : Pan) : b7C x0 w R E = callX Tryd.prog [.tmp 2] d0H d0I [x0] w R E := by kernel_rfl
theorem c6o {x0 : Value} {w : World} {R : Value → World → Prop} {E : Pan} (h : b7C x0 w R E) : Cv Tryd.prog 125 #[x0] w R E := by
 refine f7 (args := [x0]) (c := d0H) (h := d0I) (rs := [.tmp 2]) Tryd.func125 (by kernel_rfl) (by kernel_rfl) (Nat.le_of_ble_eq_true (by kernel_rfl)) (by kernel_rfl) (by kernel_rfl) (by kernel_rfl) ?_
 rw [← c6n]
 exact h
def b1T (x39 : Value) (w : World) (R : Value → World → Prop) (_E : Pan) : Prop :=
 ∀ _τ : Fr, (xcond x39
 (R (Value.int .i64 3) w)
 (R (Value.int .i64 6) w))
def b1U (x1 x31 : Value) (w : World) (R : Value → World → Prop) (E : Pan) : Prop :=
 ∀ _τ : Fr, (xcond x31
 (R (Value.int .i64 6) w)
 (opK Tryd.prog E (xV (Instr.makeFunc (.func 131) #[] #[x1])) w fun a8T w_8 =>
 opK Tryd.prog E (xCall a8T [(Value.int .i32 48), (Value.int .i32 57)]) w_8 fun d8m k8 =>
 xcond d8m
 (R (Value.int .i64 4) k8)
 (xcut (fun e1b o9 => b1T (nth e1b 0) o9 R E) fun j4 =>
 opK Tryd.prog E (xV (Instr.loadAt 21 x1)) k8 fun d0J o0 =>
 opK Tryd.prog E (xBin .eql 21 (.tmp 40) (.const (Value.int .i32 95)) d0J (Value.int .i32 95)) o0 fun c0N r7 =>
 xcond c0N
 (j4 [c0N] r7)
 (opK Tryd.prog E (xCall a8T [(Value.int .i32 97), (Value.int .i32 122)]) r7 fun c0O s7 =>
 xcond c0O
 (j4 [c0O] s7)
 (opK Tryd.prog E (xCall a8T [(Value.int .i32 65), (Value.int .i32 90)]) s7 fun c0P r6 =>
 xcond c0P
 (j4 [c0P] r6)
 (opK Tryd.prog E (xCall a8T [(Value.int .i32 192), (Value.int .i32 591)]) r6 fun c0Q u2 =>
 xcond c0Q
 (j4 [c0Q] u2)
 (opK Tryd.prog E (xCall a8T [(Value.int .i32 913), (Value.int .i32 969)]) u2 fun c0R s9 =>
 xcond c0R
 (j4 [c0R] s9)
 (opK Tryd.prog E (xCall a8T [(Value.int .i32 1040), (Value.int .i32 1103)]) s9 fun d0K y7 =>
 j4 [d0K] y7))))))))
def b1V (x1 x4 x11 : Value) (w : World) (R : Value → World → Prop) (E : Pan) : Prop :=
 ∀ _τ : Fr, (xcond x11
 (R (Value.int .i64 5) w)
 (xcut (fun a9O B5 => b1U x1 (nth a9O 0) B5 R E) fun j3 =>
 opK Tryd.prog E (xBin .eql 21 (.tmp 4) (.const (Value.int .i32 215)) x4 (Value.int .i32 215)) w fun c0S C5 =>
 xcond c0S
 (j3 [c0S] C5)
 (opK Tryd.prog E (xBin .eql 21 (.tmp 4) (.const (Value.int .i32 247)) x4 (Value.int .i32 247)) C5 fun c0T B6 =>
 xcond c0T
 (j3 [c0T] B6)
 (opK Tryd.prog E (xBin .eql 21 (.tmp 4) (.const (Value.int .i32 930)) x4 (Value.int .i32 930)) B6 fun d0L D5 =>
 j3 [d0L] D5))))
def b1W (x1 x4 x5 : Value) (w : World) (R : Value → World → Prop) (E : Pan) : Prop :=
 ∀ _τ : Fr, (xcond x5
 (R (Value.int .i64 1) w)
 (opK Tryd.prog E (xBin .eql 21 (.tmp 4) (.const (Value.int .i32 10)) x4 (Value.int .i32 10)) w fun a2M w_6 =>
 xcond a2M
 (R (Value.int .i64 2) w_6)
 (xcut (fun b4w E4 => b1V x1 x4 (nth b4w 0) E4 R E) fun j2 =>
 opK Tryd.prog E (xBin .eql 21 (.tmp 4) (.const (Value.int .i32 59)) x4 (Value.int .i32 59)) w_6 fun c0U E0 =>
 xcond c0U
 (j2 [c0U] E0)
 (opK Tryd.prog E (xBin .eql 21 (.tmp 4) (.const (Value.int .i32 44)) x4 (Value.int .i32 44)) E0 fun c0V G6 =>
 xcond c0V
 (j2 [c0V] G6)
 (opK Tryd.prog E (xBin .eql 21 (.tmp 4) (.const (Value.int .i32 123)) x4 (Value.int .i32 123)) G6 fun c0W G9 =>
 xcond c0W
 (j2 [c0W] G9)
 (opK Tryd.prog E (xBin .eql 21 (.tmp 4) (.const (Value.int .i32 125)) x4 (Value.int .i32 125)) G9 fun b0P H8 =>
 xcond b0P
 (j2 [b0P] H8)
 (opK Tryd.prog E (xBin .eql 21 (.tmp 4) (.const (Value.int .i32 40)) x4 (Value.int .i32 40)) H8 fun b0Q J4 =>
 xcond b0Q
 (j2 [b0Q] J4)
 (opK Tryd.prog E (xBin .eql 21 (.tmp 4) (.const (Value.int .i32 41)) x4 (Value.int .i32 41)) J4 fun b0R M5 =>
 xcond b0R
 (j2 [b0R] M5)
 (opK Tryd.prog E (xBin .eql 21 (.tmp 4) (.const (Value.int .i32 91)) x4 (Value.int .i32 91)) M5 fun b0S J5 =>
 xcond b0S
 (j2 [b0S] J5)
 (opK Tryd.prog E (xBin .eql 21 (.tmp 4) (.const (Value.int .i32 93)) x4 (Value.int .i32 93)) J5 fun b0T Q0 =>
 xcond b0T
 (j2 [b0T] Q0)
 (opK Tryd.prog E (xBin .eql 21 (.tmp 4) (.const (Value.int .i32 61)) x4 (Value.int .i32 61)) Q0 fun b0U R7 =>
 xcond b0U
 (j2 [b0U] R7)
 (opK Tryd.prog E (xBin .eql 21 (.tmp 4) (.const (Value.int .i32 33)) x4 (Value.int .i32 33)) R7 fun b0V T3 =>
 xcond b0V
 (j2 [b0V] T3)
 (opK Tryd.prog E (xBin .eql 21 (.tmp 4) (.const (Value.int .i32 60)) x4 (Value.int .i32 60)) T3 fun a6n S7 =>
 xcond a6n
 (j2 [a6n] S7)
 (opK Tryd.prog E (xBin .eql 21 (.tmp 4) (.const (Value.int .i32 62)) x4 (Value.int .i32 62)) S7 fun a8b W4 =>
 xcond a8b
 (j2 [a8b] W4)
 (opK Tryd.prog E (xBin .eql 21 (.tmp 4) (.const (Value.int .i32 43)) x4 (Value.int .i32 43)) W4 fun b0W Z9 =>
 xcond b0W
 (j2 [b0W] Z9)
 (opK Tryd.prog E (xBin .eql 21 (.tmp 4) (.const (Value.int .i32 45)) x4 (Value.int .i32 45)) Z9 fun c0X S8 =>
 xcond c0X
 (j2 [c0X] S8)
 (opK Tryd.prog E (xBin .eql 21 (.tmp 4) (.const (Value.int .i32 42)) x4 (Value.int .i32 42)) S8 fun c0Y W5 =>
 xcond c0Y
 (j2 [c0Y] W5)
 (opK Tryd.prog E (xBin .eql 21 (.tmp 4) (.const (Value.int .i32 47)) x4 (Value.int .i32 47)) W5 fun c0Z a0b =>
 xcond c0Z
 (j2 [c0Z] a0b)
 (opK Tryd.prog E (xBin .eql 21 (.tmp 4) (.const (Value.int .i32 37)) x4 (Value.int .i32 37)) a0b fun c1a T4 =>
 xcond c1a
 (j2 [c1a] T4)
 (opK Tryd.prog E (xBin .eql 21 (.tmp 4) (.const (Value.int .i32 38)) x4 (Value.int .i32 38)) T4 fun c1b Y1 =>
 xcond c1b
 (j2 [c1b] Y1)
 (opK Tryd.prog E (xBin .eql 21 (.tmp 4) (.const (Value.int .i32 124)) x4 (Value.int .i32 124)) Y1 fun d0M a0m =>
 j2 [d0M] a0m)))))))))))))))))))))
def b7D (x0 : Value) (w : World) (R : Value → World → Prop) (E : Pan) : Prop :=
 opK Tryd.prog E (xV (Instr.box 21 x0)) w fun o7 w_2 =>
 opK Tryd.prog E (xV (Instr.loadAt 21 o7)) w_2 fun a8c w_4 =>
 xcut (fun e1c Y2 => b1W o7 a8c (nth e1c 0) Y2 R E) fun j1 =>
 opK Tryd.prog E (xBin .eql 21 (.tmp 4) (.const (Value.int .i32 32)) a8c (Value.int .i32 32)) w_4 fun c4U a0d =>
 xcond c4U
 (j1 [c4U] a0d)
 (opK Tryd.prog E (xBin .eql 21 (.tmp 4) (.const (Value.int .i32 9)) a8c (Value.int .i32 9)) a0d fun c4V W6 =>
 xcond c4V
 (j1 [c4V] W6)
 (opK Tryd.prog E (xBin .eql 21 (.tmp 4) (.const (Value.int .i32 13)) a8c (Value.int .i32 13)) W6 fun d8n a0M =>
 j1 [d8n] a0M))
noncomputable def d0N : Code := Tryd.f126.body.getD .skip
def d0O : Hint := (.seq .none (.seq (.seq .none (.block (.cut [5] (.seq .none (.cond .none (.seq .none (.cond .none .none)))) (.cond (.seq .none .none) (.seq .none (.cond (.seq .none .none) (.cut [11] (.seq .none (.cond .none (.seq .none (.cond .none (.seq .none (.cond .none (.seq .none (.cond .none (.seq .none (.cond .none (.seq .none (.cond .none (.seq .none (.cond .none (.seq .none (.cond .none (.seq .none (.cond .none (.seq .none (.cond .none (.seq .none (.cond .none (.seq .none (.cond .none (.seq .none (.cond .none (.seq .none (.cond .none (.seq .none (.cond .none (.seq .none (.cond .none (.seq .none (.cond .none (.seq .none (.cond .none .none)))))))))))))))))))))))))))))))))))) (.cond (.seq .none .none) (.cut [31] (.seq .none (.cond .none (.seq .none (.cond .none .none)))) (.cond (.seq .none .none) .none)))))))))) (.seq .none (.seq (.block (.seq .none (.cond (.seq .none .none) (.cut [39] (.seq .none (.cond .none (.seq .none (.cond .none (.seq .none (.cond .none (.seq .none (.cond .none (.seq .none (.cond .none .none)))))))))) (.cond (.seq .none .none) .none))))) (.seq .none .none)))))
theorem c6p (x0 : Value) (w : World) (R : Value → World → Prop) (E : Pan) : b7D x0 w R E = callX Tryd.prog [.tmp 2] d0N d0O [x0] w R E := by kernel_rfl
theorem c6q {x0 : Value} {w : World} {R : Value → World → Prop} {E : Pan} (h : b7D x0 w R E) : Cv Tryd.prog 126 #[x0] w R E := by
 refine f7 (args := [x0]) (c := d0N) (h := d0O) (rs := [.tmp 2]) Tryd.func126 (by kernel_rfl) (by kernel_rfl) (Nat.le_of_ble_eq_true (by kernel_rfl)) (by kernel_rfl) (by kernel_rfl) (by kernel_rfl) ?_
 rw [← c6p]
 exact h
def b1X (w : World) (R : Value → World → Prop) (_E : Pan) : Prop :=
 ∀ _τ : Fr, (R (Value.int .i64 (-1)) w)
def b6N (x0 x1 x7 x8 : Value) (w : World) (next2 : List Value → World → Prop) (j1 : List Value → World → Prop) (R : Value → World → Prop) (E : Pan) : Prop :=
 opK Tryd.prog E (xBin .lss 3 (.tmp 8) (.tmp 7) x8 x7) w fun c2r w_6 =>
 xcond c2r
 (opK Tryd.prog E (xV (Instr.indexAt 47 x0 x8)) w_6 fun b0X w_8 =>
 opK Tryd.prog E (xV (Instr.loadAt 9 b0X)) w_8 fun b3h k8 =>
 opK Tryd.prog E (xBin .eql 9 (.tmp 11) (.tmp 15) x1 b3h) k8 fun a0F o9 =>
 xcond a0F
 (R x8 o9)
 (opK Tryd.prog E (xBin .add 3 (.tmp 8) (.const (Value.int .i64 1)) x8 (Value.int .i64 1)) o9 fun a4L o0 =>
 next2 [a4L] o0))
 (j1 [] w_6)
def b7E (x0 x1 : Value) (w : World) (R : Value → World → Prop) (E : Pan) : Prop :=
 xcut (fun _ w_2 => b1X w_2 R E) fun j1 =>
 opK Tryd.prog E (xBuiltin .len #[47] 3 [false] [x0]) w fun a6P w_4 =>
 xloop [8] [(Value.int .i64 0)] w_4 fun τ_15 r7 next2 =>
 b6N x0 x1 a6P (τ_15 8) r7 next2 j1 R E
noncomputable def d0P : Code := Tryd.f127.body.getD .skip
def d0Q : Hint := (.seq .none (.cut [] (.seq .none (.block (.loop [8] (.seq .none (.seq (.cond .none .none) (.seq (.block (.seq .none (.seq .none (.cond (.seq .none .none) .none)))) .none)))))) (.seq .none .none)))
theorem c6r (x0 x1 : Value) (w : World) (R : Value → World → Prop) (E : Pan) : b7E x0 x1 w R E = callX Tryd.prog [.tmp 4] d0P d0Q [x0, x1] w R E := by kernel_rfl
theorem c6s {x0 x1 : Value} {w : World} {R : Value → World → Prop} {E : Pan} (h : b7E x0 x1 w R E) : Cv Tryd.prog 127 #[x0, x1] w R E := by
 refine f7 (args := [x0, x1]) (c := d0P) (h := d0Q) (rs := [.tmp 4]) Tryd.func127 (by kernel_rfl) (by kernel_rfl) (Nat.le_of_ble_eq_true (by kernel_rfl)) (by kernel_rfl) (by kernel_rfl) (by kernel_rfl) ?_
 rw [← c6r]
 exact h
def b1Y (x2 : Value) (w : World) (R : Value → World → Prop) (_E : Pan) : Prop :=
 ∀ _τ : Fr, (R x2 w)
def b6O (x2 x4 : Value) (w : World) (next2 : List Value → World → Prop) (j1 : List Value → World → Prop) (_R : Value → World → Prop) (E : Pan) : Prop :=
 opK Tryd.prog E (xV (Instr.next x4 true 0)) w fun c2s w_6 =>
 opK Tryd.prog E (xV (Instr.extract c2s 0)) w_6 fun c2t w_8 =>
 xcond c2t
 (opK Tryd.prog E (xBin .add 3 (.tmp 7) (.const (Value.int .i64 1)) x2 (Value.int .i64 1)) w_8 fun a9P k8 =>
 next2 [a9P] k8)
 (j1 [x2] w_8)
def b7F (x0 : Value) (w : World) (R : Value → World → Prop) (E : Pan) : Prop :=
 xcut (fun l_1 w_2 => b1Y (nth l_1 0) w_2 R E) fun j1 =>
 opK Tryd.prog E (xV (Instr.range 9 x0)) w fun a8c w_4 =>
 xloop [2] [(Value.int .i64 0)] w_4 fun τ_11 o9 next2 =>
 b6O (τ_11 2) a8c o9 next2 j1 R E
noncomputable def d0R : Code := Tryd.f130.body.getD .skip
def d0S : Hint := (.seq .none (.cut [2] (.seq .none (.block (.loop [2] (.seq .none (.seq (.cond .none .none) (.block .none)))))) (.seq .none .none)))
theorem c6t (x0 : Value) (w : World) (R : Value → World → Prop) (E : Pan) : b7F x0 w R E = callX Tryd.prog [.tmp 2] d0R d0S [x0] w R E := by kernel_rfl
theorem c6u {x0 : Value} {w : World} {R : Value → World → Prop} {E : Pan} (h : b7F x0 w R E) : Cv Tryd.prog 130 #[x0] w R E := by
 refine f7 (args := [x0]) (c := d0R) (h := d0S) (rs := [.tmp 2]) Tryd.func130 (by kernel_rfl) (by kernel_rfl) (Nat.le_of_ble_eq_true (by kernel_rfl)) (by kernel_rfl) (by kernel_rfl) (by kernel_rfl) ?_
 rw [← c6t]
 exact h
def b7G (x0 x1 x2 : Value) (w : World) (R : Value → World → Prop) (E : Pan) : Prop :=
 opK Tryd.prog E (xV (Instr.loadAt 21 x2)) w fun c2p w_2 =>
 opK Tryd.prog E (xBin .leq 21 (.tmp 6) (.tmp 7) x0 c2p) w_2 fun b1Q w_4 =>
 opK Tryd.prog E (gsem (asB b1Q) true (xV (Instr.loadAt 21 x2))) w_4 fun a2M w_6 =>
 opK Tryd.prog E (gsem (asB b1Q) true (xBin .leq 21 (.tmp 10) (.tmp 11) a2M (gval (asB b1Q) true x1))) w_6 fun a4p w_8 =>
 opK Tryd.prog E (xPick b1Q a4p (Value.bool false)) w_8 fun a4q k8 =>
 R a4q k8
noncomputable def d0T : Code := Tryd.f131.body.getD .skip
def d0U : Hint := (.seq .none (.seq .none .none))
theorem c6v (x0 x1 x2 : Value) (w : World) (R : Value → World → Prop) (E : Pan) : b7G x0 x1 x2 w R E = callX Tryd.prog [.tmp 5] d0T d0U [x0, x1, x2] w R E := by kernel_rfl
theorem c6w {x0 x1 x2 : Value} {w : World} {R : Value → World → Prop} {E : Pan} (h : b7G x0 x1 x2 w R E) : Cv Tryd.prog 131 #[x0, x1, x2] w R E := by
 refine f7 (args := [x0, x1, x2]) (c := d0T) (h := d0U) (rs := [.tmp 5]) Tryd.func131 (by kernel_rfl) (by kernel_rfl) (Nat.le_of_ble_eq_true (by kernel_rfl)) (by kernel_rfl) (by kernel_rfl) (by kernel_rfl) ?_
 rw [← c6v]
 exact h
def b1Z (x3 x59 : Value) (w : World) (R : Value → World → Prop) (E : Pan) : Prop :=
 ∀ _τ : Fr, (xcond x59
 (opK Tryd.prog E (xBin .eql 3 (.tmp 65) (.const (Value.int .i64 2)) x3 (Value.int .i64 2)) w fun d0V a0d =>
 R d0V a0d)
 (R (Value.bool false) w))
def b2a (x3 x38 x54 : Value) (w : World) (R : Value → World → Prop) (E : Pan) : Prop :=
 ∀ _τ : Fr, (xcond x54
 (opK Tryd.prog E (xBin .eql 3 (.tmp 57) (.const (Value.int .i64 1)) x3 (Value.int .i64 1)) w fun d0W Y2 =>
 R d0W Y2)
 (xcut (fun a5Z W6 => b1Z x3 (nth a5Z 0) W6 R E) fun j3 =>
 opK Tryd.prog E (xBin .eql 3 (.tmp 38) (.const (Value.int .i64 6)) x38 (Value.int .i64 6)) w fun a4N a0M =>
 xcond a4N
 (j3 [a4N] a0M)
 (opK Tryd.prog E (xBin .eql 3 (.tmp 38) (.const (Value.int .i64 7)) x38 (Value.int .i64 7)) a0M fun c1c a1X =>
 xcond c1c
 (j3 [c1c] a1X)
 (opK Tryd.prog E (xBin .eql 3 (.tmp 38) (.const (Value.int .i64 8)) x38 (Value.int .i64 8)) a1X fun c1d a2G =>
 xcond c1d
 (j3 [c1d] a2G)
 (opK Tryd.prog E (xBin .eql 3 (.tmp 38) (.const (Value.int .i64 9)) x38 (Value.int .i64 9)) a2G fun c1e a1y =>
 xcond c1e
 (j3 [c1e] a1y)
 (opK Tryd.prog E (xBin .eql 3 (.tmp 38) (.const (Value.int .i64 10)) x38 (Value.int .i64 10)) a1y fun d0X a4O =>
 j3 [d0X] a4O))))))
def b2b (x3 x38 x49 : Value) (w : World) (R : Value → World → Prop) (E : Pan) : Prop :=
 ∀ _τ : Fr, (xcond x49
 (opK Tryd.prog E (xBin .eql 3 (.tmp 52) (.const (Value.int .i64 0)) x3 (Value.int .i64 0)) w fun a7X a0m =>
 R a7X a0m)
 (xcut (fun e1d a4P => b2a x3 x38 (nth e1d 0) a4P R E) fun j2 =>
 opK Tryd.prog E (xBin .eql 3 (.tmp 38) (.const (Value.int .i64 4)) x38 (Value.int .i64 4)) w fun c1f a3m =>
 xcond c1f
 (j2 [c1f] a3m)
 (opK Tryd.prog E (xBin .eql 3 (.tmp 38) (.const (Value.int .i64 5)) x38 (Value.int .i64 5)) a3m fun d0Y a3W =>
 j2 [d0Y] a3W)))
def b7H (x0 : Value) (w : World) (R : Value → World → Prop) (E : Pan) : Prop :=
 opK Tryd.prog E (xV (Instr.box 96 x0)) w fun o7 w_2 =>
 opK Tryd.prog E (xV (Instr.fieldAt 96 o7 0)) w_2 fun b4x w_4 =>
 opK Tryd.prog E (xV (Instr.fieldAt 30 b4x 3)) w_4 fun b4y w_6 =>
 opK Tryd.prog E (xV (Instr.loadAt 28 b4y)) w_6 fun a1U w_8 =>
 opK Tryd.prog E (xBuiltin .len #[28] 3 [false] [a1U]) w_8 fun a5X k8 =>
 opK Tryd.prog E (xV (Instr.loadAt 96 o7)) k8 fun b4o o9 =>
 opK Tryd.prog E (xV (Instr.makeInterface 96 b4o)) o9 fun b4p o0 =>
 opK Tryd.prog E (xCall (Value.func (.func 114) #[] #[]) [b4p]) o0 fun b0N r7 =>
 opK Tryd.prog E (xV (Instr.extract b0N 0)) r7 fun _t14_17 s7 =>
 opK Tryd.prog E (xV (Instr.extract b0N 1)) s7 fun b4q r6 =>
 opK Tryd.prog E (xV (Instr.fieldAt 96 o7 0)) r6 fun b4r u2 =>
 opK Tryd.prog E (xV (Instr.fieldAt 30 b4r 0)) u2 fun d0Z s9 =>
 opK Tryd.prog E (xV (Instr.loadAt 3 d0Z)) s9 fun d1a y7 =>
 opK Tryd.prog E (xBin .neq 3 (.tmp 18) (.const (Value.int .i64 1)) d1a (Value.int .i64 1)) y7 fun a8d B5 =>
 opK Tryd.prog E (gsem (asB a8d) true (xV (Instr.fieldAt 96 o7 0))) B5 fun d1b C5 =>
 opK Tryd.prog E (gsem (asB a8d) true (xV (Instr.fieldAt 30 d1b 1))) C5 fun d1c B6 =>
 opK Tryd.prog E (gsem (asB a8d) true (xV (Instr.loadAt 2 d1c))) B6 fun d1d D5 =>
 opK Tryd.prog E (gsem (asB a8d) true (xBin .neq 2 (.tmp 23) (.const (Value.int .i64 0)) d1d (Value.int .i64 0))) D5 fun d1e E4 =>
 opK Tryd.prog E (xPick a8d d1e (Value.bool false)) E4 fun a2N E0 =>
 opK Tryd.prog E (gsem (asB a2N) false (xV (Op.unary .not (gval (asB a2N) false b4q)))) E0 fun a8e G6 =>
 opK Tryd.prog E (gsem (asB (gval (asB a2N) false a8e)) true (xV (Instr.fieldAt 96 o7 0))) G6 fun b4z G9 =>
 opK Tryd.prog E (gsem (asB (gval (asB a2N) false a8e)) true (xV (Instr.fieldAt 30 b4z 2))) G9 fun b4A H8 =>
 opK Tryd.prog E (gsem (asB (gval (asB a2N) false a8e)) true (xV (Instr.loadAt 9 b4A))) H8 fun b4B J4 =>
 opK Tryd.prog E (gsem (asB (gval (asB a2N) false a8e)) true (xBin .neq 9 (.tmp 32) (.const (Value.string ⟨#[]⟩)) b4B (Value.string ⟨#[]⟩))) J4 fun b4C M5 =>
 opK Tryd.prog E (gsem (asB a2N) false (xPick (gval (asB a2N) false a8e) b4C (Value.bool false))) M5 fun b4D J5 =>
 opK Tryd.prog E (xPick a2N (Value.bool true) b4D) J5 fun b4E Q0 =>
 xcond b4E
 (R (Value.bool false) Q0)
 (opK Tryd.prog E (xV (Instr.fieldAt 96 o7 0)) Q0 fun b4u R7 =>
 opK Tryd.prog E (xV (Instr.fieldAt 30 b4u 0)) R7 fun d1f T3 =>
 opK Tryd.prog E (xV (Instr.loadAt 3 d1f)) T3 fun b0Y S7 =>
 opK Tryd.prog E (xBin .eql 3 (.tmp 38) (.const (Value.int .i64 1)) b0Y (Value.int .i64 1)) S7 fun d1g W4 =>
 xcond d1g
 (opK Tryd.prog E (xV (Instr.fieldAt 96 o7 0)) W4 fun d1h Z9 =>
 opK Tryd.prog E (xV (Instr.fieldAt 30 d1h 1)) Z9 fun d1i S8 =>
 opK Tryd.prog E (xV (Instr.loadAt 2 d1i)) S8 fun d1j W5 =>
 opK Tryd.prog E (xBin .geq 2 (.tmp 43) (.const (Value.int .i64 0)) d1j (Value.int .i64 0)) W5 fun b4F a0b =>
 opK Tryd.prog E (gsem (asB b4F) true (xBin .eql 3 (.tmp 46) (.const (Value.int .i64 0)) (gval (asB b4F) true a5X) (Value.int .i64 0))) a0b fun b4G T4 =>
 opK Tryd.prog E (xPick b4F b4G (Value.bool false)) T4 fun b4H Y1 =>
 R b4H Y1)
 (xcut (fun e1e a4Q => b2b a5X b0Y (nth e1e 0) a4Q R E) fun j1 =>
 opK Tryd.prog E (xBin .eql 3 (.tmp 38) (.const (Value.int .i64 2)) b0Y (Value.int .i64 2)) W4 fun c1g a1q =>
 xcond c1g
 (j1 [c1g] a1q)
 (opK Tryd.prog E (xBin .eql 3 (.tmp 38) (.const (Value.int .i64 3)) b0Y (Value.int .i64 3)) a1q fun c6x a1M =>
 j1 [c6x] a1M)))
noncomputable def d1k : Code := Tryd.f148.body.getD .skip
def d1l : Hint := (.seq .none (.seq .none (.seq .none (.seq (.seq .none (.cond (.seq .none .none) .none)) (.seq (.seq .none (.block (.seq .none (.cond (.seq .none .none) (.cut [49] (.seq .none (.cond .none .none)) (.cond (.seq .none .none) (.cut [54] (.seq .none (.cond .none .none)) (.cond (.seq .none .none) (.cut [59] (.seq .none (.cond .none (.seq .none (.cond .none (.seq .none (.cond .none (.seq .none (.cond .none .none)))))))) (.cond (.seq .none .none) .none)))))))))) (.seq .none .none))))))
theorem c6y (x0 : Value) (w : World) (R : Value → World → Prop) (E : Pan) : b7H x0 w R E = callX Tryd.prog [.tmp 2] d1k d1l [x0] w R E := by kernel_rfl
theorem c6z {x0 : Value} {w : World} {R : Value → World → Prop} {E : Pan} (h : b7H x0 w R E) : Cv Tryd.prog 148 #[x0] w R E := by
 refine f7 (args := [x0]) (c := d1k) (h := d1l) (rs := [.tmp 2]) Tryd.func148 (by kernel_rfl) (by kernel_rfl) (Nat.le_of_ble_eq_true (by kernel_rfl)) (by kernel_rfl) (by kernel_rfl) (by kernel_rfl) ?_
 rw [← c6y]
 exact h
def b7I (x0 : Value) (w : World) (R : Value → World → Prop) (E : Pan) : Prop :=
 opK Tryd.prog E (xV (Instr.box 96 x0)) w fun o7 w_2 =>
 opK Tryd.prog E (xV (Instr.fieldAt 96 o7 0)) w_2 fun a1V w_4 =>
 opK Tryd.prog E (xV (Instr.fieldAt 30 a1V 3)) w_4 fun Y0 w_6 =>
 opK Tryd.prog E (xV (Instr.loadAt 28 Y0)) w_6 fun a1W w_8 =>
 opK Tryd.prog E (xCall (Value.func (.func 150) #[] #[]) [a1W, (Value.func (.func 151) #[] #[])]) w_8 fun a6O k8 =>
 R a6O k8
noncomputable def d1m : Code := Tryd.f149.body.getD .skip
def d1n : Hint := (.seq .none (.seq .none .none))
theorem c6A (x0 : Value) (w : World) (R : Value → World → Prop) (E : Pan) : b7I x0 w R E = callX Tryd.prog [.tmp 2] d1m d1n [x0] w R E := by kernel_rfl
theorem c6B {x0 : Value} {w : World} {R : Value → World → Prop} {E : Pan} (h : b7I x0 w R E) : Cv Tryd.prog 149 #[x0] w R E := by
 refine f7 (args := [x0]) (c := d1m) (h := d1n) (rs := [.tmp 2]) Tryd.func149 (by kernel_rfl) (by kernel_rfl) (Nat.le_of_ble_eq_true (by kernel_rfl)) (by kernel_rfl) (by kernel_rfl) (by kernel_rfl) ?_
 rw [← c6A]
 exact h
def b2c (x5 : Value) (w : World) (R : Value → World → Prop) (_E : Pan) : Prop :=
 ∀ _τ : Fr, (R x5 w)
def b6P (x1 x5 x8 x9 x10 : Value) (w : World) (next2 : List Value → World → Prop) (j1 : List Value → World → Prop) (_R : Value → World → Prop) (E : Pan) : Prop :=
 opK Tryd.prog E (xBin .lss 3 (.tmp 10) (.tmp 9) x10 x9) w fun a6S w_6 =>
 xcond a6S
 (opK Tryd.prog E (xV (Instr.indexAt 28 x8 x10)) w_6 fun a4p w_8 =>
 opK Tryd.prog E (xV (Instr.loadAt 30 a4p)) w_8 fun a4q k8 =>
 opK Tryd.prog E (xV (Instr.alloc 30 true (.tuple #[]))) k8 fun a1p o9 =>
 opK Tryd.prog E (xU (Instr.storeAt 30 a1p a4q)) o9 fun _z_13 o0 =>
 opK Tryd.prog E (xV (Instr.loadAt 30 a1p)) o0 fun a2H r7 =>
 opK Tryd.prog E (xCall x1 [a2H]) r7 fun a2I s7 =>
 opK Tryd.prog E (xV (Instr.buildSlice 97 1 #[(0, a2I)])) s7 fun a2J r6 =>
 opK Tryd.prog E (xBuiltin .append #[97, 97] 97 [false, false] [x5, a2J]) r6 fun a2K u2 =>
 opK Tryd.prog E (xBin .add 3 (.tmp 10) (.const (Value.int .i64 1)) x10 (Value.int .i64 1)) u2 fun a2L s9 =>
 next2 [a2K, a2L] s9)
 (j1 [x5] w_6)
def b7J (x0 x1 : Value) (w : World) (R : Value → World → Prop) (E : Pan) : Prop :=
 xcut (fun l_1 w_2 => b2c (nth l_1 0) w_2 R E) fun j1 =>
 opK Tryd.prog E (xBuiltin .len #[28] 3 [false] [x0]) w fun a3o w_4 =>
 xloop [5, 10] [(Value.slice none 0 0), (Value.int .i64 0)] w_4 fun τ_25 y7 next2 =>
 b6P x1 (τ_25 5) x0 a3o (τ_25 10) y7 next2 j1 R E
noncomputable def d1o : Code := Tryd.f150.body.getD .skip
def d1p : Hint := (.seq .none (.seq .none (.cut [5] (.seq .none (.block (.loop [5, 10] (.seq .none (.seq (.cond .none .none) (.seq (.block (.seq .none .none)) .none)))))) (.seq .none .none))))
theorem c6C (x0 x1 : Value) (w : World) (R : Value → World → Prop) (E : Pan) : b7J x0 x1 w R E = callX Tryd.prog [.tmp 4] d1o d1p [x0, x1] w R E := by kernel_rfl
theorem c6D {x0 x1 : Value} {w : World} {R : Value → World → Prop} {E : Pan} (h : b7J x0 x1 w R E) : Cv Tryd.prog 150 #[x0, x1] w R E := by
 refine f7 (args := [x0, x1]) (c := d1o) (h := d1p) (rs := [.tmp 4]) Tryd.func150 (by kernel_rfl) (by kernel_rfl) (Nat.le_of_ble_eq_true (by kernel_rfl)) (by kernel_rfl) (by kernel_rfl) (by kernel_rfl) ?_
 rw [← c6C]
 exact h
def b7K (x0 : Value) (w : World) (R : Value → World → Prop) (E : Pan) : Prop :=
 opK Tryd.prog E (xV (Instr.box 30 x0)) w fun o7 w_2 =>
 opK Tryd.prog E (xV (Instr.loadAt 30 o7)) w_2 fun a1V w_4 =>
 opK Tryd.prog E (xV (Instr.build 96 #[(0, a1V)])) w_4 fun Y0 w_6 =>
 opK Tryd.prog E (xV (Instr.makeInterface 96 Y0)) w_6 fun a1W w_8 =>
 R a1W w_8
noncomputable def d1q : Code := Tryd.f151.body.getD .skip
def d1r : Hint := (.seq .none (.seq .none .none))
theorem c6E (x0 : Value) (w : World) (R : Value → World → Prop) (E : Pan) : b7K x0 w R E = callX Tryd.prog [.tmp 2] d1q d1r [x0] w R E := by kernel_rfl
theorem c6F {x0 : Value} {w : World} {R : Value → World → Prop} {E : Pan} (h : b7K x0 w R E) : Cv Tryd.prog 151 #[x0] w R E := by
 refine f7 (args := [x0]) (c := d1q) (h := d1r) (rs := [.tmp 2]) Tryd.func151 (by kernel_rfl) (by kernel_rfl) (Nat.le_of_ble_eq_true (by kernel_rfl)) (by kernel_rfl) (by kernel_rfl) (by kernel_rfl) ?_
 rw [← c6E]
 exact h
def b2d (x3 x50 : Value) (w : World) (R : Value → World → Prop) (E : Pan) : Prop :=
 ∀ _τ : Fr, (xcond x50
 (opK Tryd.prog E (xV (Instr.loadAt 209 x3)) w fun d1s a1y =>
 opK Tryd.prog E (xV (Instr.build 209 #[(0, (Value.int .i64 0)), (1, (Value.int .i64 2))])) a1y fun d1t a4O =>
 opK Tryd.prog E (xBin .eql 209 (.tmp 53) (.tmp 54) d1s d1t) a4O fun d1u a4P =>
 R d1u a4P)
 (R (Value.bool false) w))
def b2e (x3 x38 x39 : Value) (w : World) (R : Value → World → Prop) (E : Pan) : Prop :=
 ∀ _τ : Fr, (xcond x39
 (opK Tryd.prog E (xV (Instr.loadAt 209 x3)) w fun d1v a0m =>
 opK Tryd.prog E (xV (Instr.build 209 #[])) a0m fun d1w Y2 =>
 opK Tryd.prog E (xBin .eql 209 (.tmp 42) (.tmp 43) d1v d1w) Y2 fun d1x a0d =>
 R d1x a0d)
 (opK Tryd.prog E (xBin .eql 3 (.tmp 38) (.const (Value.int .i64 4)) x38 (Value.int .i64 4)) w fun d1y W6 =>
 xcond d1y
 (opK Tryd.prog E (xV (Instr.loadAt 209 x3)) W6 fun d1z a0M =>
 opK Tryd.prog E (xV (Instr.build 209 #[(0, (Value.int .i64 0)), (1, (Value.int .i64 1))])) a0M fun d1A a1X =>
 opK Tryd.prog E (xBin .eql 209 (.tmp 47) (.tmp 48) d1z d1A) a1X fun d1B a2G =>
 R d1B a2G)
 (xcut (fun b4I a3m => b2d x3 (nth b4I 0) a3m R E) fun j2 =>
 opK Tryd.prog E (xBin .eql 3 (.tmp 38) (.const (Value.int .i64 5)) x38 (Value.int .i64 5)) W6 fun c1h a3W =>
 xcond c1h
 (j2 [c1h] a3W)
 (opK Tryd.prog E (xBin .eql 3 (.tmp 38) (.const (Value.int .i64 6)) x38 (Value.int .i64 6)) a3W fun d1C a4Q =>
 j2 [d1C] a4Q))))
def b7L (x0 : Value) (w : World) (R : Value → World → Prop) (E : Pan) : Prop :=
 opK Tryd.prog E (xV (Instr.box 106 x0)) w fun o7 w_2 =>
 opK Tryd.prog E (xV (Instr.fieldAt 106 o7 0)) w_2 fun a8c w_4 =>
 opK Tryd.prog E (xV (Instr.fieldAt 33 a8c 2)) w_4 fun c2s w_6 =>
 opK Tryd.prog E (xV (Instr.loadAt 28 c2s)) w_6 fun c2t w_8 =>
 opK Tryd.prog E (xBuiltin .len #[28] 3 [false] [c2t]) w_8 fun e1f k8 =>
 opK Tryd.prog E (xV (Instr.fieldAt 106 o7 0)) k8 fun b0E o9 =>
 opK Tryd.prog E (xV (Instr.fieldAt 33 b0E 3)) o9 fun b0Z o0 =>
 opK Tryd.prog E (xV (Instr.loadAt 31 b0Z)) o0 fun b4J r7 =>
 opK Tryd.prog E (xBuiltin .len #[31] 3 [false] [b4J]) r7 fun b4K s7 =>
 opK Tryd.prog E (xV (Instr.build 209 #[(0, e1f), (1, b4K)])) s7 fun b4L r6 =>
 opK Tryd.prog E (xV (Instr.alloc 209 true (.tuple #[]))) r6 fun b7M u2 =>
 opK Tryd.prog E (xU (Instr.storeAt 209 b7M b4L)) u2 fun _z_23 s9 =>
 opK Tryd.prog E (xV (Instr.fieldAt 106 o7 0)) s9 fun d1D y7 =>
 opK Tryd.prog E (xV (Instr.fieldAt 33 d1D 0)) y7 fun d1E B5 =>
 opK Tryd.prog E (xV (Instr.loadAt 3 d1E)) B5 fun d1F C5 =>
 opK Tryd.prog E (xBin .eql 3 (.tmp 15) (.const (Value.int .i64 3)) d1F (Value.int .i64 3)) C5 fun d1G B6 =>
 xcond d1G
 (opK Tryd.prog E (xV (Instr.fieldAt 106 o7 0)) B6 fun b4l D5 =>
 opK Tryd.prog E (xV (Instr.fieldAt 33 b4l 1)) D5 fun a7Y E4 =>
 opK Tryd.prog E (xV (Instr.loadAt 3 a7Y)) E4 fun d1H E0 =>
 opK Tryd.prog E (xBin .geq 3 (.tmp 19) (.const (Value.int .i64 1)) d1H (Value.int .i64 1)) E0 fun a8f G6 =>
 opK Tryd.prog E (gsem (asB a8f) true (xV (Instr.fieldAt 106 o7 0))) G6 fun d1I G9 =>
 opK Tryd.prog E (gsem (asB a8f) true (xV (Instr.fieldAt 33 d1I 1))) G9 fun d1J H8 =>
 opK Tryd.prog E (gsem (asB a8f) true (xV (Instr.loadAt 3 d1J))) H8 fun d1K J4 =>
 opK Tryd.prog E (gsem (asB a8f) true (xBin .leq 3 (.tmp 24) (.const (Value.int .i64 6)) d1K (Value.int .i64 6))) J4 fun d1L M5 =>
 opK Tryd.prog E (xPick a8f d1L (Value.bool false)) M5 fun b1a J5 =>
 opK Tryd.prog E (gsem (asB b1a) true (xV (Instr.loadAt 209 b7M))) J5 fun a8g Q0 =>
 opK Tryd.prog E (gsem (asB b1a) true (xV (Instr.build 209 #[(0, (Value.int .i64 2)), (1, (Value.int .i64 0))]))) Q0 fun d1M R7 =>
 opK Tryd.prog E (gsem (asB b1a) true (xBin .eql 209 (.tmp 28) (.tmp 29) a8g d1M)) R7 fun d1N T3 =>
 opK Tryd.prog E (xPick b1a d1N (Value.bool false)) T3 fun d1O S7 =>
 R d1O S7)
 (opK Tryd.prog E (xV (Instr.fieldAt 106 o7 0)) B6 fun d1P W4 =>
 opK Tryd.prog E (xV (Instr.fieldAt 33 d1P 1)) W4 fun d1Q Z9 =>
 opK Tryd.prog E (xV (Instr.loadAt 3 d1Q)) Z9 fun d1R S8 =>
 opK Tryd.prog E (xBin .neq 3 (.tmp 34) (.const (Value.int .i64 0)) d1R (Value.int .i64 0)) S8 fun d1S W5 =>
 xcond d1S
 (R (Value.bool false) W5)
 (opK Tryd.prog E (xV (Instr.fieldAt 106 o7 0)) W5 fun d1T a0b =>
 opK Tryd.prog E (xV (Instr.fieldAt 33 d1T 0)) a0b fun d1U T4 =>
 opK Tryd.prog E (xV (Instr.loadAt 3 d1U)) T4 fun a8h Y1 =>
 xcut (fun e1g a1q => b2e b7M a8h (nth e1g 0) a1q R E) fun j1 =>
 opK Tryd.prog E (xBin .eql 3 (.tmp 38) (.const (Value.int .i64 1)) a8h (Value.int .i64 1)) Y1 fun b6Q a1M =>
 xcond b6Q
 (j1 [b6Q] a1M)
 (opK Tryd.prog E (xBin .eql 3 (.tmp 38) (.const (Value.int .i64 2)) a8h (Value.int .i64 2)) a1M fun c6G a3G =>
 j1 [c6G] a3G)))
noncomputable def d1V : Code := Tryd.f152.body.getD .skip
def d1W : Hint := (.seq .none (.seq .none (.seq (.seq .none (.cond (.seq .none .none) .none)) (.seq (.seq .none (.cond (.seq .none .none) .none)) (.seq (.seq .none (.block (.cut [39] (.seq .none (.cond .none .none)) (.cond (.seq .none .none) (.seq .none (.cond (.seq .none .none) (.cut [50] (.seq .none (.cond .none .none)) (.cond (.seq .none .none) .none)))))))) (.seq .none .none))))))
theorem c6H (x0 : Value) (w : World) (R : Value → World → Prop) (E : Pan) : b7L x0 w R E = callX Tryd.prog [.tmp 2] d1V d1W [x0] w R E := by kernel_rfl
theorem c6I {x0 : Value} {w : World} {R : Value → World → Prop} {E : Pan} (h : b7L x0 w R E) : Cv Tryd.prog 152 #[x0] w R E := by
 refine f7 (args := [x0]) (c := d1V) (h := d1W) (rs := [.tmp 2]) Tryd.func152 (by kernel_rfl) (by kernel_rfl) (Nat.le_of_ble_eq_true (by kernel_rfl)) (by kernel_rfl) (by kernel_rfl) (by kernel_rfl) ?_
 rw [← c6H]
 exact h
def b7N (x0 : Value) (w : World) (R : Value → World → Prop) (E : Pan) : Prop :=
 opK Tryd.prog E (xV (Instr.box 106 x0)) w fun o7 w_2 =>
 dX w_2 fun w_3 =>
 qP Tryd.prog (xV (Instr.fieldAt 106 o7 0)) fun b1N =>
 qP Tryd.prog (xV (Instr.fieldAt 33 b1N 2)) fun Y0 =>
 qP Tryd.prog (xV (Instr.fieldAt 106 o7 0)) fun c2u =>
 qP Tryd.prog (xV (Instr.fieldAt 33 c2u 3)) fun a1U =>
 qL Tryd.prog w_3 (blk Y0) (xV (Instr.loadAt 28 Y0)) fun c2m =>
 qL Tryd.prog w_3 (blk a1U) (xV (Instr.loadAt 31 a1U)) fun a5X =>
 opK Tryd.prog E (xCall (Value.func (.func 150) #[] #[]) [c2m, (Value.func (.func 151) #[] #[])]) w_3 fun d8o W3 =>
 keepX [(blk a1U)] w_3 W3 (opK Tryd.prog E (xCall (Value.func (.func 154) #[] #[]) [a5X, (Value.func (.func 155) #[] #[])]) W3 fun d1X a3V =>
 keepX [] W3 a3V (opK Tryd.prog E (xV (Instr.buildSlice 172 2 #[(0, d8o), (1, d1X)])) a3V fun d1Y a3U =>
 keepX [] a3V a3U (opK Tryd.prog E (xCall (Value.func (.func 94) #[] #[]) [d1Y]) a3U fun d1Z a1x =>
 keepX [] a3U a1x (R d1Z a1x))))
noncomputable def d2a : Code := Tryd.f153.body.getD .skip
def d2b : Hint := (.seq .none (.seq (.reg [(0, 8, 2), (1, 16, 8), (2, 32, 16), (4, 64, 32), (0, 128, 2), (16, 256, 128), (32, 512, 256), (72, 1024, 512), (136, 2048, 1088), (384, 4096, 2048), (1023, 4, 4096)] [68, 68, 64, 64, 68, 68, 4, 0, 0, 0, 68] (.early 0 (.early 1 (.early 4 (.early 5 (.load 2 (.load 6 (.step 3 (.step 7 (.step 8 (.step 9 (.early 10 .done)))))))))))) .none))
theorem c6J (x0 : Value) (w : World) (R : Value → World → Prop) (E : Pan) : b7N x0 w R E = callX Tryd.prog [.tmp 2] d2a d2b [x0] w R E := by kernel_rfl
theorem c6K {x0 : Value} {w : World} {R : Value → World → Prop} {E : Pan} (h : b7N x0 w R E) : Cv Tryd.prog 153 #[x0] w R E := by
 refine f7 (args := [x0]) (c := d2a) (h := d2b) (rs := [.tmp 2]) Tryd.func153 (by kernel_rfl) (by kernel_rfl) (Nat.le_of_ble_eq_true (by kernel_rfl)) (by kernel_rfl) (by kernel_rfl) (by kernel_rfl) ?_
 rw [← c6J]
 exact h
end Go.Proofs.YthldnpmfelniiaaDoor
