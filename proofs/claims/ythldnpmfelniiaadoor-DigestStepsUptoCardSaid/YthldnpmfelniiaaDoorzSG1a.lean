/- The second reading of some of the program's functions, printed by gen2.py off the code; each is held against the code by the kernel. -/
import Derived.Test.YthldnpmfelniiaaDoorProg
import Derived.Test.YthldnpmfelniiaaDoorzSK0
import Derived.KernelRfl
namespace Go.Proofs.YthldnpmfelniiaaDoor
open Go.RowKit
set_option maxRecDepth 100000
noncomputable def c3 : Code := Tryd.f3.body.getD .skip
def h3 : Hint := (.seq .none (.seq (.reg [(0, 32, 0), (1, 64, 32), (2, 128, 68), (2, 256, 72), (14, 512, 448), (2, 1024, 68), (2, 2048, 72), (114, 4096, 3136), (146, 8192, 4672), (258, 16384, 8256), (640, 32768, 16384), (1024, 65536, 32776), (1024, 131072, 32772), (7168, 262144, 229376), (1024, 524288, 32772), (1024, 1048576, 32776), (58368, 2097152, 1605632), (74752, 4194304, 2392064), (132096, 8388608, 4227072), (524287, 16, 8388608)] [0, 55404, 55400, 55396, 96, 55372, 55340, 0, 55404, 55404, 55404, 53356, 51308, 49152, 39020, 22636, 0, 55404, 55404, 55404] (.step 0 (.early 1 (.load 2 (.load 3 (.load 5 (.load 6 (.step 4 (.step 7 (.early 8 (.early 9 (.early 10 (.load 11 (.load 12 (.load 14 (.load 15 (.step 13 (.step 16 (.early 17 (.early 18 (.early 19 .done))))))))))))))))))))) .none))
def h15 : Hint := (.seq .none (.seq .none .none))
def F27 (x0 : Value) (w : World) (R : Value → World → Prop) (E : Pan) : Prop :=
 opK Tryd.prog E (xV (Instr.box 25 x0)) w fun p8 w_2 =>
 opK Tryd.prog E (xV (Instr.loadAt 25 p8)) w_2 fun a1z w_4 =>
 opK Tryd.prog E (xCall (Value.func (.func 66) #[] #[]) [a1z]) w_4 fun U1 w_6 =>
 opK Tryd.prog E (xNil U1) w_6 fun a1A w_8 =>
 opK Tryd.prog E (xV (Instr.fieldAt 92 a1A 2)) w_8 fun a4F l0 =>
 opK Tryd.prog E (xV (Instr.loadAt 34 a4F)) l0 fun Y9 q9 =>
 R Y9 q9
noncomputable def c27 : Code := Tryd.f27.body.getD .skip
def h27 : Hint := (.seq .none (.seq .none .none))
theorem c3r (x0 : Value) (w : World) (R : Value → World → Prop) (E : Pan) : F27 x0 w R E = callX Tryd.prog [.tmp 2] c27 h27 [x0] w R E := by kernel_rfl
theorem c3s {x0 : Value} {w : World} {R : Value → World → Prop} {E : Pan} (h : F27 x0 w R E) : Cv Tryd.prog 27 #[x0] w R E := by
 refine f8 (args := [x0]) (c := c27) (h := h27) (rs := [.tmp 2]) Tryd.func27 (by kernel_rfl) (by kernel_rfl) (Nat.le_of_ble_eq_true (by kernel_rfl)) (by kernel_rfl) (by kernel_rfl) (by kernel_rfl) ?_
 rw [← c3r]
 exact h
def b0O (x3 : Value) (w : World) (R : Value → World → Prop) (E : Pan) : Prop :=
 ∀ _τ : Fr, (opK Tryd.prog E (xV (Instr.loadAt 93 x3)) w fun c3t s4 =>
 R c3t s4)
def F57 (x0 : Value) (w : World) (R : Value → World → Prop) (E : Pan) : Prop :=
 opK Tryd.prog E (xV (Instr.build 92 #[])) w fun a8O w_2 =>
 opK Tryd.prog E (xV (Instr.box 92 a8O)) w_2 fun a4G w_4 =>
 opK Tryd.prog E (xV (Instr.alloc 93 true (.tuple #[]))) w_4 fun a7j w_6 =>
 opK Tryd.prog E (xU (Instr.storeAt 93 a7j a4G)) w_6 fun _z_7 w_8 =>
 opK Tryd.prog E (xV (Instr.alloc 139 true (.tuple #[]))) w_8 fun b7X l0 =>
 opK Tryd.prog E (xV (Instr.makeFunc (.func 89) #[] #[a7j, b7X])) l0 fun a7Y q9 =>
 opK Tryd.prog E (xU (Instr.storeAt 139 b7X a7Y)) q9 fun _z_13 o7 =>
 xcut (fun _ s5 => b0O a7j s5 R E) fun j1 =>
 opK Tryd.prog E (xV (Instr.loadAt 139 b7X)) o7 fun d0T r7 =>
 opK Tryd.prog E (xCall d0T [x0, (Value.int .i64 1)]) r7 fun c3u u2 =>
 opK Tryd.prog E (xV (Op.unary .not c3u)) u2 fun c3v u5 =>
 xcond c3v
 (j1 [] u5)
 (opK Tryd.prog E (xV (Instr.loadAt 93 a7j)) u5 fun c3w y5 =>
 opK Tryd.prog E (xNil c3w) y5 fun c3x C1 =>
 opK Tryd.prog E (xV (Instr.fieldAt 92 c3x 3)) C1 fun a7Z C5 =>
 opK Tryd.prog E (xV (Instr.loadAt 4 a7Z)) C5 fun c3y B8 =>
 xcond c3y
 (opK Tryd.prog E (xV (Instr.loadAt 93 a7j)) B8 fun c3z C8 =>
 opK Tryd.prog E (xNil c3z) C8 fun c3A G1 =>
 opK Tryd.prog E (xV (Instr.fieldAt 92 c3A 2)) G1 fun c3B F6 =>
 opK Tryd.prog E (xU (Instr.storeAt 34 c3B (Value.int .i64 30))) F6 fun _z_39 G2 =>
 j1 [] G2)
 (opK Tryd.prog E (xV (Instr.loadAt 93 a7j)) B8 fun c3C K5 =>
 opK Tryd.prog E (xNil c3C) K5 fun b0P J1 =>
 opK Tryd.prog E (xV (Instr.fieldAt 92 b0P 4)) J1 fun b0Q N3 =>
 opK Tryd.prog E (xV (Instr.loadAt 4 b0Q)) N3 fun c3D P9 =>
 xcond c3D
 (opK Tryd.prog E (xV (Instr.loadAt 93 a7j)) P9 fun b0R M6 =>
 opK Tryd.prog E (xNil b0R) M6 fun b0S R6 =>
 opK Tryd.prog E (xV (Instr.fieldAt 92 b0S 2)) R6 fun c3E U2 =>
 opK Tryd.prog E (xU (Instr.storeAt 34 c3E (Value.int .i64 31))) U2 fun _z_55 W3 =>
 j1 [] W3)
 (j1 [] P9)))
noncomputable def c57 : Code := Tryd.f57.body.getD .skip
def h57 : Hint := (.seq .none (.seq .none (.seq .none (.seq .none (.cut [] (.seq .none (.block (.seq .none (.cond .none (.seq .none (.cond .none (.seq .none (.cond .none .none)))))))) (.seq .none .none))))))
theorem c3F (x0 : Value) (w : World) (R : Value → World → Prop) (E : Pan) : F57 x0 w R E = callX Tryd.prog [.tmp 2] c57 h57 [x0] w R E := by kernel_rfl
theorem c3G {x0 : Value} {w : World} {R : Value → World → Prop} {E : Pan} (h : F57 x0 w R E) : Cv Tryd.prog 57 #[x0] w R E := by
 refine f8 (args := [x0]) (c := c57) (h := h57) (rs := [.tmp 2]) Tryd.func57 (by kernel_rfl) (by kernel_rfl) (Nat.le_of_ble_eq_true (by kernel_rfl)) (by kernel_rfl) (by kernel_rfl) (by kernel_rfl) ?_
 rw [← c3F]
 exact h
def F66 (x0 : Value) (w : World) (R : Value → World → Prop) (E : Pan) : Prop :=
 opK Tryd.prog E (xV (Instr.box 25 x0)) w fun p8 w_2 =>
 dX w_2 fun w_3 =>
 qP Tryd.prog (xV (Instr.fieldAt 25 p8 0)) fun a8P =>
 qP Tryd.prog (xV (Instr.fieldAt 25 p8 1)) fun a5G =>
 qL Tryd.prog w_3 (blk a8P) (xV (Instr.loadAt 22 a8P)) fun d3x =>
 qL Tryd.prog w_3 (blk a5G) (xV (Instr.loadAt 23 a5G)) fun a7k =>
 opK Tryd.prog E (xCall (Value.func (.func 95) #[] #[]) [d3x, (Value.func (.func 96) #[] #[])]) w_3 fun b7Y w_9 =>
 keepX [(blk a5G)] w_3 w_9 (opK Tryd.prog E (xCall (Value.func (.func 97) #[] #[]) [a7k, (Value.func (.func 98) #[] #[])]) w_9 fun d0U Q0 =>
 keepX [] w_9 Q0 (opK Tryd.prog E (xV (Instr.buildSlice 172 2 #[(0, b7Y), (1, d0U)])) Q0 fun d0V a1X =>
 keepX [] Q0 a1X (opK Tryd.prog E (xCall (Value.func (.func 94) #[] #[]) [d0V]) a1X fun c3H a5H =>
 keepX [] a1X a5H (opK Tryd.prog E (xCall (Value.func (.func 57) #[] #[]) [c3H]) a5H fun c3I Z4 =>
 keepX [] a5H Z4 (R c3I Z4)))))
noncomputable def c66 : Code := Tryd.f66.body.getD .skip
def h66 : Hint := (.seq .none (.seq (.reg [(0, 8, 2), (1, 16, 8), (2, 32, 16), (0, 64, 2), (8, 128, 64), (20, 256, 128), (36, 512, 288), (96, 1024, 512), (128, 2048, 1024), (511, 4, 2048)] [18, 16, 16, 18, 2, 0, 0, 0, 0, 18] (.early 0 (.early 3 (.load 1 (.load 4 (.step 2 (.step 5 (.step 6 (.step 7 (.step 8 (.early 9 .done))))))))))) .none))
theorem c3J (x0 : Value) (w : World) (R : Value → World → Prop) (E : Pan) : F66 x0 w R E = callX Tryd.prog [.tmp 2] c66 h66 [x0] w R E := by kernel_rfl
theorem c3K {x0 : Value} {w : World} {R : Value → World → Prop} {E : Pan} (h : F66 x0 w R E) : Cv Tryd.prog 66 #[x0] w R E := by
 refine f8 (args := [x0]) (c := c66) (h := h66) (rs := [.tmp 2]) Tryd.func66 (by kernel_rfl) (by kernel_rfl) (Nat.le_of_ble_eq_true (by kernel_rfl)) (by kernel_rfl) (by kernel_rfl) (by kernel_rfl) ?_
 rw [← c3J]
 exact h
def b0T (w : World) (R : Value → World → Prop) (_E : Pan) : Prop :=
 ∀ _τ : Fr, (R (Value.bool true) w)
def b6n (x1 x2 x3 x9 x10 x11 : Value) (w : World) (next2 : List Value → World → Prop) (j1 : List Value → World → Prop) (R : Value → World → Prop) (E : Pan) : Prop :=
 opK Tryd.prog E (xBin .lss 3 (.tmp 11) (.tmp 10) x11 x10) w fun a8a w_6 =>
 xcond a8a
 (opK Tryd.prog E (xV (Instr.indexAt 97 x9 x11)) w_6 fun a8b w_8 =>
 opK Tryd.prog E (xV (Instr.loadAt 141 a8b)) w_8 fun a2p l0 =>
 dX l0 fun Q0 =>
 qL Tryd.prog Q0 (blk x2) (xV (Instr.loadAt 93 x2)) fun c3L =>
 opK Tryd.prog E (xCall (Value.func (.func 90) #[] #[]) [c3L, a2p, x1]) Q0 fun a5I o7 =>
 keepX [] Q0 o7 (qP Tryd.prog (xV (Op.unary .not a5I)) fun a0h =>
 qP Tryd.prog (gsem (asB a0h) false (xBin .add 3 (.tmp 24) (.const (Value.int .i64 1)) (gval (asB a0h) false x1) (Value.int .i64 1))) fun c3M =>
 qL Tryd.prog o7 (blk x3) (gsem (asB a0h) false (xV (Instr.loadAt 139 x3))) fun c3N =>
 opK Tryd.prog E (gsem (asB a0h) false (xInvoke (gval (asB a0h) false a2p) "gnomon/tree.parts" [])) o7 fun c3O a4H =>
 keepX [(blk x3)] o7 a4H (opK Tryd.prog E (gsem (asB a0h) false (xCall c3N [c3O, c3M])) a4H fun c3P a5J =>
 keepX [] a4H a5J (qP Tryd.prog (gsem (asB a0h) false (xV (Op.unary .not c3P))) fun c3Q =>
 qP Tryd.prog (xPick a0h (Value.bool true) c3Q) fun c3R =>
 xcond c3R
 (R (Value.bool false) a5J)
 (opK Tryd.prog E (xBin .add 3 (.tmp 11) (.const (Value.int .i64 1)) x11 (Value.int .i64 1)) a5J fun c3S a8Q =>
 next2 [c3S] a8Q)))))
 (j1 [] w_6)
def F89 (x0 x1 x2 x3 : Value) (w : World) (R : Value → World → Prop) (E : Pan) : Prop :=
 xcut (fun _ w_2 => b0T w_2 R E) fun j1 =>
 opK Tryd.prog E (xBuiltin .len #[97] 3 [false] [x0]) w fun b3L w_4 =>
 xloop [11] [(Value.int .i64 0)] w_4 fun τ_26 a2H next2 =>
 b6n x1 x2 x3 x0 b3L (τ_26 11) a2H next2 j1 R E
noncomputable def c89 : Code := Tryd.f89.body.getD .skip
def h89 : Hint := (.seq .none (.cut [] (.seq .none (.block (.loop [11] (.seq .none (.seq (.cond .none .none) (.seq (.block (.seq .none (.seq (.reg [(0, 32768, 4), (0, 65536, 256), (0, 131072, 2), (7, 262144, 229376), (8, 524288, 262144), (24, 1048576, 524288), (32, 2097152, 1048584), (32, 4194304, 1048832), (160, 8388608, 5242880), (32, 16777216, 1048578), (544, 33554432, 17825792), (1376, 67108864, 45088768), (2080, 134217728, 68157440), (4128, 268435456, 135266304)] [64, 65, 65, 0, 65, 65, 1, 65, 64, 65, 65, 0, 65, 65] (.early 1 (.early 2 (.load 0 (.step 3 (.early 4 (.early 5 (.early 7 (.early 9 (.early 10 (.load 6 (.step 8 (.step 11 (.early 12 (.early 13 .done))))))))))))))) (.cond (.seq .none .none) .none)))) .none)))))) (.seq .none .none)))
theorem c3T (x0 x1 x2 x3 : Value) (w : World) (R : Value → World → Prop) (E : Pan) : F89 x0 x1 x2 x3 w R E = callX Tryd.prog [.tmp 6] c89 h89 [x0, x1, x2, x3] w R E := by kernel_rfl
theorem c3U {x0 x1 x2 x3 : Value} {w : World} {R : Value → World → Prop} {E : Pan} (h : F89 x0 x1 x2 x3 w R E) : Cv Tryd.prog 89 #[x0, x1, x2, x3] w R E := by
 refine f8 (args := [x0, x1, x2, x3]) (c := c89) (h := h89) (rs := [.tmp 6]) Tryd.func89 (by kernel_rfl) (by kernel_rfl) (Nat.le_of_ble_eq_true (by kernel_rfl)) (by kernel_rfl) (by kernel_rfl) (by kernel_rfl) ?_
 rw [← c3T]
 exact h
def b0U (w : World) (R : Value → World → Prop) (_E : Pan) : Prop :=
 ∀ _τ : Fr, (R (Value.bool true) w)
def F90 (x0 x1 x2 : Value) (w : World) (R : Value → World → Prop) (E : Pan) : Prop :=
 opK Tryd.prog E (xNil x0) w fun b0k w_2 =>
 opK Tryd.prog E (xV (Instr.fieldAt 92 b0k 0)) w_2 fun d0W w_4 =>
 opK Tryd.prog E (xV (Instr.loadAt 3 d0W)) w_4 fun a8a w_6 =>
 opK Tryd.prog E (xBin .add 3 (.tmp 12) (.const (Value.int .i64 1)) a8a (Value.int .i64 1)) w_6 fun a8b w_8 =>
 opK Tryd.prog E (xNil x0) w_8 fun a2p l0 =>
 opK Tryd.prog E (xV (Instr.fieldAt 92 a2p 0)) l0 fun a5K q9 =>
 opK Tryd.prog E (xU (Instr.storeAt 3 a5K a8b)) q9 fun _z_13 o7 =>
 opK Tryd.prog E (xNil x0) o7 fun b0V s4 =>
 opK Tryd.prog E (xV (Instr.fieldAt 92 b0V 0)) s4 fun b0W s5 =>
 opK Tryd.prog E (xV (Instr.loadAt 3 b0W)) s5 fun b0X r7 =>
 opK Tryd.prog E (xBin .gtr 3 (.tmp 19) (.const (Value.int .i64 4096)) b0X (Value.int .i64 4096)) r7 fun b0Y u2 =>
 xcond b0Y
 (opK Tryd.prog E (xNil x0) u2 fun c3V u5 =>
 opK Tryd.prog E (xV (Instr.fieldAt 92 c3V 2)) u5 fun c3W y5 =>
 opK Tryd.prog E (xU (Instr.storeAt 34 c3W (Value.int .i64 33))) y5 fun _z_27 C1 =>
 R (Value.bool false) C1)
 (opK Tryd.prog E (xBin .gtr 3 (.tmp 24) (.const (Value.int .i64 64)) x2 (Value.int .i64 64)) u2 fun c3X C5 =>
 xcond c3X
 (opK Tryd.prog E (xNil x0) C5 fun c3Y B8 =>
 opK Tryd.prog E (xV (Instr.fieldAt 92 c3Y 2)) B8 fun c3Z C8 =>
 opK Tryd.prog E (xU (Instr.storeAt 34 c3Z (Value.int .i64 32))) C8 fun _z_35 G1 =>
 R (Value.bool false) G1)
 (opK Tryd.prog E (xNil x0) C5 fun c4a F6 =>
 opK Tryd.prog E (xV (Instr.fieldAt 92 c4a 1)) F6 fun c4b G2 =>
 opK Tryd.prog E (xV (Instr.loadAt 3 c4b)) G2 fun c4c K5 =>
 opK Tryd.prog E (xBuiltin .max #[3, 3] 3 [false, false] [c4c, x2]) K5 fun c4d J1 =>
 opK Tryd.prog E (xNil x0) J1 fun c4e N3 =>
 opK Tryd.prog E (xV (Instr.fieldAt 92 c4e 1)) N3 fun c4f P9 =>
 opK Tryd.prog E (xU (Instr.storeAt 3 c4f c4d)) P9 fun _z_49 M6 =>
 opK Tryd.prog E (xNil x0) M6 fun c4g R6 =>
 opK Tryd.prog E (xV (Instr.fieldAt 92 c4g 3)) R6 fun c4h U2 =>
 opK Tryd.prog E (xV (Instr.loadAt 4 c4h)) U2 fun a8c W3 =>
 opK Tryd.prog E (gsem (asB a8c) false (xInvoke (gval (asB a8c) false x1) "gnomon/tree.form" [])) W3 fun c4i U3 =>
 opK Tryd.prog E (gsem (asB a8c) false (xV (Op.unary .not c4i))) U3 fun c4j W4 =>
 opK Tryd.prog E (xPick a8c (Value.bool true) c4j) W4 fun c4k Z5 =>
 opK Tryd.prog E (xNil x0) Z5 fun c4l S9 =>
 opK Tryd.prog E (xV (Instr.fieldAt 92 c4l 3)) S9 fun c4m W5 =>
 opK Tryd.prog E (xU (Instr.storeAt 4 c4m c4k)) W5 fun _z_67 Z6 =>
 xcut (fun _ U4 => b0U U4 R E) fun j1 =>
 opK Tryd.prog E (xCall (Value.func (.func 114) #[] #[]) [x1]) Z6 fun b6o Z7 =>
 opK Tryd.prog E (xV (Instr.extract b6o 0)) Z7 fun a5L a0p =>
 opK Tryd.prog E (xV (Instr.extract b6o 1)) a0p fun c4n X2 =>
 xcond c4n
 (opK Tryd.prog E (xNil x0) X2 fun c4o Z8 =>
 opK Tryd.prog E (xV (Instr.fieldAt 92 c4o 4)) Z8 fun c4p W6 =>
 opK Tryd.prog E (xV (Instr.loadAt 4 c4p)) W6 fun a2I a0Z =>
 opK Tryd.prog E (gsem (asB a2I) false (xCall (Value.func (.func 115) #[] #[]) [(gval (asB a2I) false a5L)])) a0Z fun c4q a2J =>
 opK Tryd.prog E (gsem (asB a2I) false (xV (Op.unary .not c4q))) a2J fun c4r a3R =>
 opK Tryd.prog E (xPick a2I (Value.bool true) c4r) a3R fun c4s a1Y =>
 opK Tryd.prog E (xNil x0) a1Y fun c4t a4I =>
 opK Tryd.prog E (xV (Instr.fieldAt 92 c4t 4)) a4I fun c4u a4J =>
 opK Tryd.prog E (xU (Instr.storeAt 4 c4u c4s)) a4J fun _z_93 a3S =>
 opK Tryd.prog E (xNil x0) a3S fun c4v a3T =>
 opK Tryd.prog E (xV (Instr.fieldAt 92 c4v 5)) a3T fun c4w a4K =>
 opK Tryd.prog E (xV (Instr.loadAt 47 c4w)) a4K fun c4x a1b =>
 opK Tryd.prog E (xCall (Value.func (.func 116) #[] #[]) [c4x, a5L]) a1b fun c1k a1N =>
 opK Tryd.prog E (xV (Op.unary .not c1k)) a1N fun c1l a3B =>
 xcond c1l
 (opK Tryd.prog E (xNil x0) a3B fun c1m a4L =>
 opK Tryd.prog E (xV (Instr.fieldAt 92 c1m 5)) a4L fun c1n a4M =>
 opK Tryd.prog E (xV (Instr.loadAt 47 c1n)) a4M fun c1o a8d =>
 opK Tryd.prog E (xV (Instr.buildSlice 47 1 #[(0, a5L)])) a8d fun c1p a8e =>
 opK Tryd.prog E (xBuiltin .append #[47, 47] 47 [false, false] [c1o, c1p]) a8e fun c1q a8f =>
 opK Tryd.prog E (xNil x0) a8f fun c1r a8g =>
 opK Tryd.prog E (xV (Instr.fieldAt 92 c1r 5)) a8g fun c1s a8h =>
 opK Tryd.prog E (xU (Instr.storeAt 47 c1s c1q)) a8h fun _z_119 a8i =>
 j1 [] a8i)
 (j1 [] a3B))
 (j1 [] X2)))
noncomputable def c90 : Code := Tryd.f90.body.getD .skip
def h90 : Hint := (.seq .none (.seq (.seq .none (.seq .none (.cond (.seq .none (.seq .none .none)) .none))) (.seq (.seq .none (.cond (.seq .none (.seq .none .none)) .none)) (.seq .none (.seq .none (.cut [] (.seq .none (.seq .none (.cond (.seq .none (.seq .none (.cond .none .none))) .none))) (.seq .none .none)))))))
theorem c4y (x0 x1 x2 : Value) (w : World) (R : Value → World → Prop) (E : Pan) : F90 x0 x1 x2 w R E = callX Tryd.prog [.tmp 6] c90 h90 [x0, x1, x2] w R E := by kernel_rfl
theorem c4z {x0 x1 x2 : Value} {w : World} {R : Value → World → Prop} {E : Pan} (h : F90 x0 x1 x2 w R E) : Cv Tryd.prog 90 #[x0, x1, x2] w R E := by
 refine f8 (args := [x0, x1, x2]) (c := c90) (h := h90) (rs := [.tmp 6]) Tryd.func90 (by kernel_rfl) (by kernel_rfl) (Nat.le_of_ble_eq_true (by kernel_rfl)) (by kernel_rfl) (by kernel_rfl) (by kernel_rfl) ?_
 rw [← c4y]
 exact h
def b0Z (x6 : Value) (w : World) (R : Value → World → Prop) (_E : Pan) : Prop :=
 ∀ _τ : Fr, (R x6 w)
def b6p (x6 x25 x26 x27 : Value) (w : World) (next3 : List Value → World → Prop) (j2 : List Value → World → Prop) (_R : Value → World → Prop) (E : Pan) : Prop :=
 opK Tryd.prog E (xBin .lss 3 (.tmp 27) (.tmp 26) x27 x26) w fun d0X w_8 =>
 xcond d0X
 (opK Tryd.prog E (xV (Instr.indexAt 172 x25 x27)) w_8 fun d0Y l0 =>
 opK Tryd.prog E (xV (Instr.loadAt 97 d0Y)) l0 fun c4A q9 =>
 opK Tryd.prog E (xBuiltin .append #[97, 97] 97 [false, false] [x6, c4A]) q9 fun c4B o7 =>
 opK Tryd.prog E (xBin .add 3 (.tmp 27) (.const (Value.int .i64 1)) x27 (Value.int .i64 1)) o7 fun c4C s4 =>
 next3 [c4B, c4C] s4)
 (j2 [x6] w_8)
def b1a (x0 x3 : Value) (w : World) (R : Value → World → Prop) (E : Pan) : Prop :=
 ∀ _τ : Fr, (opK Tryd.prog E (xCall (Value.func (.func 120) #[] #[]) [(Value.slice none 0 0), x3]) w fun d0Z w_2 =>
 xcut (fun l_3 w_4 => b0Z (nth l_3 0) w_4 R E) fun j2 =>
 opK Tryd.prog E (xBuiltin .len #[172] 3 [false] [x0]) w_2 fun d1a w_6 =>
 xloop [6, 27] [d0Z, (Value.int .i64 0)] w_6 fun τ_17 s5 next3 =>
 b6p (τ_17 6) x0 d1a (τ_17 27) s5 next3 j2 R E)
def b1b (_x0 x3 _x9 _x10 x11 : Value) (w : World) (next4 : List Value → World → Prop) (_R : Value → World → Prop) (E : Pan) : Prop :=
 ∀ _τ : Fr, (opK Tryd.prog E (xBin .add 3 (.tmp 11) (.const (Value.int .i64 1)) x11 (Value.int .i64 1)) w fun b1c y5 =>
 next4 [x3, b1c] y5)
def b6q (x0 x3 x9 x10 x11 : Value) (w : World) (next4 : List Value → World → Prop) (j1 : List Value → World → Prop) (R : Value → World → Prop) (E : Pan) : Prop :=
 opK Tryd.prog E (xBin .lss 3 (.tmp 11) (.tmp 10) x11 x10) w fun c4D u5 =>
 xcond c4D
 (xcut (fun b7Z C1 => b1b x0 (nth b7Z 0) x9 x10 x11 C1 next4 R E) fun j5 =>
 opK Tryd.prog E (xV (Instr.indexAt 172 x9 x11)) u5 fun c4E C5 =>
 opK Tryd.prog E (xV (Instr.loadAt 97 c4E)) C5 fun c4F B8 =>
 opK Tryd.prog E (xBuiltin .len #[97] 3 [false] [c4F]) B8 fun b1d C8 =>
 opK Tryd.prog E (xBin .add 3 (.tmp 15) (.tmp 17) x3 b1d) C8 fun a5M G1 =>
 opK Tryd.prog E (xBin .lss 3 (.tmp 19) (.const (Value.int .i64 0)) a5M (Value.int .i64 0)) G1 fun c4G F6 =>
 xcond c4G
 (opK Tryd.prog E (xV (Instr.makeInterface 9 (Value.string ⟨#[108, 101, 110, 32, 111, 117, 116, 32, 111, 102, 32, 114, 97, 110, 103, 101]⟩))) F6 fun c4H G2 =>
 opK Tryd.prog E (xV (Instr.panic c4H)) G2 fun _z_41 K5 =>
 j5 [a5M] K5)
 (j5 [a5M] F6))
 (j1 [x3] u5)
def F94 (x0 : Value) (w : World) (R : Value → World → Prop) (E : Pan) : Prop :=
 xcut (fun d3y r7 => b1a x0 (nth d3y 0) r7 R E) fun j1 =>
 opK Tryd.prog E (xBuiltin .len #[172] 3 [false] [x0]) w fun c4I u2 =>
 xloop [3, 11] [(Value.int .i64 0), (Value.int .i64 0)] u2 fun τ_43 J1 next4 =>
 b6q x0 (τ_43 3) x0 c4I (τ_43 11) J1 next4 j1 R E
noncomputable def c94 : Code := Tryd.f94.body.getD .skip
def h94 : Hint := (.seq .none (.seq .none (.cut [3] (.seq .none (.block (.loop [3, 11] (.seq .none (.seq (.cond .none .none) (.cut [3] (.block (.seq .none (.seq .none (.seq .none (.cond .none .none))))) .none)))))) (.seq .none (.cut [6] (.seq .none (.block (.loop [6, 27] (.seq .none (.seq (.cond .none .none) (.seq (.block (.seq .none .none)) .none)))))) (.seq .none .none))))))
theorem c4J (x0 : Value) (w : World) (R : Value → World → Prop) (E : Pan) : F94 x0 w R E = callX Tryd.prog [.tmp 2] c94 h94 [x0] w R E := by kernel_rfl
theorem c4K {x0 : Value} {w : World} {R : Value → World → Prop} {E : Pan} (h : F94 x0 w R E) : Cv Tryd.prog 94 #[x0] w R E := by
 refine f8 (args := [x0]) (c := c94) (h := h94) (rs := [.tmp 2]) Tryd.func94 (by kernel_rfl) (by kernel_rfl) (Nat.le_of_ble_eq_true (by kernel_rfl)) (by kernel_rfl) (by kernel_rfl) (by kernel_rfl) ?_
 rw [← c4J]
 exact h
def b1e (x5 : Value) (w : World) (R : Value → World → Prop) (_E : Pan) : Prop :=
 ∀ _τ : Fr, (R x5 w)
def b6r (x1 x5 x8 x9 x10 : Value) (w : World) (next2 : List Value → World → Prop) (j1 : List Value → World → Prop) (_R : Value → World → Prop) (E : Pan) : Prop :=
 opK Tryd.prog E (xBin .lss 3 (.tmp 10) (.tmp 9) x10 x9) w fun a4N w_6 =>
 xcond a4N
 (opK Tryd.prog E (xV (Instr.indexAt 22 x8 x10)) w_6 fun a2q w_8 =>
 opK Tryd.prog E (xV (Instr.loadAt 67 a2q)) w_8 fun a2r l0 =>
 opK Tryd.prog E (xV (Instr.alloc 67 true (.tuple #[]))) l0 fun Y9 q9 =>
 opK Tryd.prog E (xU (Instr.storeAt 67 Y9 a2r)) q9 fun _z_13 o7 =>
 opK Tryd.prog E (xV (Instr.loadAt 67 Y9)) o7 fun X3 s4 =>
 opK Tryd.prog E (xCall x1 [X3]) s4 fun X4 s5 =>
 opK Tryd.prog E (xV (Instr.buildSlice 97 1 #[(0, X4)])) s5 fun X5 r7 =>
 opK Tryd.prog E (xBuiltin .append #[97, 97] 97 [false, false] [x5, X5]) r7 fun X6 u2 =>
 opK Tryd.prog E (xBin .add 3 (.tmp 10) (.const (Value.int .i64 1)) x10 (Value.int .i64 1)) u2 fun a1d u5 =>
 next2 [X6, a1d] u5)
 (j1 [x5] w_6)
def F95 (x0 x1 : Value) (w : World) (R : Value → World → Prop) (E : Pan) : Prop :=
 xcut (fun l_1 w_2 => b1e (nth l_1 0) w_2 R E) fun j1 =>
 opK Tryd.prog E (xBuiltin .len #[22] 3 [false] [x0]) w fun a1B w_4 =>
 xloop [5, 10] [(Value.slice none 0 0), (Value.int .i64 0)] w_4 fun τ_25 y5 next2 =>
 b6r x1 (τ_25 5) x0 a1B (τ_25 10) y5 next2 j1 R E
noncomputable def c95 : Code := Tryd.f95.body.getD .skip
def h95 : Hint := (.seq .none (.seq .none (.cut [5] (.seq .none (.block (.loop [5, 10] (.seq .none (.seq (.cond .none .none) (.seq (.block (.seq .none .none)) .none)))))) (.seq .none .none))))
theorem c4L (x0 x1 : Value) (w : World) (R : Value → World → Prop) (E : Pan) : F95 x0 x1 w R E = callX Tryd.prog [.tmp 4] c95 h95 [x0, x1] w R E := by kernel_rfl
theorem c4M {x0 x1 : Value} {w : World} {R : Value → World → Prop} {E : Pan} (h : F95 x0 x1 w R E) : Cv Tryd.prog 95 #[x0, x1] w R E := by
 refine f8 (args := [x0, x1]) (c := c95) (h := h95) (rs := [.tmp 4]) Tryd.func95 (by kernel_rfl) (by kernel_rfl) (Nat.le_of_ble_eq_true (by kernel_rfl)) (by kernel_rfl) (by kernel_rfl) (by kernel_rfl) ?_
 rw [← c4L]
 exact h
def F96 (x0 : Value) (w : World) (R : Value → World → Prop) (E : Pan) : Prop :=
 opK Tryd.prog E (xV (Instr.box 67 x0)) w fun p8 w_2 =>
 opK Tryd.prog E (xV (Instr.loadAt 67 p8)) w_2 fun a1z w_4 =>
 opK Tryd.prog E (xV (Instr.build 175 #[(0, a1z)])) w_4 fun U1 w_6 =>
 opK Tryd.prog E (xV (Instr.makeInterface 175 U1)) w_6 fun a1A w_8 =>
 R a1A w_8
noncomputable def c96 : Code := Tryd.f96.body.getD .skip
def h96 : Hint := (.seq .none (.seq .none .none))
theorem c4N (x0 : Value) (w : World) (R : Value → World → Prop) (E : Pan) : F96 x0 w R E = callX Tryd.prog [.tmp 2] c96 h96 [x0] w R E := by kernel_rfl
theorem c4O {x0 : Value} {w : World} {R : Value → World → Prop} {E : Pan} (h : F96 x0 w R E) : Cv Tryd.prog 96 #[x0] w R E := by
 refine f8 (args := [x0]) (c := c96) (h := h96) (rs := [.tmp 2]) Tryd.func96 (by kernel_rfl) (by kernel_rfl) (Nat.le_of_ble_eq_true (by kernel_rfl)) (by kernel_rfl) (by kernel_rfl) (by kernel_rfl) ?_
 rw [← c4N]
 exact h
def b1f (x5 : Value) (w : World) (R : Value → World → Prop) (_E : Pan) : Prop :=
 ∀ _τ : Fr, (R x5 w)
def b6s (x1 x5 x8 x9 x10 : Value) (w : World) (next2 : List Value → World → Prop) (j1 : List Value → World → Prop) (_R : Value → World → Prop) (E : Pan) : Prop :=
 opK Tryd.prog E (xBin .lss 3 (.tmp 10) (.tmp 9) x10 x9) w fun a4N w_6 =>
 xcond a4N
 (opK Tryd.prog E (xV (Instr.indexAt 23 x8 x10)) w_6 fun a2q w_8 =>
 opK Tryd.prog E (xV (Instr.loadAt 88 a2q)) w_8 fun a2r l0 =>
 opK Tryd.prog E (xV (Instr.alloc 88 true (.tuple #[]))) l0 fun Y9 q9 =>
 opK Tryd.prog E (xU (Instr.storeAt 88 Y9 a2r)) q9 fun _z_13 o7 =>
 opK Tryd.prog E (xV (Instr.loadAt 88 Y9)) o7 fun X3 s4 =>
 opK Tryd.prog E (xCall x1 [X3]) s4 fun X4 s5 =>
 opK Tryd.prog E (xV (Instr.buildSlice 97 1 #[(0, X4)])) s5 fun X5 r7 =>
 opK Tryd.prog E (xBuiltin .append #[97, 97] 97 [false, false] [x5, X5]) r7 fun X6 u2 =>
 opK Tryd.prog E (xBin .add 3 (.tmp 10) (.const (Value.int .i64 1)) x10 (Value.int .i64 1)) u2 fun a1d u5 =>
 next2 [X6, a1d] u5)
 (j1 [x5] w_6)
def F97 (x0 x1 : Value) (w : World) (R : Value → World → Prop) (E : Pan) : Prop :=
 xcut (fun l_1 w_2 => b1f (nth l_1 0) w_2 R E) fun j1 =>
 opK Tryd.prog E (xBuiltin .len #[23] 3 [false] [x0]) w fun a1B w_4 =>
 xloop [5, 10] [(Value.slice none 0 0), (Value.int .i64 0)] w_4 fun τ_25 y5 next2 =>
 b6s x1 (τ_25 5) x0 a1B (τ_25 10) y5 next2 j1 R E
noncomputable def c97 : Code := Tryd.f97.body.getD .skip
def h97 : Hint := (.seq .none (.seq .none (.cut [5] (.seq .none (.block (.loop [5, 10] (.seq .none (.seq (.cond .none .none) (.seq (.block (.seq .none .none)) .none)))))) (.seq .none .none))))
theorem c4P (x0 x1 : Value) (w : World) (R : Value → World → Prop) (E : Pan) : F97 x0 x1 w R E = callX Tryd.prog [.tmp 4] c97 h97 [x0, x1] w R E := by kernel_rfl
theorem c4Q {x0 x1 : Value} {w : World} {R : Value → World → Prop} {E : Pan} (h : F97 x0 x1 w R E) : Cv Tryd.prog 97 #[x0, x1] w R E := by
 refine f8 (args := [x0, x1]) (c := c97) (h := h97) (rs := [.tmp 4]) Tryd.func97 (by kernel_rfl) (by kernel_rfl) (Nat.le_of_ble_eq_true (by kernel_rfl)) (by kernel_rfl) (by kernel_rfl) (by kernel_rfl) ?_
 rw [← c4P]
 exact h
def F98 (x0 : Value) (w : World) (R : Value → World → Prop) (E : Pan) : Prop :=
 opK Tryd.prog E (xV (Instr.box 88 x0)) w fun p8 w_2 =>
 opK Tryd.prog E (xV (Instr.loadAt 88 p8)) w_2 fun a1z w_4 =>
 opK Tryd.prog E (xV (Instr.build 177 #[(0, a1z)])) w_4 fun U1 w_6 =>
 opK Tryd.prog E (xV (Instr.makeInterface 177 U1)) w_6 fun a1A w_8 =>
 R a1A w_8
noncomputable def c98 : Code := Tryd.f98.body.getD .skip
def h98 : Hint := (.seq .none (.seq .none .none))
theorem c4R (x0 : Value) (w : World) (R : Value → World → Prop) (E : Pan) : F98 x0 w R E = callX Tryd.prog [.tmp 2] c98 h98 [x0] w R E := by kernel_rfl
theorem c4S {x0 : Value} {w : World} {R : Value → World → Prop} {E : Pan} (h : F98 x0 w R E) : Cv Tryd.prog 98 #[x0] w R E := by
 refine f8 (args := [x0]) (c := c98) (h := h98) (rs := [.tmp 2]) Tryd.func98 (by kernel_rfl) (by kernel_rfl) (Nat.le_of_ble_eq_true (by kernel_rfl)) (by kernel_rfl) (by kernel_rfl) (by kernel_rfl) ?_
 rw [← c4R]
 exact h
def b3M (x0 : Value) (w : World) (R : Value → World → Prop) (E : Pan) : Prop :=
 opK Tryd.prog E (xV (Instr.typeAssert x0 141 175 true)) w fun c4T w_2 =>
 opK Tryd.prog E (xV (Instr.extract c4T 1)) w_2 fun a1B w_4 =>
 opK Tryd.prog E (xV (Instr.extract c4T 0)) w_4 fun a1e w_6 =>
 xcond a1B
 (opK Tryd.prog E (xV (Instr.alloc 175 true (.tuple #[]))) w_6 fun c4U w_8 =>
 opK Tryd.prog E (xU (Instr.storeAt 175 c4U a1e)) w_8 fun _z_9 l0 =>
 opK Tryd.prog E (xV (Instr.fieldAt 175 c4U 0)) l0 fun b1g q9 =>
 opK Tryd.prog E (xV (Instr.fieldAt 67 b1g 0)) q9 fun b1h o7 =>
 opK Tryd.prog E (xV (Instr.loadAt 9 b1h)) o7 fun a8j s4 =>
 R (Value.tuple #[a8j, (Value.bool true)]) s4)
 (opK Tryd.prog E (xV (Instr.typeAssert x0 141 177 true)) w_6 fun b6t s5 =>
 opK Tryd.prog E (xV (Instr.extract b6t 1)) s5 fun b1i r7 =>
 opK Tryd.prog E (xV (Instr.extract b6t 0)) r7 fun b1j u2 =>
 xcond b1i
 (opK Tryd.prog E (xV (Instr.alloc 177 true (.tuple #[]))) u2 fun b0l u5 =>
 opK Tryd.prog E (xU (Instr.storeAt 177 b0l b1j)) u5 fun _z_25 y5 =>
 dX y5 fun a2H =>
 qP Tryd.prog (xV (Instr.fieldAt 177 b0l 0)) fun c4V =>
 qP Tryd.prog (xV (Instr.fieldAt 88 c4V 1)) fun a7Z =>
 qP Tryd.prog (xV (Instr.fieldAt 177 b0l 0)) fun c4W =>
 qP Tryd.prog (xV (Instr.fieldAt 88 c4W 0)) fun b6u =>
 qL Tryd.prog a2H (blk a7Z) (xV (Instr.loadAt 9 a7Z)) fun c4X =>
 qL Tryd.prog a2H (blk b6u) (xV (Instr.loadAt 3 b6u)) fun b1k =>
 qP Tryd.prog (xBin .eql 3 (.tmp 22) (.const (Value.int .i64 1)) b1k (Value.int .i64 1)) fun a5N =>
 qP Tryd.prog (gsem (asB a5N) false (xV (Instr.fieldAt 177 b0l 0))) fun c4Y =>
 qP Tryd.prog (gsem (asB a5N) false (xV (Instr.fieldAt 88 c4Y 0))) fun b6v =>
 qL Tryd.prog a2H (blk b6v) (gsem (asB a5N) false (xV (Instr.loadAt 3 b6v))) fun c4Z =>
 qP Tryd.prog (gsem (asB a5N) false (xBin .eql 3 (.tmp 27) (.const (Value.int .i64 2)) c4Z (Value.int .i64 2))) fun c5a =>
 qP Tryd.prog (xPick a5N (Value.bool true) c5a) fun b1l =>
 R (Value.tuple #[c4X, b1l]) a2H)
 (opK Tryd.prog E (xV (Instr.typeAssert x0 141 96 true)) u2 fun b6w c5b =>
 opK Tryd.prog E (xV (Instr.extract b6w 1)) c5b fun c5c d3z =>
 opK Tryd.prog E (xV (Instr.extract b6w 0)) d3z fun c5d b8a =>
 xcond c5c
 (opK Tryd.prog E (xV (Instr.alloc 96 true (.tuple #[]))) b8a fun b0m a8R =>
 opK Tryd.prog E (xU (Instr.storeAt 96 b0m c5d)) a8R fun _z_48 b8b =>
 dX b8b fun M6 =>
 qP Tryd.prog (xV (Instr.fieldAt 96 b0m 0)) fun c5e =>
 qP Tryd.prog (xV (Instr.fieldAt 30 c5e 2)) fun b6x =>
 qP Tryd.prog (xV (Instr.fieldAt 96 b0m 0)) fun b1m =>
 qP Tryd.prog (xV (Instr.fieldAt 30 b1m 0)) fun b6y =>
 qL Tryd.prog M6 (blk b6x) (xV (Instr.loadAt 9 b6x)) fun c5f =>
 qL Tryd.prog M6 (blk b6y) (xV (Instr.loadAt 3 b6y)) fun c5g =>
 qP Tryd.prog (xBin .eql 3 (.tmp 38) (.const (Value.int .i64 2)) c5g (Value.int .i64 2)) fun a5O =>
 qP Tryd.prog (gsem (asB a5O) false (xV (Instr.fieldAt 96 b0m 0))) fun c5h =>
 qP Tryd.prog (gsem (asB a5O) false (xV (Instr.fieldAt 30 c5h 0))) fun b6z =>
 qL Tryd.prog M6 (blk b6z) (gsem (asB a5O) false (xV (Instr.loadAt 3 b6z))) fun c5i =>
 qP Tryd.prog (gsem (asB a5O) false (xBin .eql 3 (.tmp 43) (.const (Value.int .i64 4)) c5i (Value.int .i64 4))) fun c5j =>
 qP Tryd.prog (xPick a5O (Value.bool true) c5j) fun c5k =>
 R (Value.tuple #[c5f, c5k]) M6)
 (R (Value.tuple #[(Value.string ⟨#[]⟩), (Value.bool false)]) b8a)))
noncomputable def c5l : Code := Tryd.f114.body.getD .skip
def c5m : Hint := (.seq .none (.seq (.seq .none (.block (.seq .none (.cond (.seq .none (.seq .none .none)) (.seq .none (.cond (.seq .none (.seq (.reg [(0, 131072, 32), (1, 262144, 131072), (2, 524288, 262144), (0, 1048576, 32), (8, 2097152, 1048576), (16, 4194304, 2097152), (32, 8388608, 4194304), (64, 16777216, 8388608), (128, 33554432, 16777248), (384, 67108864, 50331648), (640, 134217728, 83886080), (1152, 268435456, 150994944), (2176, 536870912, 285212672), (135, 4, 524288), (16383, 8, 536870912)] [1060, 1060, 1056, 1060, 1060, 1028, 1060, 1060, 1060, 1060, 36, 1060, 1060, 1060, 1060] (.early 0 (.early 1 (.early 3 (.early 4 (.load 2 (.load 5 (.early 6 (.early 7 (.early 8 (.early 9 (.early 13 (.load 10 (.early 11 (.early 12 (.early 14 .done)))))))))))))))) .none)) (.seq .none (.cond (.seq .none (.seq (.reg [(0, 8589934592, 64), (1, 17179869184, 8589934592), (2, 34359738368, 17179869184), (0, 68719476736, 64), (8, 137438953472, 68719476736), (16, 274877906944, 137438953472), (32, 549755813888, 274877906944), (64, 1099511627776, 549755813888), (128, 2199023255552, 1099511627840), (384, 4398046511104, 3298534883328), (640, 8796093022208, 5497558138880), (1152, 17592186044416, 9895604649984), (2176, 35184372088832, 18691697672192), (135, 4, 34359738368), (16383, 8, 35184372088832)] [1060, 1060, 1056, 1060, 1060, 1028, 1060, 1060, 1060, 1060, 36, 1060, 1060, 1060, 1060] (.early 0 (.early 1 (.early 3 (.early 4 (.load 2 (.load 5 (.early 6 (.early 7 (.early 8 (.early 9 (.early 13 (.load 10 (.early 11 (.early 12 (.early 14 .done)))))))))))))))) .none)) .none)))))))) (.seq .none .none)))
theorem c1t (x0 : Value) (w : World) (R : Value → World → Prop) (E : Pan) : b3M x0 w R E = callX Tryd.prog [.tmp 2, .tmp 3] c5l c5m [x0] w R E := by kernel_rfl
theorem c1u {x0 : Value} {w : World} {R : Value → World → Prop} {E : Pan} (h : b3M x0 w R E) : Cv Tryd.prog 114 #[x0] w R E := by
 refine f8 (args := [x0]) (c := c5l) (h := c5m) (rs := [.tmp 2, .tmp 3]) Tryd.func114 (by kernel_rfl) (by kernel_rfl) (Nat.le_of_ble_eq_true (by kernel_rfl)) (by kernel_rfl) (by kernel_rfl) (by kernel_rfl) ?_
 rw [← c1t]
 exact h
def a8S (w : World) (R : Value → World → Prop) (_E : Pan) : Prop :=
 ∀ _τ : Fr, (R (Value.bool true) w)
def b3i (x21 : Value) (w : World) (next2 : List Value → World → Prop) (j1 : List Value → World → Prop) (R : Value → World → Prop) (E : Pan) : Prop :=
 opK Tryd.prog E (xV (Instr.next x21 true 0)) w fun b1n u2 =>
 opK Tryd.prog E (xV (Instr.extract b1n 0)) u2 fun c5n u5 =>
 xcond c5n
 (opK Tryd.prog E (xV (Instr.extract b1n 1)) u5 fun c5o y5 =>
 opK Tryd.prog E (xV (Instr.extract b1n 2)) y5 fun b6A C1 =>
 opK Tryd.prog E (xCall (Value.func (.func 125) #[] #[]) [b6A]) C1 fun c5p C5 =>
 opK Tryd.prog E (xV (Op.unary .not c5p)) C5 fun a1S B8 =>
 opK Tryd.prog E (gsem (asB a1S) false (xBin .eql 3 (.tmp 30) (.const (Value.int .i64 0)) (gval (asB a1S) false c5o) (Value.int .i64 0))) B8 fun a8k C8 =>
 opK Tryd.prog E (gsem (asB (gval (asB a1S) false a8k)) true (xCall (Value.func (.func 126) #[] #[]) [(gval (asB (gval (asB a1S) false a8k)) true b6A)])) C8 fun c5q G1 =>
 opK Tryd.prog E (gsem (asB (gval (asB a1S) false a8k)) true (xBin .neq 3 (.tmp 34) (.const (Value.int .i64 3)) c5q (Value.int .i64 3))) G1 fun c5r F6 =>
 opK Tryd.prog E (gsem (asB a1S) false (xPick (gval (asB a1S) false a8k) c5r (Value.bool false))) F6 fun c5s G2 =>
 opK Tryd.prog E (xPick a1S (Value.bool true) c5s) G2 fun c5t K5 =>
 xcond c5t
 (R (Value.bool false) K5)
 (next2 [] K5))
 (j1 [] u5)
def b3N (x0 : Value) (w : World) (R : Value → World → Prop) (E : Pan) : Prop :=
 opK Tryd.prog E (xBin .eql 9 (.tmp 5) (.const (Value.string ⟨#[]⟩)) x0 (Value.string ⟨#[]⟩)) w fun a8O w_2 =>
 opK Tryd.prog E (gsem (asB a8O) false (xCall (Value.func (.func 122) #[] #[]) [(gval (asB a8O) false x0)])) w_2 fun a1B w_4 =>
 opK Tryd.prog E (gsem (asB a8O) false (xV (Op.unary .not a1B))) w_4 fun a1e w_6 =>
 opK Tryd.prog E (xPick a8O (Value.bool true) a1e) w_6 fun a4O w_8 =>
 opK Tryd.prog E (gsem (asB a4O) false (xCall (Value.func (.func 123) #[] #[]) [(gval (asB a4O) false x0)])) w_8 fun a2p l0 =>
 opK Tryd.prog E (xPick a4O (Value.bool true) a2p) l0 fun a5K q9 =>
 opK Tryd.prog E (gsem (asB a5K) false (xCall (Value.func (.func 124) #[] #[]) [(gval (asB a5K) false x0)])) q9 fun a5I o7 =>
 opK Tryd.prog E (xPick a5K (Value.bool true) a5I) o7 fun a0h s4 =>
 xcond a0h
 (R (Value.bool false) s4)
 (xcut (fun _ s5 => a8S s5 R E) fun j1 =>
 opK Tryd.prog E (xV (Instr.range 9 x0)) s4 fun c5u r7 =>
 xloop [] [] r7 fun _ J1 next2 =>
 b3i c5u J1 next2 j1 R E)
noncomputable def c5v : Code := Tryd.f115.body.getD .skip
def c5w : Hint := (.seq .none (.seq (.seq .none (.cond (.seq .none .none) .none)) (.cut [] (.seq .none (.block (.loop [] (.seq .none (.seq (.cond .none .none) (.block (.seq .none (.seq .none (.cond (.seq .none .none) .none))))))))) (.seq .none .none))))
theorem c1v (x0 : Value) (w : World) (R : Value → World → Prop) (E : Pan) : b3N x0 w R E = callX Tryd.prog [.tmp 2] c5v c5w [x0] w R E := by kernel_rfl
theorem c1w {x0 : Value} {w : World} {R : Value → World → Prop} {E : Pan} (h : b3N x0 w R E) : Cv Tryd.prog 115 #[x0] w R E := by
 refine f8 (args := [x0]) (c := c5v) (h := c5w) (rs := [.tmp 2]) Tryd.func115 (by kernel_rfl) (by kernel_rfl) (Nat.le_of_ble_eq_true (by kernel_rfl)) (by kernel_rfl) (by kernel_rfl) (by kernel_rfl) ?_
 rw [← c1v]
 exact h
def b3O (x0 x1 : Value) (w : World) (R : Value → World → Prop) (E : Pan) : Prop :=
 opK Tryd.prog E (xCall (Value.func (.func 127) #[] #[]) [x0, x1]) w fun b8c w_2 =>
 opK Tryd.prog E (xBin .geq 3 (.tmp 7) (.const (Value.int .i64 0)) b8c (Value.int .i64 0)) w_2 fun a8T w_4 =>
 R a8T w_4
noncomputable def c5x : Code := Tryd.f116.body.getD .skip
def c5y : Hint := (.seq .none (.seq .none .none))
theorem c1x (x0 x1 : Value) (w : World) (R : Value → World → Prop) (E : Pan) : b3O x0 x1 w R E = callX Tryd.prog [.tmp 4] c5x c5y [x0, x1] w R E := by kernel_rfl
theorem c1y {x0 x1 : Value} {w : World} {R : Value → World → Prop} {E : Pan} (h : b3O x0 x1 w R E) : Cv Tryd.prog 116 #[x0, x1] w R E := by
 refine f8 (args := [x0, x1]) (c := c5x) (h := c5y) (rs := [.tmp 4]) Tryd.func116 (by kernel_rfl) (by kernel_rfl) (Nat.le_of_ble_eq_true (by kernel_rfl)) (by kernel_rfl) (by kernel_rfl) (by kernel_rfl) ?_
 rw [← c1x]
 exact h
def a8U (x0 : Value) (w : World) (R : Value → World → Prop) (_E : Pan) : Prop :=
 ∀ _τ : Fr, (R x0 w)
def b3j (x0 x1 : Value) (w : World) (R : Value → World → Prop) (E : Pan) : Prop :=
 ∀ _τ : Fr, (xcut (fun l_1 w_2 => a8U (nth l_1 0) w_2 R E) fun j2 =>
 opK Tryd.prog E (xBuiltin .cap #[97] 3 [false] [x0]) w fun b3L w_4 =>
 opK Tryd.prog E (xBuiltin .len #[97] 3 [false] [x0]) w_4 fun a8a w_6 =>
 opK Tryd.prog E (xBin .sub 3 (.tmp 10) (.tmp 12) b3L a8a) w_6 fun a8b w_8 =>
 opK Tryd.prog E (xBin .sub 3 (.tmp 8) (.tmp 13) x1 a8b) w_8 fun a2p l0 =>
 opK Tryd.prog E (xBin .gtr 3 (.tmp 15) (.const (Value.int .i64 0)) a2p (Value.int .i64 0)) l0 fun a1f q9 =>
 xcond a1f
 (opK Tryd.prog E (xBuiltin .cap #[97] 3 [false] [x0]) q9 fun c5z o7 =>
 opK Tryd.prog E (xV (Instr.sliceAt 97 x0 none (some c5z) none)) o7 fun c5A s4 =>
 opK Tryd.prog E (xBuiltin .append #[97, 3] 97 [false, false] [c5A, a2p]) s4 fun c5B s5 =>
 opK Tryd.prog E (xBuiltin .len #[97] 3 [false] [x0]) s5 fun c5C r7 =>
 opK Tryd.prog E (xV (Instr.sliceAt 97 c5B none (some c5C) none)) r7 fun c5D u2 =>
 j2 [c5D] u2)
 (j2 [x0] q9))
def b8d (x0 x1 : Value) (w : World) (R : Value → World → Prop) (E : Pan) : Prop :=
 xcut (fun _ u5 => b3j x0 x1 u5 R E) fun j1 =>
 opK Tryd.prog E (xBin .lss 3 (.tmp 5) (.const (Value.int .i64 0)) x1 (Value.int .i64 0)) w fun d1b y5 =>
 xcond d1b
 (opK Tryd.prog E (xV (Instr.makeInterface 9 (Value.string ⟨#[99, 97, 110, 110, 111, 116, 32, 98, 101, 32, 110, 101, 103, 97, 116, 105, 118, 101]⟩))) y5 fun d1c C1 =>
 opK Tryd.prog E (xV (Instr.panic d1c)) C1 fun _z_29 C5 =>
 j1 [] C5)
 (j1 [] y5)
noncomputable def c5E : Code := Tryd.f120.body.getD .skip
def c5F : Hint := (.seq .none (.cut [] (.seq .none (.cond .none .none)) (.cut [0] (.seq .none (.seq .none (.cond .none .none))) (.seq .none .none))))
theorem c1z (x0 x1 : Value) (w : World) (R : Value → World → Prop) (E : Pan) : b8d x0 x1 w R E = callX Tryd.prog [.tmp 4] c5E c5F [x0, x1] w R E := by kernel_rfl
theorem c1A {x0 x1 : Value} {w : World} {R : Value → World → Prop} {E : Pan} (h : b8d x0 x1 w R E) : Cv Tryd.prog 120 #[x0, x1] w R E := by
 refine f8 (args := [x0, x1]) (c := c5E) (h := c5F) (rs := [.tmp 4]) Tryd.func120 (by kernel_rfl) (by kernel_rfl) (Nat.le_of_ble_eq_true (by kernel_rfl)) (by kernel_rfl) (by kernel_rfl) (by kernel_rfl) ?_
 rw [← c1z]
 exact h
def b3P (x0 : Value) (w : World) (R : Value → World → Prop) (E : Pan) : Prop :=
 opK Tryd.prog E (xCall (Value.func (.func 130) #[] #[]) [x0]) w fun a2K w_2 =>
 opK Tryd.prog E (xBin .gtr 3 (.tmp 4) (.const (Value.int .i64 32)) a2K (Value.int .i64 32)) w_2 fun a8V w_4 =>
 R a8V w_4
noncomputable def c5G : Code := Tryd.f123.body.getD .skip
def c5H : Hint := (.seq .none (.seq .none .none))
theorem c1B (x0 : Value) (w : World) (R : Value → World → Prop) (E : Pan) : b3P x0 w R E = callX Tryd.prog [.tmp 2] c5G c5H [x0] w R E := by kernel_rfl
theorem c1C {x0 : Value} {w : World} {R : Value → World → Prop} {E : Pan} (h : b3P x0 w R E) : Cv Tryd.prog 123 #[x0] w R E := by
 refine f8 (args := [x0]) (c := c5G) (h := c5H) (rs := [.tmp 2]) Tryd.func123 (by kernel_rfl) (by kernel_rfl) (Nat.le_of_ble_eq_true (by kernel_rfl)) (by kernel_rfl) (by kernel_rfl) (by kernel_rfl) ?_
 rw [← c1B]
 exact h
def a8W (x4 : Value) (w : World) (R : Value → World → Prop) (_E : Pan) : Prop :=
 ∀ _τ : Fr, (xcond x4
 (R (Value.bool true) w)
 (R (Value.bool false) w))
def b3Q (x0 : Value) (w : World) (R : Value → World → Prop) (E : Pan) : Prop :=
 xcut (fun l_1 w_2 => a8W (nth l_1 0) w_2 R E) fun j1 =>
 opK Tryd.prog E (xBin .eql 9 (.tmp 3) (.const (Value.string ⟨#[118, 97, 114]⟩)) x0 (Value.string ⟨#[118, 97, 114]⟩)) w fun a8V w_4 =>
 xcond a8V
 (j1 [a8V] w_4)
 (opK Tryd.prog E (xBin .eql 9 (.tmp 3) (.const (Value.string ⟨#[97, 114, 114, 97, 121]⟩)) x0 (Value.string ⟨#[97, 114, 114, 97, 121]⟩)) w_4 fun a5G w_6 =>
 xcond a5G
 (j1 [a5G] w_6)
 (opK Tryd.prog E (xBin .eql 9 (.tmp 3) (.const (Value.string ⟨#[105, 102]⟩)) x0 (Value.string ⟨#[105, 102]⟩)) w_6 fun a7k w_8 =>
 xcond a7k
 (j1 [a7k] w_8)
 (opK Tryd.prog E (xBin .eql 9 (.tmp 3) (.const (Value.string ⟨#[101, 108, 115, 101]⟩)) x0 (Value.string ⟨#[101, 108, 115, 101]⟩)) w_8 fun a7l l0 =>
 xcond a7l
 (j1 [a7l] l0)
 (opK Tryd.prog E (xBin .eql 9 (.tmp 3) (.const (Value.string ⟨#[119, 104, 105, 108, 101]⟩)) x0 (Value.string ⟨#[119, 104, 105, 108, 101]⟩)) l0 fun b0n q9 =>
 xcond b0n
 (j1 [b0n] q9)
 (opK Tryd.prog E (xBin .eql 9 (.tmp 3) (.const (Value.string ⟨#[97, 115, 115, 101, 114, 116]⟩)) x0 (Value.string ⟨#[97, 115, 115, 101, 114, 116]⟩)) q9 fun b6B o7 =>
 xcond b6B
 (j1 [b6B] o7)
 (opK Tryd.prog E (xBin .eql 9 (.tmp 3) (.const (Value.string ⟨#[97, 115, 115, 117, 109, 101]⟩)) x0 (Value.string ⟨#[97, 115, 115, 117, 109, 101]⟩)) o7 fun b6C s4 =>
 xcond b6C
 (j1 [b6C] s4)
 (opK Tryd.prog E (xBin .eql 9 (.tmp 3) (.const (Value.string ⟨#[115, 107, 105, 112]⟩)) x0 (Value.string ⟨#[115, 107, 105, 112]⟩)) s4 fun b6D s5 =>
 xcond b6D
 (j1 [b6D] s5)
 (opK Tryd.prog E (xBin .eql 9 (.tmp 3) (.const (Value.string ⟨#[105, 110, 112, 117, 116]⟩)) x0 (Value.string ⟨#[105, 110, 112, 117, 116]⟩)) s5 fun b6E r7 =>
 xcond b6E
 (j1 [b6E] r7)
 (opK Tryd.prog E (xBin .eql 9 (.tmp 3) (.const (Value.string ⟨#[116, 114, 117, 101]⟩)) x0 (Value.string ⟨#[116, 114, 117, 101]⟩)) r7 fun b6F u2 =>
 xcond b6F
 (j1 [b6F] u2)
 (opK Tryd.prog E (xBin .eql 9 (.tmp 3) (.const (Value.string ⟨#[102, 97, 108, 115, 101]⟩)) x0 (Value.string ⟨#[102, 97, 108, 115, 101]⟩)) u2 fun c5I u5 =>
 j1 [c5I] u5))))))))))
noncomputable def c5J : Code := Tryd.f124.body.getD .skip
def c5K : Hint := (.seq .none (.seq (.seq .none (.block (.cut [4] (.seq .none (.cond .none (.seq .none (.cond .none (.seq .none (.cond .none (.seq .none (.cond .none (.seq .none (.cond .none (.seq .none (.cond .none (.seq .none (.cond .none (.seq .none (.cond .none (.seq .none (.cond .none (.seq .none (.cond .none .none)))))))))))))))))))) (.cond (.seq .none .none) .none)))) (.seq .none .none)))
theorem c1D (x0 : Value) (w : World) (R : Value → World → Prop) (E : Pan) : b3Q x0 w R E = callX Tryd.prog [.tmp 2] c5J c5K [x0] w R E := by kernel_rfl
theorem c1E {x0 : Value} {w : World} {R : Value → World → Prop} {E : Pan} (h : b3Q x0 w R E) : Cv Tryd.prog 124 #[x0] w R E := by
 refine f8 (args := [x0]) (c := c5J) (h := c5K) (rs := [.tmp 2]) Tryd.func124 (by kernel_rfl) (by kernel_rfl) (Nat.le_of_ble_eq_true (by kernel_rfl)) (by kernel_rfl) (by kernel_rfl) (by kernel_rfl) ?_
 rw [← c1D]
 exact h
def b3R (x0 : Value) (w : World) (R : Value → World → Prop) (E : Pan) : Prop :=
 opK Tryd.prog E (xCall (Value.func (.func 126) #[] #[]) [x0]) w fun b3S w_2 =>
 opK Tryd.prog E (xBin .eql 3 (.tmp 6) (.const (Value.int .i64 3)) b3S (Value.int .i64 3)) w_2 fun a4G w_4 =>
 opK Tryd.prog E (gsem (asB a4G) false (xBin .eql 3 (.tmp 9) (.const (Value.int .i64 4)) (gval (asB a4G) false b3S) (Value.int .i64 4))) w_4 fun a1e w_6 =>
 opK Tryd.prog E (xPick a4G (Value.bool true) a1e) w_6 fun a4O w_8 =>
 R a4O w_8
noncomputable def c5L : Code := Tryd.f125.body.getD .skip
def c5M : Hint := (.seq .none (.seq .none (.seq .none .none)))
theorem c1F (x0 : Value) (w : World) (R : Value → World → Prop) (E : Pan) : b3R x0 w R E = callX Tryd.prog [.tmp 2] c5L c5M [x0] w R E := by kernel_rfl
theorem c1G {x0 : Value} {w : World} {R : Value → World → Prop} {E : Pan} (h : b3R x0 w R E) : Cv Tryd.prog 125 #[x0] w R E := by
 refine f8 (args := [x0]) (c := c5L) (h := c5M) (rs := [.tmp 2]) Tryd.func125 (by kernel_rfl) (by kernel_rfl) (Nat.le_of_ble_eq_true (by kernel_rfl)) (by kernel_rfl) (by kernel_rfl) (by kernel_rfl) ?_
 rw [← c1F]
 exact h
def a8X (x39 : Value) (w : World) (R : Value → World → Prop) (_E : Pan) : Prop :=
 ∀ _τ : Fr, (xcond x39
 (R (Value.int .i64 3) w)
 (R (Value.int .i64 6) w))
def a8Y (x1 x31 : Value) (w : World) (R : Value → World → Prop) (E : Pan) : Prop :=
 ∀ _τ : Fr, (xcond x31
 (R (Value.int .i64 6) w)
 (opK Tryd.prog E (xV (Instr.makeFunc (.func 131) #[] #[x1])) w fun a6z w_8 =>
 opK Tryd.prog E (xCall a6z [(Value.int .i32 48), (Value.int .i32 57)]) w_8 fun d1d l0 =>
 xcond d1d
 (R (Value.int .i64 4) l0)
 (xcut (fun d3A q9 => a8X (nth d3A 0) q9 R E) fun j4 =>
 opK Tryd.prog E (xV (Instr.loadAt 21 x1)) l0 fun c5N o7 =>
 opK Tryd.prog E (xBin .eql 21 (.tmp 40) (.const (Value.int .i32 95)) c5N (Value.int .i32 95)) o7 fun b6G s4 =>
 xcond b6G
 (j4 [b6G] s4)
 (opK Tryd.prog E (xCall a6z [(Value.int .i32 97), (Value.int .i32 122)]) s4 fun b6H s5 =>
 xcond b6H
 (j4 [b6H] s5)
 (opK Tryd.prog E (xCall a6z [(Value.int .i32 65), (Value.int .i32 90)]) s5 fun b6I r7 =>
 xcond b6I
 (j4 [b6I] r7)
 (opK Tryd.prog E (xCall a6z [(Value.int .i32 192), (Value.int .i32 591)]) r7 fun b6J u2 =>
 xcond b6J
 (j4 [b6J] u2)
 (opK Tryd.prog E (xCall a6z [(Value.int .i32 913), (Value.int .i32 969)]) u2 fun b6K u5 =>
 xcond b6K
 (j4 [b6K] u5)
 (opK Tryd.prog E (xCall a6z [(Value.int .i32 1040), (Value.int .i32 1103)]) u5 fun c5O y5 =>
 j4 [c5O] y5))))))))
def a8Z (x1 x4 x11 : Value) (w : World) (R : Value → World → Prop) (E : Pan) : Prop :=
 ∀ _τ : Fr, (xcond x11
 (R (Value.int .i64 5) w)
 (xcut (fun b7Z C1 => a8Y x1 (nth b7Z 0) C1 R E) fun j3 =>
 opK Tryd.prog E (xBin .eql 21 (.tmp 4) (.const (Value.int .i32 215)) x4 (Value.int .i32 215)) w fun b6L C5 =>
 xcond b6L
 (j3 [b6L] C5)
 (opK Tryd.prog E (xBin .eql 21 (.tmp 4) (.const (Value.int .i32 247)) x4 (Value.int .i32 247)) C5 fun b6M B8 =>
 xcond b6M
 (j3 [b6M] B8)
 (opK Tryd.prog E (xBin .eql 21 (.tmp 4) (.const (Value.int .i32 930)) x4 (Value.int .i32 930)) B8 fun c5P C8 =>
 j3 [c5P] C8))))
def a9a (x1 x4 x5 : Value) (w : World) (R : Value → World → Prop) (E : Pan) : Prop :=
 ∀ _τ : Fr, (xcond x5
 (R (Value.int .i64 1) w)
 (opK Tryd.prog E (xBin .eql 21 (.tmp 4) (.const (Value.int .i32 10)) x4 (Value.int .i32 10)) w fun a1e w_6 =>
 xcond a1e
 (R (Value.int .i64 2) w_6)
 (xcut (fun b1o G1 => a8Z x1 x4 (nth b1o 0) G1 R E) fun j2 =>
 opK Tryd.prog E (xBin .eql 21 (.tmp 4) (.const (Value.int .i32 59)) x4 (Value.int .i32 59)) w_6 fun b6N F6 =>
 xcond b6N
 (j2 [b6N] F6)
 (opK Tryd.prog E (xBin .eql 21 (.tmp 4) (.const (Value.int .i32 44)) x4 (Value.int .i32 44)) F6 fun b6O G2 =>
 xcond b6O
 (j2 [b6O] G2)
 (opK Tryd.prog E (xBin .eql 21 (.tmp 4) (.const (Value.int .i32 123)) x4 (Value.int .i32 123)) G2 fun b6P K5 =>
 xcond b6P
 (j2 [b6P] K5)
 (opK Tryd.prog E (xBin .eql 21 (.tmp 4) (.const (Value.int .i32 125)) x4 (Value.int .i32 125)) K5 fun b6Q J1 =>
 xcond b6Q
 (j2 [b6Q] J1)
 (opK Tryd.prog E (xBin .eql 21 (.tmp 4) (.const (Value.int .i32 40)) x4 (Value.int .i32 40)) J1 fun b6R N3 =>
 xcond b6R
 (j2 [b6R] N3)
 (opK Tryd.prog E (xBin .eql 21 (.tmp 4) (.const (Value.int .i32 41)) x4 (Value.int .i32 41)) N3 fun b6S P9 =>
 xcond b6S
 (j2 [b6S] P9)
 (opK Tryd.prog E (xBin .eql 21 (.tmp 4) (.const (Value.int .i32 91)) x4 (Value.int .i32 91)) P9 fun b6T M6 =>
 xcond b6T
 (j2 [b6T] M6)
 (opK Tryd.prog E (xBin .eql 21 (.tmp 4) (.const (Value.int .i32 93)) x4 (Value.int .i32 93)) M6 fun b6U R6 =>
 xcond b6U
 (j2 [b6U] R6)
 (opK Tryd.prog E (xBin .eql 21 (.tmp 4) (.const (Value.int .i32 61)) x4 (Value.int .i32 61)) R6 fun b6V U2 =>
 xcond b6V
 (j2 [b6V] U2)
 (opK Tryd.prog E (xBin .eql 21 (.tmp 4) (.const (Value.int .i32 33)) x4 (Value.int .i32 33)) U2 fun b6W W3 =>
 xcond b6W
 (j2 [b6W] W3)
 (opK Tryd.prog E (xBin .eql 21 (.tmp 4) (.const (Value.int .i32 60)) x4 (Value.int .i32 60)) W3 fun a8l U3 =>
 xcond a8l
 (j2 [a8l] U3)
 (opK Tryd.prog E (xBin .eql 21 (.tmp 4) (.const (Value.int .i32 62)) x4 (Value.int .i32 62)) U3 fun a5P W4 =>
 xcond a5P
 (j2 [a5P] W4)
 (opK Tryd.prog E (xBin .eql 21 (.tmp 4) (.const (Value.int .i32 43)) x4 (Value.int .i32 43)) W4 fun a8m Z5 =>
 xcond a8m
 (j2 [a8m] Z5)
 (opK Tryd.prog E (xBin .eql 21 (.tmp 4) (.const (Value.int .i32 45)) x4 (Value.int .i32 45)) Z5 fun b6X S9 =>
 xcond b6X
 (j2 [b6X] S9)
 (opK Tryd.prog E (xBin .eql 21 (.tmp 4) (.const (Value.int .i32 42)) x4 (Value.int .i32 42)) S9 fun b6Y W5 =>
 xcond b6Y
 (j2 [b6Y] W5)
 (opK Tryd.prog E (xBin .eql 21 (.tmp 4) (.const (Value.int .i32 47)) x4 (Value.int .i32 47)) W5 fun b6Z Z6 =>
 xcond b6Z
 (j2 [b6Z] Z6)
 (opK Tryd.prog E (xBin .eql 21 (.tmp 4) (.const (Value.int .i32 37)) x4 (Value.int .i32 37)) Z6 fun b7a U4 =>
 xcond b7a
 (j2 [b7a] U4)
 (opK Tryd.prog E (xBin .eql 21 (.tmp 4) (.const (Value.int .i32 38)) x4 (Value.int .i32 38)) U4 fun b7b Z7 =>
 xcond b7b
 (j2 [b7b] Z7)
 (opK Tryd.prog E (xBin .eql 21 (.tmp 4) (.const (Value.int .i32 124)) x4 (Value.int .i32 124)) Z7 fun c5Q a0p =>
 j2 [c5Q] a0p)))))))))))))))))))))
def b3T (x0 : Value) (w : World) (R : Value → World → Prop) (E : Pan) : Prop :=
 opK Tryd.prog E (xV (Instr.box 21 x0)) w fun p8 w_2 =>
 opK Tryd.prog E (xV (Instr.loadAt 21 p8)) w_2 fun a5Q w_4 =>
 xcut (fun d3B X2 => a9a p8 a5Q (nth d3B 0) X2 R E) fun j1 =>
 opK Tryd.prog E (xBin .eql 21 (.tmp 4) (.const (Value.int .i32 32)) a5Q (Value.int .i32 32)) w_4 fun c0r Z8 =>
 xcond c0r
 (j1 [c0r] Z8)
 (opK Tryd.prog E (xBin .eql 21 (.tmp 4) (.const (Value.int .i32 9)) a5Q (Value.int .i32 9)) Z8 fun c0s W6 =>
 xcond c0s
 (j1 [c0s] W6)
 (opK Tryd.prog E (xBin .eql 21 (.tmp 4) (.const (Value.int .i32 13)) a5Q (Value.int .i32 13)) W6 fun d1e a0Z =>
 j1 [d1e] a0Z))
noncomputable def c5R : Code := Tryd.f126.body.getD .skip
def c5S : Hint := (.seq .none (.seq (.seq .none (.block (.cut [5] (.seq .none (.cond .none (.seq .none (.cond .none .none)))) (.cond (.seq .none .none) (.seq .none (.cond (.seq .none .none) (.cut [11] (.seq .none (.cond .none (.seq .none (.cond .none (.seq .none (.cond .none (.seq .none (.cond .none (.seq .none (.cond .none (.seq .none (.cond .none (.seq .none (.cond .none (.seq .none (.cond .none (.seq .none (.cond .none (.seq .none (.cond .none (.seq .none (.cond .none (.seq .none (.cond .none (.seq .none (.cond .none (.seq .none (.cond .none (.seq .none (.cond .none (.seq .none (.cond .none (.seq .none (.cond .none (.seq .none (.cond .none .none)))))))))))))))))))))))))))))))))))) (.cond (.seq .none .none) (.cut [31] (.seq .none (.cond .none (.seq .none (.cond .none .none)))) (.cond (.seq .none .none) .none)))))))))) (.seq .none (.seq (.block (.seq .none (.cond (.seq .none .none) (.cut [39] (.seq .none (.cond .none (.seq .none (.cond .none (.seq .none (.cond .none (.seq .none (.cond .none (.seq .none (.cond .none .none)))))))))) (.cond (.seq .none .none) .none))))) (.seq .none .none)))))
theorem c1H (x0 : Value) (w : World) (R : Value → World → Prop) (E : Pan) : b3T x0 w R E = callX Tryd.prog [.tmp 2] c5R c5S [x0] w R E := by kernel_rfl
theorem c1I {x0 : Value} {w : World} {R : Value → World → Prop} {E : Pan} (h : b3T x0 w R E) : Cv Tryd.prog 126 #[x0] w R E := by
 refine f8 (args := [x0]) (c := c5R) (h := c5S) (rs := [.tmp 2]) Tryd.func126 (by kernel_rfl) (by kernel_rfl) (Nat.le_of_ble_eq_true (by kernel_rfl)) (by kernel_rfl) (by kernel_rfl) (by kernel_rfl) ?_
 rw [← c1H]
 exact h
def a9b (w : World) (R : Value → World → Prop) (_E : Pan) : Prop :=
 ∀ _τ : Fr, (R (Value.int .i64 (-1)) w)
def b3k (x0 x1 x7 x8 : Value) (w : World) (next2 : List Value → World → Prop) (j1 : List Value → World → Prop) (R : Value → World → Prop) (E : Pan) : Prop :=
 opK Tryd.prog E (xBin .lss 3 (.tmp 8) (.tmp 7) x8 x7) w fun b8e w_6 =>
 xcond b8e
 (opK Tryd.prog E (xV (Instr.indexAt 47 x0 x8)) w_6 fun d1f w_8 =>
 opK Tryd.prog E (xV (Instr.loadAt 9 d1f)) w_8 fun d1g l0 =>
 opK Tryd.prog E (xBin .eql 9 (.tmp 11) (.tmp 15) x1 d1g) l0 fun a1f q9 =>
 xcond a1f
 (R x8 q9)
 (opK Tryd.prog E (xBin .add 3 (.tmp 8) (.const (Value.int .i64 1)) x8 (Value.int .i64 1)) q9 fun a5I o7 =>
 next2 [a5I] o7))
 (j1 [] w_6)
def b3U (x0 x1 : Value) (w : World) (R : Value → World → Prop) (E : Pan) : Prop :=
 xcut (fun _ w_2 => a9b w_2 R E) fun j1 =>
 opK Tryd.prog E (xBuiltin .len #[47] 3 [false] [x0]) w fun a4G w_4 =>
 xloop [8] [(Value.int .i64 0)] w_4 fun τ_15 s4 next2 =>
 b3k x0 x1 a4G (τ_15 8) s4 next2 j1 R E
noncomputable def c5T : Code := Tryd.f127.body.getD .skip
def c5U : Hint := (.seq .none (.cut [] (.seq .none (.block (.loop [8] (.seq .none (.seq (.cond .none .none) (.seq (.block (.seq .none (.seq .none (.cond (.seq .none .none) .none)))) .none)))))) (.seq .none .none)))
theorem c1J (x0 x1 : Value) (w : World) (R : Value → World → Prop) (E : Pan) : b3U x0 x1 w R E = callX Tryd.prog [.tmp 4] c5T c5U [x0, x1] w R E := by kernel_rfl
theorem c1K {x0 x1 : Value} {w : World} {R : Value → World → Prop} {E : Pan} (h : b3U x0 x1 w R E) : Cv Tryd.prog 127 #[x0, x1] w R E := by
 refine f8 (args := [x0, x1]) (c := c5T) (h := c5U) (rs := [.tmp 4]) Tryd.func127 (by kernel_rfl) (by kernel_rfl) (Nat.le_of_ble_eq_true (by kernel_rfl)) (by kernel_rfl) (by kernel_rfl) (by kernel_rfl) ?_
 rw [← c1J]
 exact h
def a9c (x2 : Value) (w : World) (R : Value → World → Prop) (_E : Pan) : Prop :=
 ∀ _τ : Fr, (R x2 w)
def b3l (x2 x4 : Value) (w : World) (next2 : List Value → World → Prop) (j1 : List Value → World → Prop) (_R : Value → World → Prop) (E : Pan) : Prop :=
 opK Tryd.prog E (xV (Instr.next x4 true 0)) w fun b8f w_6 =>
 opK Tryd.prog E (xV (Instr.extract b8f 0)) w_6 fun b8g w_8 =>
 xcond b8g
 (opK Tryd.prog E (xBin .add 3 (.tmp 7) (.const (Value.int .i64 1)) x2 (Value.int .i64 1)) w_8 fun a7l l0 =>
 next2 [a7l] l0)
 (j1 [x2] w_8)
def b3V (x0 : Value) (w : World) (R : Value → World → Prop) (E : Pan) : Prop :=
 xcut (fun l_1 w_2 => a9c (nth l_1 0) w_2 R E) fun j1 =>
 opK Tryd.prog E (xV (Instr.range 9 x0)) w fun a5Q w_4 =>
 xloop [2] [(Value.int .i64 0)] w_4 fun τ_11 q9 next2 =>
 b3l (τ_11 2) a5Q q9 next2 j1 R E
noncomputable def c5V : Code := Tryd.f130.body.getD .skip
def c5W : Hint := (.seq .none (.cut [2] (.seq .none (.block (.loop [2] (.seq .none (.seq (.cond .none .none) (.block .none)))))) (.seq .none .none)))
theorem c1L (x0 : Value) (w : World) (R : Value → World → Prop) (E : Pan) : b3V x0 w R E = callX Tryd.prog [.tmp 2] c5V c5W [x0] w R E := by kernel_rfl
theorem c1M {x0 : Value} {w : World} {R : Value → World → Prop} {E : Pan} (h : b3V x0 w R E) : Cv Tryd.prog 130 #[x0] w R E := by
 refine f8 (args := [x0]) (c := c5V) (h := c5W) (rs := [.tmp 2]) Tryd.func130 (by kernel_rfl) (by kernel_rfl) (Nat.le_of_ble_eq_true (by kernel_rfl)) (by kernel_rfl) (by kernel_rfl) (by kernel_rfl) ?_
 rw [← c1L]
 exact h
def b3W (x0 x1 x2 : Value) (w : World) (R : Value → World → Prop) (E : Pan) : Prop :=
 opK Tryd.prog E (xV (Instr.loadAt 21 x2)) w fun b8c w_2 =>
 opK Tryd.prog E (xBin .leq 21 (.tmp 6) (.tmp 7) x0 b8c) w_2 fun a8T w_4 =>
 opK Tryd.prog E (gsem (asB a8T) true (xV (Instr.loadAt 21 x2))) w_4 fun a1e w_6 =>
 opK Tryd.prog E (gsem (asB a8T) true (xBin .leq 21 (.tmp 10) (.tmp 11) a1e (gval (asB a8T) true x1))) w_6 fun a2q w_8 =>
 opK Tryd.prog E (xPick a8T a2q (Value.bool false)) w_8 fun a2r l0 =>
 R a2r l0
noncomputable def c5X : Code := Tryd.f131.body.getD .skip
def c5Y : Hint := (.seq .none (.seq .none .none))
theorem c1N (x0 x1 x2 : Value) (w : World) (R : Value → World → Prop) (E : Pan) : b3W x0 x1 x2 w R E = callX Tryd.prog [.tmp 5] c5X c5Y [x0, x1, x2] w R E := by kernel_rfl
theorem c1O {x0 x1 x2 : Value} {w : World} {R : Value → World → Prop} {E : Pan} (h : b3W x0 x1 x2 w R E) : Cv Tryd.prog 131 #[x0, x1, x2] w R E := by
 refine f8 (args := [x0, x1, x2]) (c := c5X) (h := c5Y) (rs := [.tmp 5]) Tryd.func131 (by kernel_rfl) (by kernel_rfl) (Nat.le_of_ble_eq_true (by kernel_rfl)) (by kernel_rfl) (by kernel_rfl) (by kernel_rfl) ?_
 rw [← c1N]
 exact h
def a9d (x3 x59 : Value) (w : World) (R : Value → World → Prop) (E : Pan) : Prop :=
 ∀ _τ : Fr, (xcond x59
 (opK Tryd.prog E (xBin .eql 3 (.tmp 65) (.const (Value.int .i64 2)) x3 (Value.int .i64 2)) w fun c5Z Z8 =>
 R c5Z Z8)
 (R (Value.bool false) w))
def a9e (x3 x38 x54 : Value) (w : World) (R : Value → World → Prop) (E : Pan) : Prop :=
 ∀ _τ : Fr, (xcond x54
 (opK Tryd.prog E (xBin .eql 3 (.tmp 57) (.const (Value.int .i64 1)) x3 (Value.int .i64 1)) w fun c6a X2 =>
 R c6a X2)
 (xcut (fun a5R W6 => a9d x3 (nth a5R 0) W6 R E) fun j3 =>
 opK Tryd.prog E (xBin .eql 3 (.tmp 38) (.const (Value.int .i64 6)) x38 (Value.int .i64 6)) w fun a2I a0Z =>
 xcond a2I
 (j3 [a2I] a0Z)
 (opK Tryd.prog E (xBin .eql 3 (.tmp 38) (.const (Value.int .i64 7)) x38 (Value.int .i64 7)) a0Z fun b7c a2J =>
 xcond b7c
 (j3 [b7c] a2J)
 (opK Tryd.prog E (xBin .eql 3 (.tmp 38) (.const (Value.int .i64 8)) x38 (Value.int .i64 8)) a2J fun b7d a3R =>
 xcond b7d
 (j3 [b7d] a3R)
 (opK Tryd.prog E (xBin .eql 3 (.tmp 38) (.const (Value.int .i64 9)) x38 (Value.int .i64 9)) a3R fun b7e a1Y =>
 xcond b7e
 (j3 [b7e] a1Y)
 (opK Tryd.prog E (xBin .eql 3 (.tmp 38) (.const (Value.int .i64 10)) x38 (Value.int .i64 10)) a1Y fun c6b a4I =>
 j3 [c6b] a4I))))))
def a9f (x3 x38 x49 : Value) (w : World) (R : Value → World → Prop) (E : Pan) : Prop :=
 ∀ _τ : Fr, (xcond x49
 (opK Tryd.prog E (xBin .eql 3 (.tmp 52) (.const (Value.int .i64 0)) x3 (Value.int .i64 0)) w fun a5L a0p =>
 R a5L a0p)
 (xcut (fun d3C a4J => a9e x3 x38 (nth d3C 0) a4J R E) fun j2 =>
 opK Tryd.prog E (xBin .eql 3 (.tmp 38) (.const (Value.int .i64 4)) x38 (Value.int .i64 4)) w fun b7f a3S =>
 xcond b7f
 (j2 [b7f] a3S)
 (opK Tryd.prog E (xBin .eql 3 (.tmp 38) (.const (Value.int .i64 5)) x38 (Value.int .i64 5)) a3S fun c6c a3T =>
 j2 [c6c] a3T)))
def b3X (x0 : Value) (w : World) (R : Value → World → Prop) (E : Pan) : Prop :=
 opK Tryd.prog E (xV (Instr.box 96 x0)) w fun p8 w_2 =>
 opK Tryd.prog E (xV (Instr.fieldAt 96 p8 0)) w_2 fun a7m w_4 =>
 opK Tryd.prog E (xV (Instr.fieldAt 30 a7m 3)) w_4 fun b1p w_6 =>
 opK Tryd.prog E (xV (Instr.loadAt 28 b1p)) w_6 fun a1C w_8 =>
 opK Tryd.prog E (xBuiltin .len #[28] 3 [false] [a1C]) w_8 fun a5S l0 =>
 opK Tryd.prog E (xV (Instr.loadAt 96 p8)) l0 fun b1g q9 =>
 opK Tryd.prog E (xV (Instr.makeInterface 96 b1g)) q9 fun b1h o7 =>
 opK Tryd.prog E (xCall (Value.func (.func 114) #[] #[]) [b1h]) o7 fun a8j s4 =>
 opK Tryd.prog E (xV (Instr.extract a8j 0)) s4 fun _t14_17 s5 =>
 opK Tryd.prog E (xV (Instr.extract a8j 1)) s5 fun b1i r7 =>
 opK Tryd.prog E (xV (Instr.fieldAt 96 p8 0)) r7 fun b1j u2 =>
 opK Tryd.prog E (xV (Instr.fieldAt 30 b1j 0)) u2 fun c6d u5 =>
 opK Tryd.prog E (xV (Instr.loadAt 3 c6d)) u5 fun c6e y5 =>
 opK Tryd.prog E (xBin .neq 3 (.tmp 18) (.const (Value.int .i64 1)) c6e (Value.int .i64 1)) y5 fun a5T C1 =>
 opK Tryd.prog E (gsem (asB a5T) true (xV (Instr.fieldAt 96 p8 0))) C1 fun c6f C5 =>
 opK Tryd.prog E (gsem (asB a5T) true (xV (Instr.fieldAt 30 c6f 1))) C5 fun c6g B8 =>
 opK Tryd.prog E (gsem (asB a5T) true (xV (Instr.loadAt 2 c6g))) B8 fun c6h C8 =>
 opK Tryd.prog E (gsem (asB a5T) true (xBin .neq 2 (.tmp 23) (.const (Value.int .i64 0)) c6h (Value.int .i64 0))) C8 fun c6i G1 =>
 opK Tryd.prog E (xPick a5T c6i (Value.bool false)) G1 fun a1g F6 =>
 opK Tryd.prog E (gsem (asB a1g) false (xV (Op.unary .not (gval (asB a1g) false b1i)))) F6 fun a5U G2 =>
 opK Tryd.prog E (gsem (asB (gval (asB a1g) false a5U)) true (xV (Instr.fieldAt 96 p8 0))) G2 fun b1q K5 =>
 opK Tryd.prog E (gsem (asB (gval (asB a1g) false a5U)) true (xV (Instr.fieldAt 30 b1q 2))) K5 fun b1r J1 =>
 opK Tryd.prog E (gsem (asB (gval (asB a1g) false a5U)) true (xV (Instr.loadAt 9 b1r))) J1 fun b1s N3 =>
 opK Tryd.prog E (gsem (asB (gval (asB a1g) false a5U)) true (xBin .neq 9 (.tmp 32) (.const (Value.string ⟨#[]⟩)) b1s (Value.string ⟨#[]⟩))) N3 fun b1t P9 =>
 opK Tryd.prog E (gsem (asB a1g) false (xPick (gval (asB a1g) false a5U) b1t (Value.bool false))) P9 fun b1u M6 =>
 opK Tryd.prog E (xPick a1g (Value.bool true) b1u) M6 fun b1v R6 =>
 xcond b1v
 (R (Value.bool false) R6)
 (opK Tryd.prog E (xV (Instr.fieldAt 96 p8 0)) R6 fun b1m U2 =>
 opK Tryd.prog E (xV (Instr.fieldAt 30 b1m 0)) U2 fun c6j W3 =>
 opK Tryd.prog E (xV (Instr.loadAt 3 c6j)) W3 fun a8n U3 =>
 opK Tryd.prog E (xBin .eql 3 (.tmp 38) (.const (Value.int .i64 1)) a8n (Value.int .i64 1)) U3 fun c6k W4 =>
 xcond c6k
 (opK Tryd.prog E (xV (Instr.fieldAt 96 p8 0)) W4 fun c6l Z5 =>
 opK Tryd.prog E (xV (Instr.fieldAt 30 c6l 1)) Z5 fun c6m S9 =>
 opK Tryd.prog E (xV (Instr.loadAt 2 c6m)) S9 fun c6n W5 =>
 opK Tryd.prog E (xBin .geq 2 (.tmp 43) (.const (Value.int .i64 0)) c6n (Value.int .i64 0)) W5 fun b1w Z6 =>
 opK Tryd.prog E (gsem (asB b1w) true (xBin .eql 3 (.tmp 46) (.const (Value.int .i64 0)) (gval (asB b1w) true a5S) (Value.int .i64 0))) Z6 fun c6o U4 =>
 opK Tryd.prog E (xPick b1w c6o (Value.bool false)) U4 fun c6p Z7 =>
 R c6p Z7)
 (xcut (fun d3D a4K => a9f a5S a8n (nth d3D 0) a4K R E) fun j1 =>
 opK Tryd.prog E (xBin .eql 3 (.tmp 38) (.const (Value.int .i64 2)) a8n (Value.int .i64 2)) W4 fun b7g a1b =>
 xcond b7g
 (j1 [b7g] a1b)
 (opK Tryd.prog E (xBin .eql 3 (.tmp 38) (.const (Value.int .i64 3)) a8n (Value.int .i64 3)) a1b fun c1P a1N =>
 j1 [c1P] a1N)))
noncomputable def c6q : Code := Tryd.f148.body.getD .skip
def c6r : Hint := (.seq .none (.seq .none (.seq .none (.seq (.seq .none (.cond (.seq .none .none) .none)) (.seq (.seq .none (.block (.seq .none (.cond (.seq .none .none) (.cut [49] (.seq .none (.cond .none .none)) (.cond (.seq .none .none) (.cut [54] (.seq .none (.cond .none .none)) (.cond (.seq .none .none) (.cut [59] (.seq .none (.cond .none (.seq .none (.cond .none (.seq .none (.cond .none (.seq .none (.cond .none .none)))))))) (.cond (.seq .none .none) .none)))))))))) (.seq .none .none))))))
theorem c1Q (x0 : Value) (w : World) (R : Value → World → Prop) (E : Pan) : b3X x0 w R E = callX Tryd.prog [.tmp 2] c6q c6r [x0] w R E := by kernel_rfl
theorem c1R {x0 : Value} {w : World} {R : Value → World → Prop} {E : Pan} (h : b3X x0 w R E) : Cv Tryd.prog 148 #[x0] w R E := by
 refine f8 (args := [x0]) (c := c6q) (h := c6r) (rs := [.tmp 2]) Tryd.func148 (by kernel_rfl) (by kernel_rfl) (Nat.le_of_ble_eq_true (by kernel_rfl)) (by kernel_rfl) (by kernel_rfl) (by kernel_rfl) ?_
 rw [← c1Q]
 exact h
def b3Y (x0 : Value) (w : World) (R : Value → World → Prop) (E : Pan) : Prop :=
 opK Tryd.prog E (xV (Instr.box 96 x0)) w fun p8 w_2 =>
 opK Tryd.prog E (xV (Instr.fieldAt 96 p8 0)) w_2 fun a1z w_4 =>
 opK Tryd.prog E (xV (Instr.fieldAt 30 a1z 3)) w_4 fun U1 w_6 =>
 opK Tryd.prog E (xV (Instr.loadAt 28 U1)) w_6 fun a1A w_8 =>
 opK Tryd.prog E (xCall (Value.func (.func 150) #[] #[]) [a1A, (Value.func (.func 151) #[] #[])]) w_8 fun a4F l0 =>
 R a4F l0
noncomputable def c6s : Code := Tryd.f149.body.getD .skip
def c6t : Hint := (.seq .none (.seq .none .none))
theorem c1S (x0 : Value) (w : World) (R : Value → World → Prop) (E : Pan) : b3Y x0 w R E = callX Tryd.prog [.tmp 2] c6s c6t [x0] w R E := by kernel_rfl
theorem c1T {x0 : Value} {w : World} {R : Value → World → Prop} {E : Pan} (h : b3Y x0 w R E) : Cv Tryd.prog 149 #[x0] w R E := by
 refine f8 (args := [x0]) (c := c6s) (h := c6t) (rs := [.tmp 2]) Tryd.func149 (by kernel_rfl) (by kernel_rfl) (Nat.le_of_ble_eq_true (by kernel_rfl)) (by kernel_rfl) (by kernel_rfl) (by kernel_rfl) ?_
 rw [← c1S]
 exact h
def a9g (x5 : Value) (w : World) (R : Value → World → Prop) (_E : Pan) : Prop :=
 ∀ _τ : Fr, (R x5 w)
def b3m (x1 x5 x8 x9 x10 : Value) (w : World) (next2 : List Value → World → Prop) (j1 : List Value → World → Prop) (_R : Value → World → Prop) (E : Pan) : Prop :=
 opK Tryd.prog E (xBin .lss 3 (.tmp 10) (.tmp 9) x10 x9) w fun a4N w_6 =>
 xcond a4N
 (opK Tryd.prog E (xV (Instr.indexAt 28 x8 x10)) w_6 fun a2q w_8 =>
 opK Tryd.prog E (xV (Instr.loadAt 30 a2q)) w_8 fun a2r l0 =>
 opK Tryd.prog E (xV (Instr.alloc 30 true (.tuple #[]))) l0 fun Y9 q9 =>
 opK Tryd.prog E (xU (Instr.storeAt 30 Y9 a2r)) q9 fun _z_13 o7 =>
 opK Tryd.prog E (xV (Instr.loadAt 30 Y9)) o7 fun X3 s4 =>
 opK Tryd.prog E (xCall x1 [X3]) s4 fun X4 s5 =>
 opK Tryd.prog E (xV (Instr.buildSlice 97 1 #[(0, X4)])) s5 fun X5 r7 =>
 opK Tryd.prog E (xBuiltin .append #[97, 97] 97 [false, false] [x5, X5]) r7 fun X6 u2 =>
 opK Tryd.prog E (xBin .add 3 (.tmp 10) (.const (Value.int .i64 1)) x10 (Value.int .i64 1)) u2 fun a1d u5 =>
 next2 [X6, a1d] u5)
 (j1 [x5] w_6)
def b3Z (x0 x1 : Value) (w : World) (R : Value → World → Prop) (E : Pan) : Prop :=
 xcut (fun l_1 w_2 => a9g (nth l_1 0) w_2 R E) fun j1 =>
 opK Tryd.prog E (xBuiltin .len #[28] 3 [false] [x0]) w fun a1B w_4 =>
 xloop [5, 10] [(Value.slice none 0 0), (Value.int .i64 0)] w_4 fun τ_25 y5 next2 =>
 b3m x1 (τ_25 5) x0 a1B (τ_25 10) y5 next2 j1 R E
noncomputable def c6u : Code := Tryd.f150.body.getD .skip
def c6v : Hint := (.seq .none (.seq .none (.cut [5] (.seq .none (.block (.loop [5, 10] (.seq .none (.seq (.cond .none .none) (.seq (.block (.seq .none .none)) .none)))))) (.seq .none .none))))
theorem c1U (x0 x1 : Value) (w : World) (R : Value → World → Prop) (E : Pan) : b3Z x0 x1 w R E = callX Tryd.prog [.tmp 4] c6u c6v [x0, x1] w R E := by kernel_rfl
theorem c1V {x0 x1 : Value} {w : World} {R : Value → World → Prop} {E : Pan} (h : b3Z x0 x1 w R E) : Cv Tryd.prog 150 #[x0, x1] w R E := by
 refine f8 (args := [x0, x1]) (c := c6u) (h := c6v) (rs := [.tmp 4]) Tryd.func150 (by kernel_rfl) (by kernel_rfl) (Nat.le_of_ble_eq_true (by kernel_rfl)) (by kernel_rfl) (by kernel_rfl) (by kernel_rfl) ?_
 rw [← c1U]
 exact h
def b4a (x0 : Value) (w : World) (R : Value → World → Prop) (E : Pan) : Prop :=
 opK Tryd.prog E (xV (Instr.box 30 x0)) w fun p8 w_2 =>
 opK Tryd.prog E (xV (Instr.loadAt 30 p8)) w_2 fun a1z w_4 =>
 opK Tryd.prog E (xV (Instr.build 96 #[(0, a1z)])) w_4 fun U1 w_6 =>
 opK Tryd.prog E (xV (Instr.makeInterface 96 U1)) w_6 fun a1A w_8 =>
 R a1A w_8
noncomputable def c6w : Code := Tryd.f151.body.getD .skip
def c6x : Hint := (.seq .none (.seq .none .none))
theorem c1W (x0 : Value) (w : World) (R : Value → World → Prop) (E : Pan) : b4a x0 w R E = callX Tryd.prog [.tmp 2] c6w c6x [x0] w R E := by kernel_rfl
theorem c1X {x0 : Value} {w : World} {R : Value → World → Prop} {E : Pan} (h : b4a x0 w R E) : Cv Tryd.prog 151 #[x0] w R E := by
 refine f8 (args := [x0]) (c := c6w) (h := c6x) (rs := [.tmp 2]) Tryd.func151 (by kernel_rfl) (by kernel_rfl) (Nat.le_of_ble_eq_true (by kernel_rfl)) (by kernel_rfl) (by kernel_rfl) (by kernel_rfl) ?_
 rw [← c1W]
 exact h
def a9h (x3 x50 : Value) (w : World) (R : Value → World → Prop) (E : Pan) : Prop :=
 ∀ _τ : Fr, (xcond x50
 (opK Tryd.prog E (xV (Instr.loadAt 209 x3)) w fun c6y a1Y =>
 opK Tryd.prog E (xV (Instr.build 209 #[(0, (Value.int .i64 0)), (1, (Value.int .i64 2))])) a1Y fun c6z a4I =>
 opK Tryd.prog E (xBin .eql 209 (.tmp 53) (.tmp 54) c6y c6z) a4I fun c6A a4J =>
 R c6A a4J)
 (R (Value.bool false) w))
def a9i (x3 x38 x39 : Value) (w : World) (R : Value → World → Prop) (E : Pan) : Prop :=
 ∀ _τ : Fr, (xcond x39
 (opK Tryd.prog E (xV (Instr.loadAt 209 x3)) w fun c6B a0p =>
 opK Tryd.prog E (xV (Instr.build 209 #[])) a0p fun c6C X2 =>
 opK Tryd.prog E (xBin .eql 209 (.tmp 42) (.tmp 43) c6B c6C) X2 fun c6D Z8 =>
 R c6D Z8)
 (opK Tryd.prog E (xBin .eql 3 (.tmp 38) (.const (Value.int .i64 4)) x38 (Value.int .i64 4)) w fun c6E W6 =>
 xcond c6E
 (opK Tryd.prog E (xV (Instr.loadAt 209 x3)) W6 fun c6F a0Z =>
 opK Tryd.prog E (xV (Instr.build 209 #[(0, (Value.int .i64 0)), (1, (Value.int .i64 1))])) a0Z fun c6G a2J =>
 opK Tryd.prog E (xBin .eql 209 (.tmp 47) (.tmp 48) c6F c6G) a2J fun c6H a3R =>
 R c6H a3R)
 (xcut (fun b1x a3S => a9h x3 (nth b1x 0) a3S R E) fun j2 =>
 opK Tryd.prog E (xBin .eql 3 (.tmp 38) (.const (Value.int .i64 5)) x38 (Value.int .i64 5)) W6 fun b7h a3T =>
 xcond b7h
 (j2 [b7h] a3T)
 (opK Tryd.prog E (xBin .eql 3 (.tmp 38) (.const (Value.int .i64 6)) x38 (Value.int .i64 6)) a3T fun c6I a4K =>
 j2 [c6I] a4K))))
def b4b (x0 : Value) (w : World) (R : Value → World → Prop) (E : Pan) : Prop :=
 opK Tryd.prog E (xV (Instr.box 106 x0)) w fun p8 w_2 =>
 opK Tryd.prog E (xV (Instr.fieldAt 106 p8 0)) w_2 fun a5Q w_4 =>
 opK Tryd.prog E (xV (Instr.fieldAt 33 a5Q 2)) w_4 fun b8f w_6 =>
 opK Tryd.prog E (xV (Instr.loadAt 28 b8f)) w_6 fun b8g w_8 =>
 opK Tryd.prog E (xBuiltin .len #[28] 3 [false] [b8g]) w_8 fun d3E l0 =>
 opK Tryd.prog E (xV (Instr.fieldAt 106 p8 0)) l0 fun a7Y q9 =>
 opK Tryd.prog E (xV (Instr.fieldAt 33 a7Y 3)) q9 fun a8o o7 =>
 opK Tryd.prog E (xV (Instr.loadAt 31 a8o)) o7 fun b1y s4 =>
 opK Tryd.prog E (xBuiltin .len #[31] 3 [false] [b1y]) s4 fun b1z s5 =>
 opK Tryd.prog E (xV (Instr.build 209 #[(0, d3E), (1, b1z)])) s5 fun b1A r7 =>
 opK Tryd.prog E (xV (Instr.alloc 209 true (.tuple #[]))) r7 fun b4c u2 =>
 opK Tryd.prog E (xU (Instr.storeAt 209 b4c b1A)) u2 fun _z_23 u5 =>
 opK Tryd.prog E (xV (Instr.fieldAt 106 p8 0)) u5 fun c6J y5 =>
 opK Tryd.prog E (xV (Instr.fieldAt 33 c6J 0)) y5 fun c6K C1 =>
 opK Tryd.prog E (xV (Instr.loadAt 3 c6K)) C1 fun c6L C5 =>
 opK Tryd.prog E (xBin .eql 3 (.tmp 15) (.const (Value.int .i64 3)) c6L (Value.int .i64 3)) C5 fun c6M B8 =>
 xcond c6M
 (opK Tryd.prog E (xV (Instr.fieldAt 106 p8 0)) B8 fun b1d C8 =>
 opK Tryd.prog E (xV (Instr.fieldAt 33 b1d 1)) C8 fun a5M G1 =>
 opK Tryd.prog E (xV (Instr.loadAt 3 a5M)) G1 fun c6N F6 =>
 opK Tryd.prog E (xBin .geq 3 (.tmp 19) (.const (Value.int .i64 1)) c6N (Value.int .i64 1)) F6 fun a5V G2 =>
 opK Tryd.prog E (gsem (asB a5V) true (xV (Instr.fieldAt 106 p8 0))) G2 fun c6O K5 =>
 opK Tryd.prog E (gsem (asB a5V) true (xV (Instr.fieldAt 33 c6O 1))) K5 fun c6P J1 =>
 opK Tryd.prog E (gsem (asB a5V) true (xV (Instr.loadAt 3 c6P))) J1 fun c6Q N3 =>
 opK Tryd.prog E (gsem (asB a5V) true (xBin .leq 3 (.tmp 24) (.const (Value.int .i64 6)) c6Q (Value.int .i64 6))) N3 fun c6R P9 =>
 opK Tryd.prog E (xPick a5V c6R (Value.bool false)) P9 fun a8p M6 =>
 opK Tryd.prog E (gsem (asB a8p) true (xV (Instr.loadAt 209 b4c))) M6 fun a5W R6 =>
 opK Tryd.prog E (gsem (asB a8p) true (xV (Instr.build 209 #[(0, (Value.int .i64 2)), (1, (Value.int .i64 0))]))) R6 fun c6S U2 =>
 opK Tryd.prog E (gsem (asB a8p) true (xBin .eql 209 (.tmp 28) (.tmp 29) a5W c6S)) U2 fun c6T W3 =>
 opK Tryd.prog E (xPick a8p c6T (Value.bool false)) W3 fun c6U U3 =>
 R c6U U3)
 (opK Tryd.prog E (xV (Instr.fieldAt 106 p8 0)) B8 fun c6V W4 =>
 opK Tryd.prog E (xV (Instr.fieldAt 33 c6V 1)) W4 fun c6W Z5 =>
 opK Tryd.prog E (xV (Instr.loadAt 3 c6W)) Z5 fun c6X S9 =>
 opK Tryd.prog E (xBin .neq 3 (.tmp 34) (.const (Value.int .i64 0)) c6X (Value.int .i64 0)) S9 fun c6Y W5 =>
 xcond c6Y
 (R (Value.bool false) W5)
 (opK Tryd.prog E (xV (Instr.fieldAt 106 p8 0)) W5 fun c6Z Z6 =>
 opK Tryd.prog E (xV (Instr.fieldAt 33 c6Z 0)) Z6 fun c7a U4 =>
 opK Tryd.prog E (xV (Instr.loadAt 3 c7a)) U4 fun b1B Z7 =>
 xcut (fun d3F a1b => a9i b4c b1B (nth d3F 0) a1b R E) fun j1 =>
 opK Tryd.prog E (xBin .eql 3 (.tmp 38) (.const (Value.int .i64 1)) b1B (Value.int .i64 1)) Z7 fun b3n a1N =>
 xcond b3n
 (j1 [b3n] a1N)
 (opK Tryd.prog E (xBin .eql 3 (.tmp 38) (.const (Value.int .i64 2)) b1B (Value.int .i64 2)) a1N fun c1Y a3B =>
 j1 [c1Y] a3B)))
noncomputable def c7b : Code := Tryd.f152.body.getD .skip
def c7c : Hint := (.seq .none (.seq .none (.seq (.seq .none (.cond (.seq .none .none) .none)) (.seq (.seq .none (.cond (.seq .none .none) .none)) (.seq (.seq .none (.block (.cut [39] (.seq .none (.cond .none .none)) (.cond (.seq .none .none) (.seq .none (.cond (.seq .none .none) (.cut [50] (.seq .none (.cond .none .none)) (.cond (.seq .none .none) .none)))))))) (.seq .none .none))))))
theorem c1Z (x0 : Value) (w : World) (R : Value → World → Prop) (E : Pan) : b4b x0 w R E = callX Tryd.prog [.tmp 2] c7b c7c [x0] w R E := by kernel_rfl
theorem c2a {x0 : Value} {w : World} {R : Value → World → Prop} {E : Pan} (h : b4b x0 w R E) : Cv Tryd.prog 152 #[x0] w R E := by
 refine f8 (args := [x0]) (c := c7b) (h := c7c) (rs := [.tmp 2]) Tryd.func152 (by kernel_rfl) (by kernel_rfl) (Nat.le_of_ble_eq_true (by kernel_rfl)) (by kernel_rfl) (by kernel_rfl) (by kernel_rfl) ?_
 rw [← c1Z]
 exact h
def b4d (x0 : Value) (w : World) (R : Value → World → Prop) (E : Pan) : Prop :=
 opK Tryd.prog E (xV (Instr.box 106 x0)) w fun p8 w_2 =>
 dX w_2 fun w_3 =>
 qP Tryd.prog (xV (Instr.fieldAt 106 p8 0)) fun a8P =>
 qP Tryd.prog (xV (Instr.fieldAt 33 a8P 2)) fun U1 =>
 qP Tryd.prog (xV (Instr.fieldAt 106 p8 0)) fun b8h =>
 qP Tryd.prog (xV (Instr.fieldAt 33 b8h 3)) fun a1C =>
 qL Tryd.prog w_3 (blk U1) (xV (Instr.loadAt 28 U1)) fun b7Y =>
 qL Tryd.prog w_3 (blk a1C) (xV (Instr.loadAt 31 a1C)) fun a5S =>
 opK Tryd.prog E (xCall (Value.func (.func 150) #[] #[]) [b7Y, (Value.func (.func 151) #[] #[])]) w_3 fun d1h Q0 =>
 keepX [(blk a1C)] w_3 Q0 (opK Tryd.prog E (xCall (Value.func (.func 154) #[] #[]) [a5S, (Value.func (.func 155) #[] #[])]) Q0 fun c7d a1X =>
 keepX [] Q0 a1X (opK Tryd.prog E (xV (Instr.buildSlice 172 2 #[(0, d1h), (1, c7d)])) a1X fun c7e a5H =>
 keepX [] a1X a5H (opK Tryd.prog E (xCall (Value.func (.func 94) #[] #[]) [c7e]) a5H fun c7f Z4 =>
 keepX [] a5H Z4 (R c7f Z4))))
noncomputable def c7g : Code := Tryd.f153.body.getD .skip
def c7h : Hint := (.seq .none (.seq (.reg [(0, 8, 2), (1, 16, 8), (2, 32, 16), (4, 64, 32), (0, 128, 2), (16, 256, 128), (32, 512, 256), (72, 1024, 512), (136, 2048, 1088), (384, 4096, 2048), (1023, 4, 4096)] [68, 68, 64, 64, 68, 68, 4, 0, 0, 0, 68] (.early 0 (.early 1 (.early 4 (.early 5 (.load 2 (.load 6 (.step 3 (.step 7 (.step 8 (.step 9 (.early 10 .done)))))))))))) .none))
theorem c2b (x0 : Value) (w : World) (R : Value → World → Prop) (E : Pan) : b4d x0 w R E = callX Tryd.prog [.tmp 2] c7g c7h [x0] w R E := by kernel_rfl
theorem c2c {x0 : Value} {w : World} {R : Value → World → Prop} {E : Pan} (h : b4d x0 w R E) : Cv Tryd.prog 153 #[x0] w R E := by
 refine f8 (args := [x0]) (c := c7g) (h := c7h) (rs := [.tmp 2]) Tryd.func153 (by kernel_rfl) (by kernel_rfl) (Nat.le_of_ble_eq_true (by kernel_rfl)) (by kernel_rfl) (by kernel_rfl) (by kernel_rfl) ?_
 rw [← c2b]
 exact h
end Go.Proofs.YthldnpmfelniiaaDoor
