/- The second reading of some of the program's functions, printed by gen2.py off the code; each is held against the code by the kernel. -/
import Derived.Test.YthldnpmfelniiaaDoorProg
import Derived.Test.YthldnpmfelniiaaDoorzVK0
import Derived.KernelRfl
namespace Go.Proofs.YthldnpmfelniiaaDoor
open Go.RowKit
set_option maxRecDepth 100000
noncomputable def c3 : Code := Tryd.f3.body.getD .skip
def h3 : Hint := (.seq .none (.seq (.reg [(0, 32, 0), (1, 64, 32), (2, 128, 68), (2, 256, 72), (14, 512, 448), (2, 1024, 68), (2, 2048, 72), (114, 4096, 3136), (146, 8192, 4672), (258, 16384, 8256), (640, 32768, 16384), (1024, 65536, 32776), (1024, 131072, 32772), (7168, 262144, 229376), (1024, 524288, 32772), (1024, 1048576, 32776), (58368, 2097152, 1605632), (74752, 4194304, 2392064), (132096, 8388608, 4227072), (524287, 16, 8388608)] [0, 55404, 55400, 55396, 96, 55372, 55340, 0, 55404, 55404, 55404, 53356, 51308, 49152, 39020, 22636, 0, 55404, 55404, 55404] (.step 0 (.early 1 (.load 2 (.load 3 (.load 5 (.load 6 (.step 4 (.step 7 (.early 8 (.early 9 (.early 10 (.load 11 (.load 12 (.load 14 (.load 15 (.step 13 (.step 16 (.early 17 (.early 18 (.early 19 .done))))))))))))))))))))) .none))
def F27 (x0 : Value) (w : World) (R : Value → World → Prop) (E : Pan) : Prop :=
 opK Tryd.prog E (xV (Instr.box 25 x0)) w fun o9 w_2 =>
 opK Tryd.prog E (xV (Instr.loadAt 25 o9)) w_2 fun T7 w_4 =>
 opK Tryd.prog E (xCall (Value.func (.func 66) #[] #[]) [T7]) w_4 fun V8 w_6 =>
 opK Tryd.prog E (xNil V8) w_6 fun a1C w_8 =>
 opK Tryd.prog E (xV (Instr.fieldAt 92 a1C 2)) w_8 fun a6l l9 =>
 opK Tryd.prog E (xV (Instr.loadAt 34 a6l)) l9 fun a0Y q9 =>
 R a0Y q9
noncomputable def c27 : Code := Tryd.f27.body.getD .skip
def h27 : Hint := (.seq .none (.seq .none .none))
theorem c7y (x0 : Value) (w : World) (R : Value → World → Prop) (E : Pan) : F27 x0 w R E = callX Tryd.prog [.tmp 2] c27 h27 [x0] w R E := by kernel_rfl
theorem c7z {x0 : Value} {w : World} {R : Value → World → Prop} {E : Pan} (h : F27 x0 w R E) : Cv Tryd.prog 27 #[x0] w R E := by
 refine g5 (args := [x0]) (c := c27) (h := h27) (rs := [.tmp 2]) Tryd.func27 (by kernel_rfl) (by kernel_rfl) (Nat.le_of_ble_eq_true (by kernel_rfl)) (by kernel_rfl) (by kernel_rfl) (by kernel_rfl) ?_
 rw [← c7y]
 exact h
def b3r (x3 : Value) (w : World) (R : Value → World → Prop) (E : Pan) : Prop :=
 ∀ _τ : Fr, (opK Tryd.prog E (xV (Instr.loadAt 93 x3)) w fun c7A r7 =>
 R c7A r7)
def F57 (x0 : Value) (w : World) (R : Value → World → Prop) (E : Pan) : Prop :=
 opK Tryd.prog E (xV (Instr.build 92 #[])) w fun b1f w_2 =>
 opK Tryd.prog E (xV (Instr.box 92 b1f)) w_2 fun a6m w_4 =>
 opK Tryd.prog E (xV (Instr.alloc 93 true (.tuple #[]))) w_4 fun a8V w_6 =>
 opK Tryd.prog E (xU (Instr.storeAt 93 a8V a6m)) w_6 fun _z_7 w_8 =>
 opK Tryd.prog E (xV (Instr.alloc 139 true (.tuple #[]))) w_8 fun c1i l9 =>
 opK Tryd.prog E (xV (Instr.makeFunc (.func 89) #[] #[a8V, c1i])) l9 fun b0f q9 =>
 opK Tryd.prog E (xU (Instr.storeAt 139 c1i b0f)) q9 fun _z_13 o7 =>
 xcut (fun _ t8 => b3r a8V t8 R E) fun j1 =>
 opK Tryd.prog E (xV (Instr.loadAt 139 c1i)) o7 fun d6Q u0 =>
 opK Tryd.prog E (xCall d6Q [x0, (Value.int .i64 1)]) u0 fun c7B v6 =>
 opK Tryd.prog E (xV (Op.unary .not c7B)) v6 fun c7C v7 =>
 xcond c7C
 (j1 [] v7)
 (opK Tryd.prog E (xV (Instr.loadAt 93 a8V)) v7 fun c7D B1 =>
 opK Tryd.prog E (xNil c7D) B1 fun c7E D8 =>
 opK Tryd.prog E (xV (Instr.fieldAt 92 c7E 3)) D8 fun b0g E7 =>
 opK Tryd.prog E (xV (Instr.loadAt 4 b0g)) E7 fun c7F D6 =>
 xcond c7F
 (opK Tryd.prog E (xV (Instr.loadAt 93 a8V)) D6 fun c7G D9 =>
 opK Tryd.prog E (xNil c7G) D9 fun c7H J4 =>
 opK Tryd.prog E (xV (Instr.fieldAt 92 c7H 2)) J4 fun c7I K8 =>
 opK Tryd.prog E (xU (Instr.storeAt 34 c7I (Value.int .i64 30))) K8 fun _z_39 K3 =>
 j1 [] K3)
 (opK Tryd.prog E (xV (Instr.loadAt 93 a8V)) D6 fun c7J M6 =>
 opK Tryd.prog E (xNil c7J) M6 fun c7K L4 =>
 opK Tryd.prog E (xV (Instr.fieldAt 92 c7K 4)) L4 fun c7L S3 =>
 opK Tryd.prog E (xV (Instr.loadAt 4 c7L)) S3 fun c7M R0 =>
 xcond c7M
 (opK Tryd.prog E (xV (Instr.loadAt 93 a8V)) R0 fun c7N M7 =>
 opK Tryd.prog E (xNil c7N) M7 fun c7O R1 =>
 opK Tryd.prog E (xV (Instr.fieldAt 92 c7O 2)) R1 fun c7P X4 =>
 opK Tryd.prog E (xU (Instr.storeAt 34 c7P (Value.int .i64 31))) X4 fun _z_55 V9 =>
 j1 [] V9)
 (j1 [] R0)))
noncomputable def c57 : Code := Tryd.f57.body.getD .skip
def h57 : Hint := (.seq .none (.seq .none (.seq .none (.seq .none (.cut [] (.seq .none (.block (.seq .none (.cond .none (.seq .none (.cond .none (.seq .none (.cond .none .none)))))))) (.seq .none .none))))))
theorem c7Q (x0 : Value) (w : World) (R : Value → World → Prop) (E : Pan) : F57 x0 w R E = callX Tryd.prog [.tmp 2] c57 h57 [x0] w R E := by kernel_rfl
theorem c7R {x0 : Value} {w : World} {R : Value → World → Prop} {E : Pan} (h : F57 x0 w R E) : Cv Tryd.prog 57 #[x0] w R E := by
 refine g5 (args := [x0]) (c := c57) (h := h57) (rs := [.tmp 2]) Tryd.func57 (by kernel_rfl) (by kernel_rfl) (Nat.le_of_ble_eq_true (by kernel_rfl)) (by kernel_rfl) (by kernel_rfl) (by kernel_rfl) ?_
 rw [← c7Q]
 exact h
def F66 (x0 : Value) (w : World) (R : Value → World → Prop) (E : Pan) : Prop :=
 opK Tryd.prog E (xV (Instr.box 25 x0)) w fun o9 w_2 =>
 dX w_2 fun w_3 =>
 qP Tryd.prog (xV (Instr.fieldAt 25 o9 0)) fun b1g =>
 qP Tryd.prog (xV (Instr.fieldAt 25 o9 1)) fun a5n =>
 qL Tryd.prog w_3 (blk b1g) (xV (Instr.loadAt 22 b1g)) fun d9u =>
 qL Tryd.prog w_3 (blk a5n) (xV (Instr.loadAt 23 a5n)) fun b1h =>
 opK Tryd.prog E (xCall (Value.func (.func 95) #[] #[]) [d9u, (Value.func (.func 96) #[] #[])]) w_3 fun c1j w_9 =>
 keepX [(blk a5n)] w_3 w_9 (opK Tryd.prog E (xCall (Value.func (.func 97) #[] #[]) [b1h, (Value.func (.func 98) #[] #[])]) w_9 fun b6t O8 =>
 keepX [] w_9 O8 (opK Tryd.prog E (xV (Instr.buildSlice 172 2 #[(0, c1j), (1, b6t)])) O8 fun d6R a0z =>
 keepX [] O8 a0z (opK Tryd.prog E (xCall (Value.func (.func 94) #[] #[]) [d6R]) a0z fun c7S a8W =>
 keepX [] a0z a8W (opK Tryd.prog E (xCall (Value.func (.func 57) #[] #[]) [c7S]) a8W fun c7T a1h =>
 keepX [] a8W a1h (R c7T a1h)))))
noncomputable def c66 : Code := Tryd.f66.body.getD .skip
def h66 : Hint := (.seq .none (.seq (.reg [(0, 8, 2), (1, 16, 8), (2, 32, 16), (0, 64, 2), (8, 128, 64), (20, 256, 128), (36, 512, 288), (96, 1024, 512), (128, 2048, 1024), (511, 4, 2048)] [18, 16, 16, 18, 2, 0, 0, 0, 0, 18] (.early 0 (.early 3 (.load 1 (.load 4 (.step 2 (.step 5 (.step 6 (.step 7 (.step 8 (.early 9 .done))))))))))) .none))
theorem c7U (x0 : Value) (w : World) (R : Value → World → Prop) (E : Pan) : F66 x0 w R E = callX Tryd.prog [.tmp 2] c66 h66 [x0] w R E := by kernel_rfl
theorem c7V {x0 : Value} {w : World} {R : Value → World → Prop} {E : Pan} (h : F66 x0 w R E) : Cv Tryd.prog 66 #[x0] w R E := by
 refine g5 (args := [x0]) (c := c66) (h := h66) (rs := [.tmp 2]) Tryd.func66 (by kernel_rfl) (by kernel_rfl) (Nat.le_of_ble_eq_true (by kernel_rfl)) (by kernel_rfl) (by kernel_rfl) (by kernel_rfl) ?_
 rw [← c7U]
 exact h
def b3s (w : World) (R : Value → World → Prop) (_E : Pan) : Prop :=
 ∀ _τ : Fr, (R (Value.bool true) w)
def b8W (x1 x2 x3 x9 x10 x11 : Value) (w : World) (next2 : List Value → World → Prop) (j1 : List Value → World → Prop) (R : Value → World → Prop) (E : Pan) : Prop :=
 opK Tryd.prog E (xBin .lss 3 (.tmp 11) (.tmp 10) x11 x10) w fun b0h w_6 =>
 xcond b0h
 (opK Tryd.prog E (xV (Instr.indexAt 97 x9 x11)) w_6 fun b0i w_8 =>
 opK Tryd.prog E (xV (Instr.loadAt 141 b0i)) w_8 fun a2e l9 =>
 dX l9 fun O8 =>
 qL Tryd.prog O8 (blk x2) (xV (Instr.loadAt 93 x2)) fun c7W =>
 opK Tryd.prog E (xCall (Value.func (.func 90) #[] #[]) [c7W, a2e, x1]) O8 fun a4b o7 =>
 keepX [] O8 o7 (qP Tryd.prog (xV (Op.unary .not a4b)) fun a1r =>
 qP Tryd.prog (gsem (asB a1r) false (xBin .add 3 (.tmp 24) (.const (Value.int .i64 1)) (gval (asB a1r) false x1) (Value.int .i64 1))) fun c7X =>
 qL Tryd.prog o7 (blk x3) (gsem (asB a1r) false (xV (Instr.loadAt 139 x3))) fun c7Y =>
 opK Tryd.prog E (gsem (asB a1r) false (xInvoke (gval (asB a1r) false a2e) "gnomon/tree.parts" [])) o7 fun c7Z a2A =>
 keepX [(blk x3)] o7 a2A (opK Tryd.prog E (gsem (asB a1r) false (xCall c7Y [c7Z, c7X])) a2A fun c8a a4c =>
 keepX [] a2A a4c (qP Tryd.prog (gsem (asB a1r) false (xV (Op.unary .not c8a))) fun c8b =>
 qP Tryd.prog (xPick a1r (Value.bool true) c8b) fun b3t =>
 xcond b3t
 (R (Value.bool false) a4c)
 (opK Tryd.prog E (xBin .add 3 (.tmp 11) (.const (Value.int .i64 1)) x11 (Value.int .i64 1)) a4c fun c8c b1i =>
 next2 [c8c] b1i)))))
 (j1 [] w_6)
def F89 (x0 x1 x2 x3 : Value) (w : World) (R : Value → World → Prop) (E : Pan) : Prop :=
 xcut (fun _ w_2 => b3s w_2 R E) fun j1 =>
 opK Tryd.prog E (xBuiltin .len #[97] 3 [false] [x0]) w fun b0j w_4 =>
 xloop [11] [(Value.int .i64 0)] w_4 fun τ_26 a3r next2 =>
 b8W x1 x2 x3 x0 b0j (τ_26 11) a3r next2 j1 R E
noncomputable def c89 : Code := Tryd.f89.body.getD .skip
def h89 : Hint := (.seq .none (.cut [] (.seq .none (.block (.loop [11] (.seq .none (.seq (.cond .none .none) (.seq (.block (.seq .none (.seq (.reg [(0, 32768, 4), (0, 65536, 256), (0, 131072, 2), (7, 262144, 229376), (8, 524288, 262144), (24, 1048576, 524288), (32, 2097152, 1048584), (32, 4194304, 1048832), (160, 8388608, 5242880), (32, 16777216, 1048578), (544, 33554432, 17825792), (1376, 67108864, 45088768), (2080, 134217728, 68157440), (4128, 268435456, 135266304)] [64, 65, 65, 0, 65, 65, 1, 65, 64, 65, 65, 0, 65, 65] (.early 1 (.early 2 (.load 0 (.step 3 (.early 4 (.early 5 (.early 7 (.early 9 (.early 10 (.load 6 (.step 8 (.step 11 (.early 12 (.early 13 .done))))))))))))))) (.cond (.seq .none .none) .none)))) .none)))))) (.seq .none .none)))
theorem c8d (x0 x1 x2 x3 : Value) (w : World) (R : Value → World → Prop) (E : Pan) : F89 x0 x1 x2 x3 w R E = callX Tryd.prog [.tmp 6] c89 h89 [x0, x1, x2, x3] w R E := by kernel_rfl
theorem c8e {x0 x1 x2 x3 : Value} {w : World} {R : Value → World → Prop} {E : Pan} (h : F89 x0 x1 x2 x3 w R E) : Cv Tryd.prog 89 #[x0, x1, x2, x3] w R E := by
 refine g5 (args := [x0, x1, x2, x3]) (c := c89) (h := h89) (rs := [.tmp 6]) Tryd.func89 (by kernel_rfl) (by kernel_rfl) (Nat.le_of_ble_eq_true (by kernel_rfl)) (by kernel_rfl) (by kernel_rfl) (by kernel_rfl) ?_
 rw [← c8d]
 exact h
def b3u (w : World) (R : Value → World → Prop) (_E : Pan) : Prop :=
 ∀ _τ : Fr, (R (Value.bool true) w)
def F90 (x0 x1 x2 : Value) (w : World) (R : Value → World → Prop) (E : Pan) : Prop :=
 opK Tryd.prog E (xNil x0) w fun a4X w_2 =>
 opK Tryd.prog E (xV (Instr.fieldAt 92 a4X 0)) w_2 fun b0k w_4 =>
 opK Tryd.prog E (xV (Instr.loadAt 3 b0k)) w_4 fun b0h w_6 =>
 opK Tryd.prog E (xBin .add 3 (.tmp 12) (.const (Value.int .i64 1)) b0h (Value.int .i64 1)) w_6 fun b0i w_8 =>
 opK Tryd.prog E (xNil x0) w_8 fun a2e l9 =>
 opK Tryd.prog E (xV (Instr.fieldAt 92 a2e 0)) l9 fun a4d q9 =>
 opK Tryd.prog E (xU (Instr.storeAt 3 a4d b0i)) q9 fun _z_13 o7 =>
 opK Tryd.prog E (xNil x0) o7 fun a4e r7 =>
 opK Tryd.prog E (xV (Instr.fieldAt 92 a4e 0)) r7 fun a7q t8 =>
 opK Tryd.prog E (xV (Instr.loadAt 3 a7q)) t8 fun b3v u0 =>
 opK Tryd.prog E (xBin .gtr 3 (.tmp 19) (.const (Value.int .i64 4096)) b3v (Value.int .i64 4096)) u0 fun c8f v6 =>
 xcond c8f
 (opK Tryd.prog E (xNil x0) v6 fun c8g v7 =>
 opK Tryd.prog E (xV (Instr.fieldAt 92 c8g 2)) v7 fun c8h B1 =>
 opK Tryd.prog E (xU (Instr.storeAt 34 c8h (Value.int .i64 33))) B1 fun _z_27 D8 =>
 R (Value.bool false) D8)
 (opK Tryd.prog E (xBin .gtr 3 (.tmp 24) (.const (Value.int .i64 64)) x2 (Value.int .i64 64)) v6 fun c8i E7 =>
 xcond c8i
 (opK Tryd.prog E (xNil x0) E7 fun b3w D6 =>
 opK Tryd.prog E (xV (Instr.fieldAt 92 b3w 2)) D6 fun b3x D9 =>
 opK Tryd.prog E (xU (Instr.storeAt 34 b3x (Value.int .i64 32))) D9 fun _z_35 J4 =>
 R (Value.bool false) J4)
 (opK Tryd.prog E (xNil x0) E7 fun c8j K8 =>
 opK Tryd.prog E (xV (Instr.fieldAt 92 c8j 1)) K8 fun c8k K3 =>
 opK Tryd.prog E (xV (Instr.loadAt 3 c8k)) K3 fun c8l M6 =>
 opK Tryd.prog E (xBuiltin .max #[3, 3] 3 [false, false] [c8l, x2]) M6 fun b3y L4 =>
 opK Tryd.prog E (xNil x0) L4 fun c8m S3 =>
 opK Tryd.prog E (xV (Instr.fieldAt 92 c8m 1)) S3 fun c8n R0 =>
 opK Tryd.prog E (xU (Instr.storeAt 3 c8n b3y)) R0 fun _z_49 M7 =>
 opK Tryd.prog E (xNil x0) M7 fun c8o R1 =>
 opK Tryd.prog E (xV (Instr.fieldAt 92 c8o 3)) R1 fun c8p X4 =>
 opK Tryd.prog E (xV (Instr.loadAt 4 c8p)) X4 fun b0l V9 =>
 opK Tryd.prog E (gsem (asB b0l) false (xInvoke (gval (asB b0l) false x1) "gnomon/tree.form" [])) V9 fun c8q X5 =>
 opK Tryd.prog E (gsem (asB b0l) false (xV (Op.unary .not c8q))) X5 fun c8r Y4 =>
 opK Tryd.prog E (xPick b0l (Value.bool true) c8r) Y4 fun c8s a0l =>
 opK Tryd.prog E (xNil x0) a0l fun c8t a0A =>
 opK Tryd.prog E (xV (Instr.fieldAt 92 c8t 3)) a0A fun c8u Y5 =>
 opK Tryd.prog E (xU (Instr.storeAt 4 c8u c8s)) Y5 fun _z_67 a1D =>
 xcut (fun _ a0m => b3u a0m R E) fun j1 =>
 opK Tryd.prog E (xCall (Value.func (.func 114) #[] #[]) [x1]) a1D fun b8X a0o =>
 opK Tryd.prog E (xV (Instr.extract b8X 0)) a0o fun a7r a1i =>
 opK Tryd.prog E (xV (Instr.extract b8X 1)) a1i fun c8v a0B =>
 xcond c8v
 (opK Tryd.prog E (xNil x0) a0B fun c8w a2f =>
 opK Tryd.prog E (xV (Instr.fieldAt 92 c8w 4)) a2f fun c8x a2B =>
 opK Tryd.prog E (xV (Instr.loadAt 4 c8x)) a2B fun a4f a3s =>
 opK Tryd.prog E (gsem (asB a4f) false (xCall (Value.func (.func 115) #[] #[]) [(gval (asB a4f) false a7r)])) a3s fun c8y a5o =>
 opK Tryd.prog E (gsem (asB a4f) false (xV (Op.unary .not c8y))) a5o fun c8z a5p =>
 opK Tryd.prog E (xPick a4f (Value.bool true) c8z) a5p fun c8A a3t =>
 opK Tryd.prog E (xNil x0) a3t fun c8B a8X =>
 opK Tryd.prog E (xV (Instr.fieldAt 92 c8B 4)) a8X fun c8C a8Y =>
 opK Tryd.prog E (xU (Instr.storeAt 4 c8C c8A)) a8Y fun _z_93 a7s =>
 opK Tryd.prog E (xNil x0) a7s fun c8D a6n =>
 opK Tryd.prog E (xV (Instr.fieldAt 92 c8D 5)) a6n fun c8E a8Z =>
 opK Tryd.prog E (xV (Instr.loadAt 47 c8E)) a8Z fun c8F a4Y =>
 opK Tryd.prog E (xCall (Value.func (.func 116) #[] #[]) [c8F, a7r]) a4Y fun c4V a3G =>
 opK Tryd.prog E (xV (Op.unary .not c4V)) a3G fun c4W a8h =>
 xcond c4W
 (opK Tryd.prog E (xNil x0) a8h fun c4X a3H =>
 opK Tryd.prog E (xV (Instr.fieldAt 92 c4X 5)) a3H fun c4Y b6u =>
 opK Tryd.prog E (xV (Instr.loadAt 47 c4Y)) b6u fun c4Z b6v =>
 opK Tryd.prog E (xV (Instr.buildSlice 47 1 #[(0, a7r)])) b6v fun c5a b6w =>
 opK Tryd.prog E (xBuiltin .append #[47, 47] 47 [false, false] [c4Z, c5a]) b6w fun c5b a4Z =>
 opK Tryd.prog E (xNil x0) a4Z fun c5c a6o =>
 opK Tryd.prog E (xV (Instr.fieldAt 92 c5c 5)) a6o fun c5d b6x =>
 opK Tryd.prog E (xU (Instr.storeAt 47 c5d c5b)) b6x fun _z_119 a8i =>
 j1 [] a8i)
 (j1 [] a8h))
 (j1 [] a0B)))
noncomputable def c90 : Code := Tryd.f90.body.getD .skip
def h90 : Hint := (.seq .none (.seq (.seq .none (.seq .none (.cond (.seq .none (.seq .none .none)) .none))) (.seq (.seq .none (.cond (.seq .none (.seq .none .none)) .none)) (.seq .none (.seq .none (.cut [] (.seq .none (.seq .none (.cond (.seq .none (.seq .none (.cond .none .none))) .none))) (.seq .none .none)))))))
theorem c8G (x0 x1 x2 : Value) (w : World) (R : Value → World → Prop) (E : Pan) : F90 x0 x1 x2 w R E = callX Tryd.prog [.tmp 6] c90 h90 [x0, x1, x2] w R E := by kernel_rfl
theorem c8H {x0 x1 x2 : Value} {w : World} {R : Value → World → Prop} {E : Pan} (h : F90 x0 x1 x2 w R E) : Cv Tryd.prog 90 #[x0, x1, x2] w R E := by
 refine g5 (args := [x0, x1, x2]) (c := c90) (h := h90) (rs := [.tmp 6]) Tryd.func90 (by kernel_rfl) (by kernel_rfl) (Nat.le_of_ble_eq_true (by kernel_rfl)) (by kernel_rfl) (by kernel_rfl) (by kernel_rfl) ?_
 rw [← c8G]
 exact h
def b3z (x6 : Value) (w : World) (R : Value → World → Prop) (_E : Pan) : Prop :=
 ∀ _τ : Fr, (R x6 w)
def b8Y (x6 x25 x26 x27 : Value) (w : World) (next3 : List Value → World → Prop) (j2 : List Value → World → Prop) (_R : Value → World → Prop) (E : Pan) : Prop :=
 opK Tryd.prog E (xBin .lss 3 (.tmp 27) (.tmp 26) x27 x26) w fun d6S w_8 =>
 xcond d6S
 (opK Tryd.prog E (xV (Instr.indexAt 172 x25 x27)) w_8 fun d6T l9 =>
 opK Tryd.prog E (xV (Instr.loadAt 97 d6T)) l9 fun c8I q9 =>
 opK Tryd.prog E (xBuiltin .append #[97, 97] 97 [false, false] [x6, c8I]) q9 fun c8J o7 =>
 opK Tryd.prog E (xBin .add 3 (.tmp 27) (.const (Value.int .i64 1)) x27 (Value.int .i64 1)) o7 fun c8K r7 =>
 next3 [c8J, c8K] r7)
 (j2 [x6] w_8)
def b3A (x0 x3 : Value) (w : World) (R : Value → World → Prop) (E : Pan) : Prop :=
 ∀ _τ : Fr, (opK Tryd.prog E (xCall (Value.func (.func 120) #[] #[]) [(Value.slice none 0 0), x3]) w fun d6U w_2 =>
 xcut (fun l_3 w_4 => b3z (nth l_3 0) w_4 R E) fun j2 =>
 opK Tryd.prog E (xBuiltin .len #[172] 3 [false] [x0]) w_2 fun d6V w_6 =>
 xloop [6, 27] [d6U, (Value.int .i64 0)] w_6 fun τ_17 t8 next3 =>
 b8Y (τ_17 6) x0 d6V (τ_17 27) t8 next3 j2 R E)
def b3B (_x0 x3 _x9 _x10 x11 : Value) (w : World) (next4 : List Value → World → Prop) (_R : Value → World → Prop) (E : Pan) : Prop :=
 ∀ _τ : Fr, (opK Tryd.prog E (xBin .add 3 (.tmp 11) (.const (Value.int .i64 1)) x11 (Value.int .i64 1)) w fun c8L B1 =>
 next4 [x3, c8L] B1)
def b8Z (x0 x3 x9 x10 x11 : Value) (w : World) (next4 : List Value → World → Prop) (j1 : List Value → World → Prop) (R : Value → World → Prop) (E : Pan) : Prop :=
 opK Tryd.prog E (xBin .lss 3 (.tmp 11) (.tmp 10) x11 x10) w fun c8M v7 =>
 xcond c8M
 (xcut (fun c1k D8 => b3B x0 (nth c1k 0) x9 x10 x11 D8 next4 R E) fun j5 =>
 opK Tryd.prog E (xV (Instr.indexAt 172 x9 x11)) v7 fun c8N E7 =>
 opK Tryd.prog E (xV (Instr.loadAt 97 c8N)) E7 fun c8O D6 =>
 opK Tryd.prog E (xBuiltin .len #[97] 3 [false] [c8O]) D6 fun b3C D9 =>
 opK Tryd.prog E (xBin .add 3 (.tmp 15) (.tmp 17) x3 b3C) D9 fun a7t J4 =>
 opK Tryd.prog E (xBin .lss 3 (.tmp 19) (.const (Value.int .i64 0)) a7t (Value.int .i64 0)) J4 fun c8P K8 =>
 xcond c8P
 (opK Tryd.prog E (xV (Instr.makeInterface 9 (Value.string ⟨#[108, 101, 110, 32, 111, 117, 116, 32, 111, 102, 32, 114, 97, 110, 103, 101]⟩))) K8 fun c8Q K3 =>
 opK Tryd.prog E (xV (Instr.panic c8Q)) K3 fun _z_41 M6 =>
 j5 [a7t] M6)
 (j5 [a7t] K8))
 (j1 [x3] v7)
def F94 (x0 : Value) (w : World) (R : Value → World → Prop) (E : Pan) : Prop :=
 xcut (fun d9v u0 => b3A x0 (nth d9v 0) u0 R E) fun j1 =>
 opK Tryd.prog E (xBuiltin .len #[172] 3 [false] [x0]) w fun c8R v6 =>
 xloop [3, 11] [(Value.int .i64 0), (Value.int .i64 0)] v6 fun τ_43 L4 next4 =>
 b8Z x0 (τ_43 3) x0 c8R (τ_43 11) L4 next4 j1 R E
noncomputable def c94 : Code := Tryd.f94.body.getD .skip
def h94 : Hint := (.seq .none (.seq .none (.cut [3] (.seq .none (.block (.loop [3, 11] (.seq .none (.seq (.cond .none .none) (.cut [3] (.block (.seq .none (.seq .none (.seq .none (.cond .none .none))))) .none)))))) (.seq .none (.cut [6] (.seq .none (.block (.loop [6, 27] (.seq .none (.seq (.cond .none .none) (.seq (.block (.seq .none .none)) .none)))))) (.seq .none .none))))))
theorem c8S (x0 : Value) (w : World) (R : Value → World → Prop) (E : Pan) : F94 x0 w R E = callX Tryd.prog [.tmp 2] c94 h94 [x0] w R E := by kernel_rfl
theorem c8T {x0 : Value} {w : World} {R : Value → World → Prop} {E : Pan} (h : F94 x0 w R E) : Cv Tryd.prog 94 #[x0] w R E := by
 refine g5 (args := [x0]) (c := c94) (h := h94) (rs := [.tmp 2]) Tryd.func94 (by kernel_rfl) (by kernel_rfl) (Nat.le_of_ble_eq_true (by kernel_rfl)) (by kernel_rfl) (by kernel_rfl) (by kernel_rfl) ?_
 rw [← c8S]
 exact h
def b3D (x5 : Value) (w : World) (R : Value → World → Prop) (_E : Pan) : Prop :=
 ∀ _τ : Fr, (R x5 w)
def b9a (x1 x5 x8 x9 x10 : Value) (w : World) (next2 : List Value → World → Prop) (j1 : List Value → World → Prop) (_R : Value → World → Prop) (E : Pan) : Prop :=
 opK Tryd.prog E (xBin .lss 3 (.tmp 10) (.tmp 9) x10 x9) w fun a2Z w_6 =>
 xcond a2Z
 (opK Tryd.prog E (xV (Instr.indexAt 22 x8 x10)) w_6 fun a0t w_8 =>
 opK Tryd.prog E (xV (Instr.loadAt 67 a0t)) w_8 fun Y6 l9 =>
 opK Tryd.prog E (xV (Instr.alloc 67 true (.tuple #[]))) l9 fun a0Y q9 =>
 opK Tryd.prog E (xU (Instr.storeAt 67 a0Y Y6)) q9 fun _z_13 o7 =>
 opK Tryd.prog E (xV (Instr.loadAt 67 a0Y)) o7 fun a0C r7 =>
 opK Tryd.prog E (xCall x1 [a0C]) r7 fun a0D t8 =>
 opK Tryd.prog E (xV (Instr.buildSlice 97 1 #[(0, a0D)])) t8 fun a0E u0 =>
 opK Tryd.prog E (xBuiltin .append #[97, 97] 97 [false, false] [x5, a0E]) u0 fun a0F v6 =>
 opK Tryd.prog E (xBin .add 3 (.tmp 10) (.const (Value.int .i64 1)) x10 (Value.int .i64 1)) v6 fun a0G v7 =>
 next2 [a0F, a0G] v7)
 (j1 [x5] w_6)
def F95 (x0 x1 : Value) (w : World) (R : Value → World → Prop) (E : Pan) : Prop :=
 xcut (fun l_1 w_2 => b3D (nth l_1 0) w_2 R E) fun j1 =>
 opK Tryd.prog E (xBuiltin .len #[22] 3 [false] [x0]) w fun a2C w_4 =>
 xloop [5, 10] [(Value.slice none 0 0), (Value.int .i64 0)] w_4 fun τ_25 B1 next2 =>
 b9a x1 (τ_25 5) x0 a2C (τ_25 10) B1 next2 j1 R E
noncomputable def c95 : Code := Tryd.f95.body.getD .skip
def h95 : Hint := (.seq .none (.seq .none (.cut [5] (.seq .none (.block (.loop [5, 10] (.seq .none (.seq (.cond .none .none) (.seq (.block (.seq .none .none)) .none)))))) (.seq .none .none))))
theorem c8U (x0 x1 : Value) (w : World) (R : Value → World → Prop) (E : Pan) : F95 x0 x1 w R E = callX Tryd.prog [.tmp 4] c95 h95 [x0, x1] w R E := by kernel_rfl
theorem c8V {x0 x1 : Value} {w : World} {R : Value → World → Prop} {E : Pan} (h : F95 x0 x1 w R E) : Cv Tryd.prog 95 #[x0, x1] w R E := by
 refine g5 (args := [x0, x1]) (c := c95) (h := h95) (rs := [.tmp 4]) Tryd.func95 (by kernel_rfl) (by kernel_rfl) (Nat.le_of_ble_eq_true (by kernel_rfl)) (by kernel_rfl) (by kernel_rfl) (by kernel_rfl) ?_
 rw [← c8U]
 exact h
def F96 (x0 : Value) (w : World) (R : Value → World → Prop) (E : Pan) : Prop :=
 opK Tryd.prog E (xV (Instr.box 67 x0)) w fun o9 w_2 =>
 opK Tryd.prog E (xV (Instr.loadAt 67 o9)) w_2 fun T7 w_4 =>
 opK Tryd.prog E (xV (Instr.build 175 #[(0, T7)])) w_4 fun V8 w_6 =>
 opK Tryd.prog E (xV (Instr.makeInterface 175 V8)) w_6 fun a1C w_8 =>
 R a1C w_8
noncomputable def c96 : Code := Tryd.f96.body.getD .skip
def h96 : Hint := (.seq .none (.seq .none .none))
theorem c8W (x0 : Value) (w : World) (R : Value → World → Prop) (E : Pan) : F96 x0 w R E = callX Tryd.prog [.tmp 2] c96 h96 [x0] w R E := by kernel_rfl
theorem c8X {x0 : Value} {w : World} {R : Value → World → Prop} {E : Pan} (h : F96 x0 w R E) : Cv Tryd.prog 96 #[x0] w R E := by
 refine g5 (args := [x0]) (c := c96) (h := h96) (rs := [.tmp 2]) Tryd.func96 (by kernel_rfl) (by kernel_rfl) (Nat.le_of_ble_eq_true (by kernel_rfl)) (by kernel_rfl) (by kernel_rfl) (by kernel_rfl) ?_
 rw [← c8W]
 exact h
def b3E (x5 : Value) (w : World) (R : Value → World → Prop) (_E : Pan) : Prop :=
 ∀ _τ : Fr, (R x5 w)
def b9b (x1 x5 x8 x9 x10 : Value) (w : World) (next2 : List Value → World → Prop) (j1 : List Value → World → Prop) (_R : Value → World → Prop) (E : Pan) : Prop :=
 opK Tryd.prog E (xBin .lss 3 (.tmp 10) (.tmp 9) x10 x9) w fun a2Z w_6 =>
 xcond a2Z
 (opK Tryd.prog E (xV (Instr.indexAt 23 x8 x10)) w_6 fun a0t w_8 =>
 opK Tryd.prog E (xV (Instr.loadAt 88 a0t)) w_8 fun Y6 l9 =>
 opK Tryd.prog E (xV (Instr.alloc 88 true (.tuple #[]))) l9 fun a0Y q9 =>
 opK Tryd.prog E (xU (Instr.storeAt 88 a0Y Y6)) q9 fun _z_13 o7 =>
 opK Tryd.prog E (xV (Instr.loadAt 88 a0Y)) o7 fun a0C r7 =>
 opK Tryd.prog E (xCall x1 [a0C]) r7 fun a0D t8 =>
 opK Tryd.prog E (xV (Instr.buildSlice 97 1 #[(0, a0D)])) t8 fun a0E u0 =>
 opK Tryd.prog E (xBuiltin .append #[97, 97] 97 [false, false] [x5, a0E]) u0 fun a0F v6 =>
 opK Tryd.prog E (xBin .add 3 (.tmp 10) (.const (Value.int .i64 1)) x10 (Value.int .i64 1)) v6 fun a0G v7 =>
 next2 [a0F, a0G] v7)
 (j1 [x5] w_6)
def F97 (x0 x1 : Value) (w : World) (R : Value → World → Prop) (E : Pan) : Prop :=
 xcut (fun l_1 w_2 => b3E (nth l_1 0) w_2 R E) fun j1 =>
 opK Tryd.prog E (xBuiltin .len #[23] 3 [false] [x0]) w fun a2C w_4 =>
 xloop [5, 10] [(Value.slice none 0 0), (Value.int .i64 0)] w_4 fun τ_25 B1 next2 =>
 b9b x1 (τ_25 5) x0 a2C (τ_25 10) B1 next2 j1 R E
noncomputable def c97 : Code := Tryd.f97.body.getD .skip
def h97 : Hint := (.seq .none (.seq .none (.cut [5] (.seq .none (.block (.loop [5, 10] (.seq .none (.seq (.cond .none .none) (.seq (.block (.seq .none .none)) .none)))))) (.seq .none .none))))
theorem c8Y (x0 x1 : Value) (w : World) (R : Value → World → Prop) (E : Pan) : F97 x0 x1 w R E = callX Tryd.prog [.tmp 4] c97 h97 [x0, x1] w R E := by kernel_rfl
theorem c8Z {x0 x1 : Value} {w : World} {R : Value → World → Prop} {E : Pan} (h : F97 x0 x1 w R E) : Cv Tryd.prog 97 #[x0, x1] w R E := by
 refine g5 (args := [x0, x1]) (c := c97) (h := h97) (rs := [.tmp 4]) Tryd.func97 (by kernel_rfl) (by kernel_rfl) (Nat.le_of_ble_eq_true (by kernel_rfl)) (by kernel_rfl) (by kernel_rfl) (by kernel_rfl) ?_
 rw [← c8Y]
 exact h
def F98 (x0 : Value) (w : World) (R : Value → World → Prop) (E : Pan) : Prop :=
 opK Tryd.prog E (xV (Instr.box 88 x0)) w fun o9 w_2 =>
 opK Tryd.prog E (xV (Instr.loadAt 88 o9)) w_2 fun T7 w_4 =>
 opK Tryd.prog E (xV (Instr.build 177 #[(0, T7)])) w_4 fun V8 w_6 =>
 opK Tryd.prog E (xV (Instr.makeInterface 177 V8)) w_6 fun a1C w_8 =>
 R a1C w_8
noncomputable def c98 : Code := Tryd.f98.body.getD .skip
def h98 : Hint := (.seq .none (.seq .none .none))
theorem c9a (x0 : Value) (w : World) (R : Value → World → Prop) (E : Pan) : F98 x0 w R E = callX Tryd.prog [.tmp 2] c98 h98 [x0] w R E := by kernel_rfl
theorem c9b {x0 : Value} {w : World} {R : Value → World → Prop} {E : Pan} (h : F98 x0 w R E) : Cv Tryd.prog 98 #[x0] w R E := by
 refine g5 (args := [x0]) (c := c98) (h := h98) (rs := [.tmp 2]) Tryd.func98 (by kernel_rfl) (by kernel_rfl) (Nat.le_of_ble_eq_true (by kernel_rfl)) (by kernel_rfl) (by kernel_rfl) (by kernel_rfl) ?_
 rw [← c9a]
 exact h
def b6y (x0 : Value) (w : World) (R : Value → World → Prop) (E : Pan) : Prop :=
 opK Tryd.prog E (xV (Instr.typeAssert x0 141 175 true)) w fun c9c w_2 =>
 opK Tryd.prog E (xV (Instr.extract c9c 1)) w_2 fun a2C w_4 =>
 opK Tryd.prog E (xV (Instr.extract c9c 0)) w_4 fun a2g w_6 =>
 xcond a2C
 (opK Tryd.prog E (xV (Instr.alloc 175 true (.tuple #[]))) w_6 fun c9d w_8 =>
 opK Tryd.prog E (xU (Instr.storeAt 175 c9d a2g)) w_8 fun _z_9 l9 =>
 opK Tryd.prog E (xV (Instr.fieldAt 175 c9d 0)) l9 fun b3F q9 =>
 opK Tryd.prog E (xV (Instr.fieldAt 67 b3F 0)) q9 fun b3G o7 =>
 opK Tryd.prog E (xV (Instr.loadAt 9 b3G)) o7 fun b0m r7 =>
 R (Value.tuple #[b0m, (Value.bool true)]) r7)
 (opK Tryd.prog E (xV (Instr.typeAssert x0 141 177 true)) w_6 fun b9c t8 =>
 opK Tryd.prog E (xV (Instr.extract b9c 1)) t8 fun b3H u0 =>
 opK Tryd.prog E (xV (Instr.extract b9c 0)) u0 fun b3I v6 =>
 xcond b3H
 (opK Tryd.prog E (xV (Instr.alloc 177 true (.tuple #[]))) v6 fun b2G v7 =>
 opK Tryd.prog E (xU (Instr.storeAt 177 b2G b3I)) v7 fun _z_25 B1 =>
 dX B1 fun a3r =>
 qP Tryd.prog (xV (Instr.fieldAt 177 b2G 0)) fun c9e =>
 qP Tryd.prog (xV (Instr.fieldAt 88 c9e 1)) fun b0g =>
 qP Tryd.prog (xV (Instr.fieldAt 177 b2G 0)) fun c9f =>
 qP Tryd.prog (xV (Instr.fieldAt 88 c9f 0)) fun b9d =>
 qL Tryd.prog a3r (blk b0g) (xV (Instr.loadAt 9 b0g)) fun c9g =>
 qL Tryd.prog a3r (blk b9d) (xV (Instr.loadAt 3 b9d)) fun c9h =>
 qP Tryd.prog (xBin .eql 3 (.tmp 22) (.const (Value.int .i64 1)) c9h (Value.int .i64 1)) fun a7u =>
 qP Tryd.prog (gsem (asB a7u) false (xV (Instr.fieldAt 177 b2G 0))) fun c9i =>
 qP Tryd.prog (gsem (asB a7u) false (xV (Instr.fieldAt 88 c9i 0))) fun b9e =>
 qL Tryd.prog a3r (blk b9e) (gsem (asB a7u) false (xV (Instr.loadAt 3 b9e))) fun c9j =>
 qP Tryd.prog (gsem (asB a7u) false (xBin .eql 3 (.tmp 27) (.const (Value.int .i64 2)) c9j (Value.int .i64 2))) fun c9k =>
 qP Tryd.prog (xPick a7u (Value.bool true) c9k) fun c9l =>
 R (Value.tuple #[c9g, c9l]) a3r)
 (opK Tryd.prog E (xV (Instr.typeAssert x0 141 96 true)) v6 fun b9f b6z =>
 opK Tryd.prog E (xV (Instr.extract b9f 1)) b6z fun b0n b3J =>
 opK Tryd.prog E (xV (Instr.extract b9f 0)) b3J fun c9m a7v =>
 xcond b0n
 (opK Tryd.prog E (xV (Instr.alloc 96 true (.tuple #[]))) a7v fun b2H b6A =>
 opK Tryd.prog E (xU (Instr.storeAt 96 b2H c9m)) b6A fun _z_48 a9a =>
 dX a9a fun M7 =>
 qP Tryd.prog (xV (Instr.fieldAt 96 b2H 0)) fun c9n =>
 qP Tryd.prog (xV (Instr.fieldAt 30 c9n 2)) fun b9g =>
 qP Tryd.prog (xV (Instr.fieldAt 96 b2H 0)) fun b3K =>
 qP Tryd.prog (xV (Instr.fieldAt 30 b3K 0)) fun b9h =>
 qL Tryd.prog M7 (blk b9g) (xV (Instr.loadAt 9 b9g)) fun c9o =>
 qL Tryd.prog M7 (blk b9h) (xV (Instr.loadAt 3 b9h)) fun c9p =>
 qP Tryd.prog (xBin .eql 3 (.tmp 38) (.const (Value.int .i64 2)) c9p (Value.int .i64 2)) fun a7w =>
 qP Tryd.prog (gsem (asB a7w) false (xV (Instr.fieldAt 96 b2H 0))) fun c9q =>
 qP Tryd.prog (gsem (asB a7w) false (xV (Instr.fieldAt 30 c9q 0))) fun b9i =>
 qL Tryd.prog M7 (blk b9i) (gsem (asB a7w) false (xV (Instr.loadAt 3 b9i))) fun c9r =>
 qP Tryd.prog (gsem (asB a7w) false (xBin .eql 3 (.tmp 43) (.const (Value.int .i64 4)) c9r (Value.int .i64 4))) fun c9s =>
 qP Tryd.prog (xPick a7w (Value.bool true) c9s) fun c9t =>
 R (Value.tuple #[c9o, c9t]) M7)
 (R (Value.tuple #[(Value.string ⟨#[]⟩), (Value.bool false)]) a7v)))
noncomputable def c9u : Code := Tryd.f114.body.getD .skip
def c9v : Hint := (.seq .none (.seq (.seq .none (.block (.seq .none (.cond (.seq .none (.seq .none .none)) (.seq .none (.cond (.seq .none (.seq (.reg [(0, 131072, 32), (1, 262144, 131072), (2, 524288, 262144), (0, 1048576, 32), (8, 2097152, 1048576), (16, 4194304, 2097152), (32, 8388608, 4194304), (64, 16777216, 8388608), (128, 33554432, 16777248), (384, 67108864, 50331648), (640, 134217728, 83886080), (1152, 268435456, 150994944), (2176, 536870912, 285212672), (135, 4, 524288), (16383, 8, 536870912)] [1060, 1060, 1056, 1060, 1060, 1028, 1060, 1060, 1060, 1060, 36, 1060, 1060, 1060, 1060] (.early 0 (.early 1 (.early 3 (.early 4 (.load 2 (.load 5 (.early 6 (.early 7 (.early 8 (.early 9 (.early 13 (.load 10 (.early 11 (.early 12 (.early 14 .done)))))))))))))))) .none)) (.seq .none (.cond (.seq .none (.seq (.reg [(0, 8589934592, 64), (1, 17179869184, 8589934592), (2, 34359738368, 17179869184), (0, 68719476736, 64), (8, 137438953472, 68719476736), (16, 274877906944, 137438953472), (32, 549755813888, 274877906944), (64, 1099511627776, 549755813888), (128, 2199023255552, 1099511627840), (384, 4398046511104, 3298534883328), (640, 8796093022208, 5497558138880), (1152, 17592186044416, 9895604649984), (2176, 35184372088832, 18691697672192), (135, 4, 34359738368), (16383, 8, 35184372088832)] [1060, 1060, 1056, 1060, 1060, 1028, 1060, 1060, 1060, 1060, 36, 1060, 1060, 1060, 1060] (.early 0 (.early 1 (.early 3 (.early 4 (.load 2 (.load 5 (.early 6 (.early 7 (.early 8 (.early 9 (.early 13 (.load 10 (.early 11 (.early 12 (.early 14 .done)))))))))))))))) .none)) .none)))))))) (.seq .none .none)))
theorem c5e (x0 : Value) (w : World) (R : Value → World → Prop) (E : Pan) : b6y x0 w R E = callX Tryd.prog [.tmp 2, .tmp 3] c9u c9v [x0] w R E := by kernel_rfl
theorem c5f {x0 : Value} {w : World} {R : Value → World → Prop} {E : Pan} (h : b6y x0 w R E) : Cv Tryd.prog 114 #[x0] w R E := by
 refine g5 (args := [x0]) (c := c9u) (h := c9v) (rs := [.tmp 2, .tmp 3]) Tryd.func114 (by kernel_rfl) (by kernel_rfl) (Nat.le_of_ble_eq_true (by kernel_rfl)) (by kernel_rfl) (by kernel_rfl) (by kernel_rfl) ?_
 rw [← c5e]
 exact h
def b1j (w : World) (R : Value → World → Prop) (_E : Pan) : Prop :=
 ∀ _τ : Fr, (R (Value.bool true) w)
def b5M (x21 : Value) (w : World) (next2 : List Value → World → Prop) (j1 : List Value → World → Prop) (R : Value → World → Prop) (E : Pan) : Prop :=
 opK Tryd.prog E (xV (Instr.next x21 true 0)) w fun b3L v6 =>
 opK Tryd.prog E (xV (Instr.extract b3L 0)) v6 fun c9w v7 =>
 xcond c9w
 (opK Tryd.prog E (xV (Instr.extract b3L 1)) v7 fun c9x B1 =>
 opK Tryd.prog E (xV (Instr.extract b3L 2)) B1 fun b9j D8 =>
 opK Tryd.prog E (xCall (Value.func (.func 125) #[] #[]) [b9j]) D8 fun c9y E7 =>
 opK Tryd.prog E (xV (Op.unary .not c9y)) E7 fun a3j D6 =>
 opK Tryd.prog E (gsem (asB a3j) false (xBin .eql 3 (.tmp 30) (.const (Value.int .i64 0)) (gval (asB a3j) false c9x) (Value.int .i64 0))) D6 fun b0o D9 =>
 opK Tryd.prog E (gsem (asB (gval (asB a3j) false b0o)) true (xCall (Value.func (.func 126) #[] #[]) [(gval (asB (gval (asB a3j) false b0o)) true b9j)])) D9 fun c9z J4 =>
 opK Tryd.prog E (gsem (asB (gval (asB a3j) false b0o)) true (xBin .neq 3 (.tmp 34) (.const (Value.int .i64 3)) c9z (Value.int .i64 3))) J4 fun c9A K8 =>
 opK Tryd.prog E (gsem (asB a3j) false (xPick (gval (asB a3j) false b0o) c9A (Value.bool false))) K8 fun c9B K3 =>
 opK Tryd.prog E (xPick a3j (Value.bool true) c9B) K3 fun c9C M6 =>
 xcond c9C
 (R (Value.bool false) M6)
 (next2 [] M6))
 (j1 [] v7)
def b6B (x0 : Value) (w : World) (R : Value → World → Prop) (E : Pan) : Prop :=
 opK Tryd.prog E (xBin .eql 9 (.tmp 5) (.const (Value.string ⟨#[]⟩)) x0 (Value.string ⟨#[]⟩)) w fun b1f w_2 =>
 opK Tryd.prog E (gsem (asB b1f) false (xCall (Value.func (.func 122) #[] #[]) [(gval (asB b1f) false x0)])) w_2 fun a2C w_4 =>
 opK Tryd.prog E (gsem (asB b1f) false (xV (Op.unary .not a2C))) w_4 fun a2g w_6 =>
 opK Tryd.prog E (xPick b1f (Value.bool true) a2g) w_6 fun b0p w_8 =>
 opK Tryd.prog E (gsem (asB b0p) false (xCall (Value.func (.func 123) #[] #[]) [(gval (asB b0p) false x0)])) w_8 fun a2e l9 =>
 opK Tryd.prog E (xPick b0p (Value.bool true) a2e) l9 fun a4d q9 =>
 opK Tryd.prog E (gsem (asB a4d) false (xCall (Value.func (.func 124) #[] #[]) [(gval (asB a4d) false x0)])) q9 fun a4b o7 =>
 opK Tryd.prog E (xPick a4d (Value.bool true) a4b) o7 fun a1r r7 =>
 xcond a1r
 (R (Value.bool false) r7)
 (xcut (fun _ t8 => b1j t8 R E) fun j1 =>
 opK Tryd.prog E (xV (Instr.range 9 x0)) r7 fun b3M u0 =>
 xloop [] [] u0 fun _ L4 next2 =>
 b5M b3M L4 next2 j1 R E)
noncomputable def c9D : Code := Tryd.f115.body.getD .skip
def c9E : Hint := (.seq .none (.seq (.seq .none (.cond (.seq .none .none) .none)) (.cut [] (.seq .none (.block (.loop [] (.seq .none (.seq (.cond .none .none) (.block (.seq .none (.seq .none (.cond (.seq .none .none) .none))))))))) (.seq .none .none))))
theorem c5g (x0 : Value) (w : World) (R : Value → World → Prop) (E : Pan) : b6B x0 w R E = callX Tryd.prog [.tmp 2] c9D c9E [x0] w R E := by kernel_rfl
theorem c5h {x0 : Value} {w : World} {R : Value → World → Prop} {E : Pan} (h : b6B x0 w R E) : Cv Tryd.prog 115 #[x0] w R E := by
 refine g5 (args := [x0]) (c := c9D) (h := c9E) (rs := [.tmp 2]) Tryd.func115 (by kernel_rfl) (by kernel_rfl) (Nat.le_of_ble_eq_true (by kernel_rfl)) (by kernel_rfl) (by kernel_rfl) (by kernel_rfl) ?_
 rw [← c5g]
 exact h
def b6C (x0 x1 : Value) (w : World) (R : Value → World → Prop) (E : Pan) : Prop :=
 opK Tryd.prog E (xCall (Value.func (.func 127) #[] #[]) [x0, x1]) w fun c1l w_2 =>
 opK Tryd.prog E (xBin .geq 3 (.tmp 7) (.const (Value.int .i64 0)) c1l (Value.int .i64 0)) w_2 fun b1k w_4 =>
 R b1k w_4
noncomputable def c9F : Code := Tryd.f116.body.getD .skip
def c9G : Hint := (.seq .none (.seq .none .none))
theorem c5i (x0 x1 : Value) (w : World) (R : Value → World → Prop) (E : Pan) : b6C x0 x1 w R E = callX Tryd.prog [.tmp 4] c9F c9G [x0, x1] w R E := by kernel_rfl
theorem c5j {x0 x1 : Value} {w : World} {R : Value → World → Prop} {E : Pan} (h : b6C x0 x1 w R E) : Cv Tryd.prog 116 #[x0, x1] w R E := by
 refine g5 (args := [x0, x1]) (c := c9F) (h := c9G) (rs := [.tmp 4]) Tryd.func116 (by kernel_rfl) (by kernel_rfl) (Nat.le_of_ble_eq_true (by kernel_rfl)) (by kernel_rfl) (by kernel_rfl) (by kernel_rfl) ?_
 rw [← c5i]
 exact h
def b1l (x0 : Value) (w : World) (R : Value → World → Prop) (_E : Pan) : Prop :=
 ∀ _τ : Fr, (R x0 w)
def b5N (x0 x1 : Value) (w : World) (R : Value → World → Prop) (E : Pan) : Prop :=
 ∀ _τ : Fr, (xcut (fun l_1 w_2 => b1l (nth l_1 0) w_2 R E) fun j2 =>
 opK Tryd.prog E (xBuiltin .cap #[97] 3 [false] [x0]) w fun b0j w_4 =>
 opK Tryd.prog E (xBuiltin .len #[97] 3 [false] [x0]) w_4 fun b0h w_6 =>
 opK Tryd.prog E (xBin .sub 3 (.tmp 10) (.tmp 12) b0j b0h) w_6 fun b0i w_8 =>
 opK Tryd.prog E (xBin .sub 3 (.tmp 8) (.tmp 13) x1 b0i) w_8 fun a2e l9 =>
 opK Tryd.prog E (xBin .gtr 3 (.tmp 15) (.const (Value.int .i64 0)) a2e (Value.int .i64 0)) l9 fun a0H q9 =>
 xcond a0H
 (opK Tryd.prog E (xBuiltin .cap #[97] 3 [false] [x0]) q9 fun c9H o7 =>
 opK Tryd.prog E (xV (Instr.sliceAt 97 x0 none (some c9H) none)) o7 fun c9I r7 =>
 opK Tryd.prog E (xBuiltin .append #[97, 3] 97 [false, false] [c9I, a2e]) r7 fun b3N t8 =>
 opK Tryd.prog E (xBuiltin .len #[97] 3 [false] [x0]) t8 fun c9J u0 =>
 opK Tryd.prog E (xV (Instr.sliceAt 97 b3N none (some c9J) none)) u0 fun b3O v6 =>
 j2 [b3O] v6)
 (j2 [x0] q9))
def c1m (x0 x1 : Value) (w : World) (R : Value → World → Prop) (E : Pan) : Prop :=
 xcut (fun _ v7 => b5N x0 x1 v7 R E) fun j1 =>
 opK Tryd.prog E (xBin .lss 3 (.tmp 5) (.const (Value.int .i64 0)) x1 (Value.int .i64 0)) w fun d6W B1 =>
 xcond d6W
 (opK Tryd.prog E (xV (Instr.makeInterface 9 (Value.string ⟨#[99, 97, 110, 110, 111, 116, 32, 98, 101, 32, 110, 101, 103, 97, 116, 105, 118, 101]⟩))) B1 fun b0q D8 =>
 opK Tryd.prog E (xV (Instr.panic b0q)) D8 fun _z_29 E7 =>
 j1 [] E7)
 (j1 [] B1)
noncomputable def c9K : Code := Tryd.f120.body.getD .skip
def c9L : Hint := (.seq .none (.cut [] (.seq .none (.cond .none .none)) (.cut [0] (.seq .none (.seq .none (.cond .none .none))) (.seq .none .none))))
theorem c5k (x0 x1 : Value) (w : World) (R : Value → World → Prop) (E : Pan) : c1m x0 x1 w R E = callX Tryd.prog [.tmp 4] c9K c9L [x0, x1] w R E := by kernel_rfl
theorem c5l {x0 x1 : Value} {w : World} {R : Value → World → Prop} {E : Pan} (h : c1m x0 x1 w R E) : Cv Tryd.prog 120 #[x0, x1] w R E := by
 refine g5 (args := [x0, x1]) (c := c9K) (h := c9L) (rs := [.tmp 4]) Tryd.func120 (by kernel_rfl) (by kernel_rfl) (Nat.le_of_ble_eq_true (by kernel_rfl)) (by kernel_rfl) (by kernel_rfl) (by kernel_rfl) ?_
 rw [← c5k]
 exact h
def b6D (x0 : Value) (w : World) (R : Value → World → Prop) (E : Pan) : Prop :=
 opK Tryd.prog E (xCall (Value.func (.func 130) #[] #[]) [x0]) w fun b3P w_2 =>
 opK Tryd.prog E (xBin .gtr 3 (.tmp 4) (.const (Value.int .i64 32)) b3P (Value.int .i64 32)) w_2 fun a7x w_4 =>
 R a7x w_4
noncomputable def c9M : Code := Tryd.f123.body.getD .skip
def c9N : Hint := (.seq .none (.seq .none .none))
theorem c5m (x0 : Value) (w : World) (R : Value → World → Prop) (E : Pan) : b6D x0 w R E = callX Tryd.prog [.tmp 2] c9M c9N [x0] w R E := by kernel_rfl
theorem c5n {x0 : Value} {w : World} {R : Value → World → Prop} {E : Pan} (h : b6D x0 w R E) : Cv Tryd.prog 123 #[x0] w R E := by
 refine g5 (args := [x0]) (c := c9M) (h := c9N) (rs := [.tmp 2]) Tryd.func123 (by kernel_rfl) (by kernel_rfl) (Nat.le_of_ble_eq_true (by kernel_rfl)) (by kernel_rfl) (by kernel_rfl) (by kernel_rfl) ?_
 rw [← c5m]
 exact h
def b1m (x4 : Value) (w : World) (R : Value → World → Prop) (_E : Pan) : Prop :=
 ∀ _τ : Fr, (xcond x4
 (R (Value.bool true) w)
 (R (Value.bool false) w))
def b6E (x0 : Value) (w : World) (R : Value → World → Prop) (E : Pan) : Prop :=
 xcut (fun l_1 w_2 => b1m (nth l_1 0) w_2 R E) fun j1 =>
 opK Tryd.prog E (xBin .eql 9 (.tmp 3) (.const (Value.string ⟨#[118, 97, 114]⟩)) x0 (Value.string ⟨#[118, 97, 114]⟩)) w fun a7x w_4 =>
 xcond a7x
 (j1 [a7x] w_4)
 (opK Tryd.prog E (xBin .eql 9 (.tmp 3) (.const (Value.string ⟨#[97, 114, 114, 97, 121]⟩)) x0 (Value.string ⟨#[97, 114, 114, 97, 121]⟩)) w_4 fun a5n w_6 =>
 xcond a5n
 (j1 [a5n] w_6)
 (opK Tryd.prog E (xBin .eql 9 (.tmp 3) (.const (Value.string ⟨#[105, 102]⟩)) x0 (Value.string ⟨#[105, 102]⟩)) w_6 fun b1h w_8 =>
 xcond b1h
 (j1 [b1h] w_8)
 (opK Tryd.prog E (xBin .eql 9 (.tmp 3) (.const (Value.string ⟨#[101, 108, 115, 101]⟩)) x0 (Value.string ⟨#[101, 108, 115, 101]⟩)) w_8 fun a9b l9 =>
 xcond a9b
 (j1 [a9b] l9)
 (opK Tryd.prog E (xBin .eql 9 (.tmp 3) (.const (Value.string ⟨#[119, 104, 105, 108, 101]⟩)) x0 (Value.string ⟨#[119, 104, 105, 108, 101]⟩)) l9 fun b2I q9 =>
 xcond b2I
 (j1 [b2I] q9)
 (opK Tryd.prog E (xBin .eql 9 (.tmp 3) (.const (Value.string ⟨#[97, 115, 115, 101, 114, 116]⟩)) x0 (Value.string ⟨#[97, 115, 115, 101, 114, 116]⟩)) q9 fun b0r o7 =>
 xcond b0r
 (j1 [b0r] o7)
 (opK Tryd.prog E (xBin .eql 9 (.tmp 3) (.const (Value.string ⟨#[97, 115, 115, 117, 109, 101]⟩)) x0 (Value.string ⟨#[97, 115, 115, 117, 109, 101]⟩)) o7 fun b9k r7 =>
 xcond b9k
 (j1 [b9k] r7)
 (opK Tryd.prog E (xBin .eql 9 (.tmp 3) (.const (Value.string ⟨#[115, 107, 105, 112]⟩)) x0 (Value.string ⟨#[115, 107, 105, 112]⟩)) r7 fun b9l t8 =>
 xcond b9l
 (j1 [b9l] t8)
 (opK Tryd.prog E (xBin .eql 9 (.tmp 3) (.const (Value.string ⟨#[105, 110, 112, 117, 116]⟩)) x0 (Value.string ⟨#[105, 110, 112, 117, 116]⟩)) t8 fun b9m u0 =>
 xcond b9m
 (j1 [b9m] u0)
 (opK Tryd.prog E (xBin .eql 9 (.tmp 3) (.const (Value.string ⟨#[116, 114, 117, 101]⟩)) x0 (Value.string ⟨#[116, 114, 117, 101]⟩)) u0 fun b9n v6 =>
 xcond b9n
 (j1 [b9n] v6)
 (opK Tryd.prog E (xBin .eql 9 (.tmp 3) (.const (Value.string ⟨#[102, 97, 108, 115, 101]⟩)) x0 (Value.string ⟨#[102, 97, 108, 115, 101]⟩)) v6 fun c9O v7 =>
 j1 [c9O] v7))))))))))
noncomputable def c9P : Code := Tryd.f124.body.getD .skip
def c9Q : Hint := (.seq .none (.seq (.seq .none (.block (.cut [4] (.seq .none (.cond .none (.seq .none (.cond .none (.seq .none (.cond .none (.seq .none (.cond .none (.seq .none (.cond .none (.seq .none (.cond .none (.seq .none (.cond .none (.seq .none (.cond .none (.seq .none (.cond .none (.seq .none (.cond .none .none)))))))))))))))))))) (.cond (.seq .none .none) .none)))) (.seq .none .none)))
theorem c5o (x0 : Value) (w : World) (R : Value → World → Prop) (E : Pan) : b6E x0 w R E = callX Tryd.prog [.tmp 2] c9P c9Q [x0] w R E := by kernel_rfl
theorem c5p {x0 : Value} {w : World} {R : Value → World → Prop} {E : Pan} (h : b6E x0 w R E) : Cv Tryd.prog 124 #[x0] w R E := by
 refine g5 (args := [x0]) (c := c9P) (h := c9Q) (rs := [.tmp 2]) Tryd.func124 (by kernel_rfl) (by kernel_rfl) (Nat.le_of_ble_eq_true (by kernel_rfl)) (by kernel_rfl) (by kernel_rfl) (by kernel_rfl) ?_
 rw [← c5o]
 exact h
def b6F (x0 : Value) (w : World) (R : Value → World → Prop) (E : Pan) : Prop :=
 opK Tryd.prog E (xCall (Value.func (.func 126) #[] #[]) [x0]) w fun c9R w_2 =>
 opK Tryd.prog E (xBin .eql 3 (.tmp 6) (.const (Value.int .i64 3)) c9R (Value.int .i64 3)) w_2 fun a6m w_4 =>
 opK Tryd.prog E (gsem (asB a6m) false (xBin .eql 3 (.tmp 9) (.const (Value.int .i64 4)) (gval (asB a6m) false c9R) (Value.int .i64 4))) w_4 fun a2g w_6 =>
 opK Tryd.prog E (xPick a6m (Value.bool true) a2g) w_6 fun b0p w_8 =>
 R b0p w_8
noncomputable def c9S : Code := Tryd.f125.body.getD .skip
def c9T : Hint := (.seq .none (.seq .none (.seq .none .none)))
theorem c5q (x0 : Value) (w : World) (R : Value → World → Prop) (E : Pan) : b6F x0 w R E = callX Tryd.prog [.tmp 2] c9S c9T [x0] w R E := by kernel_rfl
theorem c5r {x0 : Value} {w : World} {R : Value → World → Prop} {E : Pan} (h : b6F x0 w R E) : Cv Tryd.prog 125 #[x0] w R E := by
 refine g5 (args := [x0]) (c := c9S) (h := c9T) (rs := [.tmp 2]) Tryd.func125 (by kernel_rfl) (by kernel_rfl) (Nat.le_of_ble_eq_true (by kernel_rfl)) (by kernel_rfl) (by kernel_rfl) (by kernel_rfl) ?_
 rw [← c5q]
 exact h
def b1n (x39 : Value) (w : World) (R : Value → World → Prop) (_E : Pan) : Prop :=
 ∀ _τ : Fr, (xcond x39
 (R (Value.int .i64 3) w)
 (R (Value.int .i64 6) w))
def b1o (x1 x31 : Value) (w : World) (R : Value → World → Prop) (E : Pan) : Prop :=
 ∀ _τ : Fr, (xcond x31
 (R (Value.int .i64 6) w)
 (opK Tryd.prog E (xV (Instr.makeFunc (.func 131) #[] #[x1])) w fun a8j w_8 =>
 opK Tryd.prog E (xCall a8j [(Value.int .i32 48), (Value.int .i32 57)]) w_8 fun d6X l9 =>
 xcond d6X
 (R (Value.int .i64 4) l9)
 (xcut (fun b3Q q9 => b1n (nth b3Q 0) q9 R E) fun j4 =>
 opK Tryd.prog E (xV (Instr.loadAt 21 x1)) l9 fun c9U o7 =>
 opK Tryd.prog E (xBin .eql 21 (.tmp 40) (.const (Value.int .i32 95)) c9U (Value.int .i32 95)) o7 fun b9o r7 =>
 xcond b9o
 (j4 [b9o] r7)
 (opK Tryd.prog E (xCall a8j [(Value.int .i32 97), (Value.int .i32 122)]) r7 fun b9p t8 =>
 xcond b9p
 (j4 [b9p] t8)
 (opK Tryd.prog E (xCall a8j [(Value.int .i32 65), (Value.int .i32 90)]) t8 fun b9q u0 =>
 xcond b9q
 (j4 [b9q] u0)
 (opK Tryd.prog E (xCall a8j [(Value.int .i32 192), (Value.int .i32 591)]) u0 fun b9r v6 =>
 xcond b9r
 (j4 [b9r] v6)
 (opK Tryd.prog E (xCall a8j [(Value.int .i32 913), (Value.int .i32 969)]) v6 fun b9s v7 =>
 xcond b9s
 (j4 [b9s] v7)
 (opK Tryd.prog E (xCall a8j [(Value.int .i32 1040), (Value.int .i32 1103)]) v7 fun c9V B1 =>
 j4 [c9V] B1))))))))
def b1p (x1 x4 x11 : Value) (w : World) (R : Value → World → Prop) (E : Pan) : Prop :=
 ∀ _τ : Fr, (xcond x11
 (R (Value.int .i64 5) w)
 (xcut (fun c1k D8 => b1o x1 (nth c1k 0) D8 R E) fun j3 =>
 opK Tryd.prog E (xBin .eql 21 (.tmp 4) (.const (Value.int .i32 215)) x4 (Value.int .i32 215)) w fun b0s E7 =>
 xcond b0s
 (j3 [b0s] E7)
 (opK Tryd.prog E (xBin .eql 21 (.tmp 4) (.const (Value.int .i32 247)) x4 (Value.int .i32 247)) E7 fun b9t D6 =>
 xcond b9t
 (j3 [b9t] D6)
 (opK Tryd.prog E (xBin .eql 21 (.tmp 4) (.const (Value.int .i32 930)) x4 (Value.int .i32 930)) D6 fun c9W D9 =>
 j3 [c9W] D9))))
def b1q (x1 x4 x5 : Value) (w : World) (R : Value → World → Prop) (E : Pan) : Prop :=
 ∀ _τ : Fr, (xcond x5
 (R (Value.int .i64 1) w)
 (opK Tryd.prog E (xBin .eql 21 (.tmp 4) (.const (Value.int .i32 10)) x4 (Value.int .i32 10)) w fun a2g w_6 =>
 xcond a2g
 (R (Value.int .i64 2) w_6)
 (xcut (fun b3R J4 => b1p x1 x4 (nth b3R 0) J4 R E) fun j2 =>
 opK Tryd.prog E (xBin .eql 21 (.tmp 4) (.const (Value.int .i32 59)) x4 (Value.int .i32 59)) w_6 fun b9u K8 =>
 xcond b9u
 (j2 [b9u] K8)
 (opK Tryd.prog E (xBin .eql 21 (.tmp 4) (.const (Value.int .i32 44)) x4 (Value.int .i32 44)) K8 fun b9v K3 =>
 xcond b9v
 (j2 [b9v] K3)
 (opK Tryd.prog E (xBin .eql 21 (.tmp 4) (.const (Value.int .i32 123)) x4 (Value.int .i32 123)) K3 fun b9w M6 =>
 xcond b9w
 (j2 [b9w] M6)
 (opK Tryd.prog E (xBin .eql 21 (.tmp 4) (.const (Value.int .i32 125)) x4 (Value.int .i32 125)) M6 fun b9x L4 =>
 xcond b9x
 (j2 [b9x] L4)
 (opK Tryd.prog E (xBin .eql 21 (.tmp 4) (.const (Value.int .i32 40)) x4 (Value.int .i32 40)) L4 fun b0t S3 =>
 xcond b0t
 (j2 [b0t] S3)
 (opK Tryd.prog E (xBin .eql 21 (.tmp 4) (.const (Value.int .i32 41)) x4 (Value.int .i32 41)) S3 fun b9y R0 =>
 xcond b9y
 (j2 [b9y] R0)
 (opK Tryd.prog E (xBin .eql 21 (.tmp 4) (.const (Value.int .i32 91)) x4 (Value.int .i32 91)) R0 fun b0u M7 =>
 xcond b0u
 (j2 [b0u] M7)
 (opK Tryd.prog E (xBin .eql 21 (.tmp 4) (.const (Value.int .i32 93)) x4 (Value.int .i32 93)) M7 fun b9z R1 =>
 xcond b9z
 (j2 [b9z] R1)
 (opK Tryd.prog E (xBin .eql 21 (.tmp 4) (.const (Value.int .i32 61)) x4 (Value.int .i32 61)) R1 fun b9A X4 =>
 xcond b9A
 (j2 [b9A] X4)
 (opK Tryd.prog E (xBin .eql 21 (.tmp 4) (.const (Value.int .i32 33)) x4 (Value.int .i32 33)) X4 fun b9B V9 =>
 xcond b9B
 (j2 [b9B] V9)
 (opK Tryd.prog E (xBin .eql 21 (.tmp 4) (.const (Value.int .i32 60)) x4 (Value.int .i32 60)) V9 fun b9C X5 =>
 xcond b9C
 (j2 [b9C] X5)
 (opK Tryd.prog E (xBin .eql 21 (.tmp 4) (.const (Value.int .i32 62)) x4 (Value.int .i32 62)) X5 fun b9D Y4 =>
 xcond b9D
 (j2 [b9D] Y4)
 (opK Tryd.prog E (xBin .eql 21 (.tmp 4) (.const (Value.int .i32 43)) x4 (Value.int .i32 43)) Y4 fun b9E a0l =>
 xcond b9E
 (j2 [b9E] a0l)
 (opK Tryd.prog E (xBin .eql 21 (.tmp 4) (.const (Value.int .i32 45)) x4 (Value.int .i32 45)) a0l fun b9F a0A =>
 xcond b9F
 (j2 [b9F] a0A)
 (opK Tryd.prog E (xBin .eql 21 (.tmp 4) (.const (Value.int .i32 42)) x4 (Value.int .i32 42)) a0A fun b9G Y5 =>
 xcond b9G
 (j2 [b9G] Y5)
 (opK Tryd.prog E (xBin .eql 21 (.tmp 4) (.const (Value.int .i32 47)) x4 (Value.int .i32 47)) Y5 fun b9H a1D =>
 xcond b9H
 (j2 [b9H] a1D)
 (opK Tryd.prog E (xBin .eql 21 (.tmp 4) (.const (Value.int .i32 37)) x4 (Value.int .i32 37)) a1D fun b9I a0m =>
 xcond b9I
 (j2 [b9I] a0m)
 (opK Tryd.prog E (xBin .eql 21 (.tmp 4) (.const (Value.int .i32 38)) x4 (Value.int .i32 38)) a0m fun b9J a0o =>
 xcond b9J
 (j2 [b9J] a0o)
 (opK Tryd.prog E (xBin .eql 21 (.tmp 4) (.const (Value.int .i32 124)) x4 (Value.int .i32 124)) a0o fun b3S a1i =>
 j2 [b3S] a1i)))))))))))))))))))))
def b6G (x0 : Value) (w : World) (R : Value → World → Prop) (E : Pan) : Prop :=
 opK Tryd.prog E (xV (Instr.box 21 x0)) w fun o9 w_2 =>
 opK Tryd.prog E (xV (Instr.loadAt 21 o9)) w_2 fun a5q w_4 =>
 xcut (fun d9w a0B => b1q o9 a5q (nth d9w 0) a0B R E) fun j1 =>
 opK Tryd.prog E (xBin .eql 21 (.tmp 4) (.const (Value.int .i32 32)) a5q (Value.int .i32 32)) w_4 fun c3S a2f =>
 xcond c3S
 (j1 [c3S] a2f)
 (opK Tryd.prog E (xBin .eql 21 (.tmp 4) (.const (Value.int .i32 9)) a5q (Value.int .i32 9)) a2f fun c3T a2B =>
 xcond c3T
 (j1 [c3T] a2B)
 (opK Tryd.prog E (xBin .eql 21 (.tmp 4) (.const (Value.int .i32 13)) a5q (Value.int .i32 13)) a2B fun d6Y a3s =>
 j1 [d6Y] a3s))
noncomputable def c9X : Code := Tryd.f126.body.getD .skip
def c9Y : Hint := (.seq .none (.seq (.seq .none (.block (.cut [5] (.seq .none (.cond .none (.seq .none (.cond .none .none)))) (.cond (.seq .none .none) (.seq .none (.cond (.seq .none .none) (.cut [11] (.seq .none (.cond .none (.seq .none (.cond .none (.seq .none (.cond .none (.seq .none (.cond .none (.seq .none (.cond .none (.seq .none (.cond .none (.seq .none (.cond .none (.seq .none (.cond .none (.seq .none (.cond .none (.seq .none (.cond .none (.seq .none (.cond .none (.seq .none (.cond .none (.seq .none (.cond .none (.seq .none (.cond .none (.seq .none (.cond .none (.seq .none (.cond .none (.seq .none (.cond .none (.seq .none (.cond .none .none)))))))))))))))))))))))))))))))))))) (.cond (.seq .none .none) (.cut [31] (.seq .none (.cond .none (.seq .none (.cond .none .none)))) (.cond (.seq .none .none) .none)))))))))) (.seq .none (.seq (.block (.seq .none (.cond (.seq .none .none) (.cut [39] (.seq .none (.cond .none (.seq .none (.cond .none (.seq .none (.cond .none (.seq .none (.cond .none (.seq .none (.cond .none .none)))))))))) (.cond (.seq .none .none) .none))))) (.seq .none .none)))))
theorem c5s (x0 : Value) (w : World) (R : Value → World → Prop) (E : Pan) : b6G x0 w R E = callX Tryd.prog [.tmp 2] c9X c9Y [x0] w R E := by kernel_rfl
theorem c5t {x0 : Value} {w : World} {R : Value → World → Prop} {E : Pan} (h : b6G x0 w R E) : Cv Tryd.prog 126 #[x0] w R E := by
 refine g5 (args := [x0]) (c := c9X) (h := c9Y) (rs := [.tmp 2]) Tryd.func126 (by kernel_rfl) (by kernel_rfl) (Nat.le_of_ble_eq_true (by kernel_rfl)) (by kernel_rfl) (by kernel_rfl) (by kernel_rfl) ?_
 rw [← c5s]
 exact h
def b1r (w : World) (R : Value → World → Prop) (_E : Pan) : Prop :=
 ∀ _τ : Fr, (R (Value.int .i64 (-1)) w)
def b5O (x0 x1 x7 x8 : Value) (w : World) (next2 : List Value → World → Prop) (j1 : List Value → World → Prop) (R : Value → World → Prop) (E : Pan) : Prop :=
 opK Tryd.prog E (xBin .lss 3 (.tmp 8) (.tmp 7) x8 x7) w fun b3T w_6 =>
 xcond b3T
 (opK Tryd.prog E (xV (Instr.indexAt 47 x0 x8)) w_6 fun b6H w_8 =>
 opK Tryd.prog E (xV (Instr.loadAt 9 b6H)) w_8 fun b6I l9 =>
 opK Tryd.prog E (xBin .eql 9 (.tmp 11) (.tmp 15) x1 b6I) l9 fun a0H q9 =>
 xcond a0H
 (R x8 q9)
 (opK Tryd.prog E (xBin .add 3 (.tmp 8) (.const (Value.int .i64 1)) x8 (Value.int .i64 1)) q9 fun a4b o7 =>
 next2 [a4b] o7))
 (j1 [] w_6)
def b6J (x0 x1 : Value) (w : World) (R : Value → World → Prop) (E : Pan) : Prop :=
 xcut (fun _ w_2 => b1r w_2 R E) fun j1 =>
 opK Tryd.prog E (xBuiltin .len #[47] 3 [false] [x0]) w fun a6m w_4 =>
 xloop [8] [(Value.int .i64 0)] w_4 fun τ_15 r7 next2 =>
 b5O x0 x1 a6m (τ_15 8) r7 next2 j1 R E
noncomputable def c9Z : Code := Tryd.f127.body.getD .skip
def d0a : Hint := (.seq .none (.cut [] (.seq .none (.block (.loop [8] (.seq .none (.seq (.cond .none .none) (.seq (.block (.seq .none (.seq .none (.cond (.seq .none .none) .none)))) .none)))))) (.seq .none .none)))
theorem c5u (x0 x1 : Value) (w : World) (R : Value → World → Prop) (E : Pan) : b6J x0 x1 w R E = callX Tryd.prog [.tmp 4] c9Z d0a [x0, x1] w R E := by kernel_rfl
theorem c5v {x0 x1 : Value} {w : World} {R : Value → World → Prop} {E : Pan} (h : b6J x0 x1 w R E) : Cv Tryd.prog 127 #[x0, x1] w R E := by
 refine g5 (args := [x0, x1]) (c := c9Z) (h := d0a) (rs := [.tmp 4]) Tryd.func127 (by kernel_rfl) (by kernel_rfl) (Nat.le_of_ble_eq_true (by kernel_rfl)) (by kernel_rfl) (by kernel_rfl) (by kernel_rfl) ?_
 rw [← c5u]
 exact h
def b1s (x2 : Value) (w : World) (R : Value → World → Prop) (_E : Pan) : Prop :=
 ∀ _τ : Fr, (R x2 w)
def b5P (x2 x4 : Value) (w : World) (next2 : List Value → World → Prop) (j1 : List Value → World → Prop) (_R : Value → World → Prop) (E : Pan) : Prop :=
 opK Tryd.prog E (xV (Instr.next x4 true 0)) w fun b1t w_6 =>
 opK Tryd.prog E (xV (Instr.extract b1t 0)) w_6 fun b3U w_8 =>
 xcond b3U
 (opK Tryd.prog E (xBin .add 3 (.tmp 7) (.const (Value.int .i64 1)) x2 (Value.int .i64 1)) w_8 fun a9b l9 =>
 next2 [a9b] l9)
 (j1 [x2] w_8)
def b6K (x0 : Value) (w : World) (R : Value → World → Prop) (E : Pan) : Prop :=
 xcut (fun l_1 w_2 => b1s (nth l_1 0) w_2 R E) fun j1 =>
 opK Tryd.prog E (xV (Instr.range 9 x0)) w fun a5q w_4 =>
 xloop [2] [(Value.int .i64 0)] w_4 fun τ_11 q9 next2 =>
 b5P (τ_11 2) a5q q9 next2 j1 R E
noncomputable def d0b : Code := Tryd.f130.body.getD .skip
def d0c : Hint := (.seq .none (.cut [2] (.seq .none (.block (.loop [2] (.seq .none (.seq (.cond .none .none) (.block .none)))))) (.seq .none .none)))
theorem c5w (x0 : Value) (w : World) (R : Value → World → Prop) (E : Pan) : b6K x0 w R E = callX Tryd.prog [.tmp 2] d0b d0c [x0] w R E := by kernel_rfl
theorem c5x {x0 : Value} {w : World} {R : Value → World → Prop} {E : Pan} (h : b6K x0 w R E) : Cv Tryd.prog 130 #[x0] w R E := by
 refine g5 (args := [x0]) (c := d0b) (h := d0c) (rs := [.tmp 2]) Tryd.func130 (by kernel_rfl) (by kernel_rfl) (Nat.le_of_ble_eq_true (by kernel_rfl)) (by kernel_rfl) (by kernel_rfl) (by kernel_rfl) ?_
 rw [← c5w]
 exact h
def b6L (x0 x1 x2 : Value) (w : World) (R : Value → World → Prop) (E : Pan) : Prop :=
 opK Tryd.prog E (xV (Instr.loadAt 21 x2)) w fun c1l w_2 =>
 opK Tryd.prog E (xBin .leq 21 (.tmp 6) (.tmp 7) x0 c1l) w_2 fun b1k w_4 =>
 opK Tryd.prog E (gsem (asB b1k) true (xV (Instr.loadAt 21 x2))) w_4 fun a2g w_6 =>
 opK Tryd.prog E (gsem (asB b1k) true (xBin .leq 21 (.tmp 10) (.tmp 11) a2g (gval (asB b1k) true x1))) w_6 fun a0t w_8 =>
 opK Tryd.prog E (xPick b1k a0t (Value.bool false)) w_8 fun Y6 l9 =>
 R Y6 l9
noncomputable def d0d : Code := Tryd.f131.body.getD .skip
def d0e : Hint := (.seq .none (.seq .none .none))
theorem c5y (x0 x1 x2 : Value) (w : World) (R : Value → World → Prop) (E : Pan) : b6L x0 x1 x2 w R E = callX Tryd.prog [.tmp 5] d0d d0e [x0, x1, x2] w R E := by kernel_rfl
theorem c5z {x0 x1 x2 : Value} {w : World} {R : Value → World → Prop} {E : Pan} (h : b6L x0 x1 x2 w R E) : Cv Tryd.prog 131 #[x0, x1, x2] w R E := by
 refine g5 (args := [x0, x1, x2]) (c := d0d) (h := d0e) (rs := [.tmp 5]) Tryd.func131 (by kernel_rfl) (by kernel_rfl) (Nat.le_of_ble_eq_true (by kernel_rfl)) (by kernel_rfl) (by kernel_rfl) (by kernel_rfl) ?_
 rw [← c5y]
 exact h
def b1u (x3 x59 : Value) (w : World) (R : Value → World → Prop) (E : Pan) : Prop :=
 ∀ _τ : Fr, (xcond x59
 (opK Tryd.prog E (xBin .eql 3 (.tmp 65) (.const (Value.int .i64 2)) x3 (Value.int .i64 2)) w fun d0f a2f =>
 R d0f a2f)
 (R (Value.bool false) w))
def b1v (x3 x38 x54 : Value) (w : World) (R : Value → World → Prop) (E : Pan) : Prop :=
 ∀ _τ : Fr, (xcond x54
 (opK Tryd.prog E (xBin .eql 3 (.tmp 57) (.const (Value.int .i64 1)) x3 (Value.int .i64 1)) w fun d0g a0B =>
 R d0g a0B)
 (xcut (fun b6M a2B => b1u x3 (nth b6M 0) a2B R E) fun j3 =>
 opK Tryd.prog E (xBin .eql 3 (.tmp 38) (.const (Value.int .i64 6)) x38 (Value.int .i64 6)) w fun a4f a3s =>
 xcond a4f
 (j3 [a4f] a3s)
 (opK Tryd.prog E (xBin .eql 3 (.tmp 38) (.const (Value.int .i64 7)) x38 (Value.int .i64 7)) a3s fun b9K a5o =>
 xcond b9K
 (j3 [b9K] a5o)
 (opK Tryd.prog E (xBin .eql 3 (.tmp 38) (.const (Value.int .i64 8)) x38 (Value.int .i64 8)) a5o fun b9L a5p =>
 xcond b9L
 (j3 [b9L] a5p)
 (opK Tryd.prog E (xBin .eql 3 (.tmp 38) (.const (Value.int .i64 9)) x38 (Value.int .i64 9)) a5p fun b9M a3t =>
 xcond b9M
 (j3 [b9M] a3t)
 (opK Tryd.prog E (xBin .eql 3 (.tmp 38) (.const (Value.int .i64 10)) x38 (Value.int .i64 10)) a3t fun d0h a8X =>
 j3 [d0h] a8X))))))
def b1w (x3 x38 x49 : Value) (w : World) (R : Value → World → Prop) (E : Pan) : Prop :=
 ∀ _τ : Fr, (xcond x49
 (opK Tryd.prog E (xBin .eql 3 (.tmp 52) (.const (Value.int .i64 0)) x3 (Value.int .i64 0)) w fun a7r a1i =>
 R a7r a1i)
 (xcut (fun d9x a8Y => b1v x3 x38 (nth d9x 0) a8Y R E) fun j2 =>
 opK Tryd.prog E (xBin .eql 3 (.tmp 38) (.const (Value.int .i64 4)) x38 (Value.int .i64 4)) w fun b9N a7s =>
 xcond b9N
 (j2 [b9N] a7s)
 (opK Tryd.prog E (xBin .eql 3 (.tmp 38) (.const (Value.int .i64 5)) x38 (Value.int .i64 5)) a7s fun d0i a6n =>
 j2 [d0i] a6n)))
def b6N (x0 : Value) (w : World) (R : Value → World → Prop) (E : Pan) : Prop :=
 opK Tryd.prog E (xV (Instr.box 96 x0)) w fun o9 w_2 =>
 opK Tryd.prog E (xV (Instr.fieldAt 96 o9 0)) w_2 fun c1n w_4 =>
 opK Tryd.prog E (xV (Instr.fieldAt 30 c1n 3)) w_4 fun b3V w_6 =>
 opK Tryd.prog E (xV (Instr.loadAt 28 b3V)) w_6 fun a4g w_8 =>
 opK Tryd.prog E (xBuiltin .len #[28] 3 [false] [a4g]) w_8 fun a7y l9 =>
 opK Tryd.prog E (xV (Instr.loadAt 96 o9)) l9 fun b3F q9 =>
 opK Tryd.prog E (xV (Instr.makeInterface 96 b3F)) q9 fun b3G o7 =>
 opK Tryd.prog E (xCall (Value.func (.func 114) #[] #[]) [b3G]) o7 fun b0m r7 =>
 opK Tryd.prog E (xV (Instr.extract b0m 0)) r7 fun _t14_17 t8 =>
 opK Tryd.prog E (xV (Instr.extract b0m 1)) t8 fun b3H u0 =>
 opK Tryd.prog E (xV (Instr.fieldAt 96 o9 0)) u0 fun b3I v6 =>
 opK Tryd.prog E (xV (Instr.fieldAt 30 b3I 0)) v6 fun d0j v7 =>
 opK Tryd.prog E (xV (Instr.loadAt 3 d0j)) v7 fun d0k B1 =>
 opK Tryd.prog E (xBin .neq 3 (.tmp 18) (.const (Value.int .i64 1)) d0k (Value.int .i64 1)) B1 fun a7z D8 =>
 opK Tryd.prog E (gsem (asB a7z) true (xV (Instr.fieldAt 96 o9 0))) D8 fun d0l E7 =>
 opK Tryd.prog E (gsem (asB a7z) true (xV (Instr.fieldAt 30 d0l 1))) E7 fun d0m D6 =>
 opK Tryd.prog E (gsem (asB a7z) true (xV (Instr.loadAt 2 d0m))) D6 fun d0n D9 =>
 opK Tryd.prog E (gsem (asB a7z) true (xBin .neq 2 (.tmp 23) (.const (Value.int .i64 0)) d0n (Value.int .i64 0))) D9 fun d0o J4 =>
 opK Tryd.prog E (xPick a7z d0o (Value.bool false)) J4 fun a2h K8 =>
 opK Tryd.prog E (gsem (asB a2h) false (xV (Op.unary .not (gval (asB a2h) false b3H)))) K8 fun a7A K3 =>
 opK Tryd.prog E (gsem (asB (gval (asB a2h) false a7A)) true (xV (Instr.fieldAt 96 o9 0))) K3 fun d0p M6 =>
 opK Tryd.prog E (gsem (asB (gval (asB a2h) false a7A)) true (xV (Instr.fieldAt 30 d0p 2))) M6 fun d0q L4 =>
 opK Tryd.prog E (gsem (asB (gval (asB a2h) false a7A)) true (xV (Instr.loadAt 9 d0q))) L4 fun d0r S3 =>
 opK Tryd.prog E (gsem (asB (gval (asB a2h) false a7A)) true (xBin .neq 9 (.tmp 32) (.const (Value.string ⟨#[]⟩)) d0r (Value.string ⟨#[]⟩))) S3 fun d0s R0 =>
 opK Tryd.prog E (gsem (asB a2h) false (xPick (gval (asB a2h) false a7A) d0s (Value.bool false))) R0 fun d0t M7 =>
 opK Tryd.prog E (xPick a2h (Value.bool true) d0t) M7 fun d0u R1 =>
 xcond d0u
 (R (Value.bool false) R1)
 (opK Tryd.prog E (xV (Instr.fieldAt 96 o9 0)) R1 fun b3K X4 =>
 opK Tryd.prog E (xV (Instr.fieldAt 30 b3K 0)) X4 fun d0v V9 =>
 opK Tryd.prog E (xV (Instr.loadAt 3 d0v)) V9 fun b0v X5 =>
 opK Tryd.prog E (xBin .eql 3 (.tmp 38) (.const (Value.int .i64 1)) b0v (Value.int .i64 1)) X5 fun d0w Y4 =>
 xcond d0w
 (opK Tryd.prog E (xV (Instr.fieldAt 96 o9 0)) Y4 fun d0x a0l =>
 opK Tryd.prog E (xV (Instr.fieldAt 30 d0x 1)) a0l fun d0y a0A =>
 opK Tryd.prog E (xV (Instr.loadAt 2 d0y)) a0A fun d0z Y5 =>
 opK Tryd.prog E (xBin .geq 2 (.tmp 43) (.const (Value.int .i64 0)) d0z (Value.int .i64 0)) Y5 fun b3W a1D =>
 opK Tryd.prog E (gsem (asB b3W) true (xBin .eql 3 (.tmp 46) (.const (Value.int .i64 0)) (gval (asB b3W) true a7y) (Value.int .i64 0))) a1D fun d0A a0m =>
 opK Tryd.prog E (xPick b3W d0A (Value.bool false)) a0m fun d0B a0o =>
 R d0B a0o)
 (xcut (fun d9y a8Z => b1w a7y b0v (nth d9y 0) a8Z R E) fun j1 =>
 opK Tryd.prog E (xBin .eql 3 (.tmp 38) (.const (Value.int .i64 2)) b0v (Value.int .i64 2)) Y4 fun b9O a4Y =>
 xcond b9O
 (j1 [b9O] a4Y)
 (opK Tryd.prog E (xBin .eql 3 (.tmp 38) (.const (Value.int .i64 3)) b0v (Value.int .i64 3)) a4Y fun c5A a3G =>
 j1 [c5A] a3G)))
noncomputable def d0C : Code := Tryd.f148.body.getD .skip
def d0D : Hint := (.seq .none (.seq .none (.seq .none (.seq (.seq .none (.cond (.seq .none .none) .none)) (.seq (.seq .none (.block (.seq .none (.cond (.seq .none .none) (.cut [49] (.seq .none (.cond .none .none)) (.cond (.seq .none .none) (.cut [54] (.seq .none (.cond .none .none)) (.cond (.seq .none .none) (.cut [59] (.seq .none (.cond .none (.seq .none (.cond .none (.seq .none (.cond .none (.seq .none (.cond .none .none)))))))) (.cond (.seq .none .none) .none)))))))))) (.seq .none .none))))))
theorem c5B (x0 : Value) (w : World) (R : Value → World → Prop) (E : Pan) : b6N x0 w R E = callX Tryd.prog [.tmp 2] d0C d0D [x0] w R E := by kernel_rfl
theorem c5C {x0 : Value} {w : World} {R : Value → World → Prop} {E : Pan} (h : b6N x0 w R E) : Cv Tryd.prog 148 #[x0] w R E := by
 refine g5 (args := [x0]) (c := d0C) (h := d0D) (rs := [.tmp 2]) Tryd.func148 (by kernel_rfl) (by kernel_rfl) (Nat.le_of_ble_eq_true (by kernel_rfl)) (by kernel_rfl) (by kernel_rfl) (by kernel_rfl) ?_
 rw [← c5B]
 exact h
def b6O (x0 : Value) (w : World) (R : Value → World → Prop) (E : Pan) : Prop :=
 opK Tryd.prog E (xV (Instr.box 96 x0)) w fun o9 w_2 =>
 opK Tryd.prog E (xV (Instr.fieldAt 96 o9 0)) w_2 fun T7 w_4 =>
 opK Tryd.prog E (xV (Instr.fieldAt 30 T7 3)) w_4 fun V8 w_6 =>
 opK Tryd.prog E (xV (Instr.loadAt 28 V8)) w_6 fun a1C w_8 =>
 opK Tryd.prog E (xCall (Value.func (.func 150) #[] #[]) [a1C, (Value.func (.func 151) #[] #[])]) w_8 fun a6l l9 =>
 R a6l l9
noncomputable def d0E : Code := Tryd.f149.body.getD .skip
def d0F : Hint := (.seq .none (.seq .none .none))
theorem c5D (x0 : Value) (w : World) (R : Value → World → Prop) (E : Pan) : b6O x0 w R E = callX Tryd.prog [.tmp 2] d0E d0F [x0] w R E := by kernel_rfl
theorem c5E {x0 : Value} {w : World} {R : Value → World → Prop} {E : Pan} (h : b6O x0 w R E) : Cv Tryd.prog 149 #[x0] w R E := by
 refine g5 (args := [x0]) (c := d0E) (h := d0F) (rs := [.tmp 2]) Tryd.func149 (by kernel_rfl) (by kernel_rfl) (Nat.le_of_ble_eq_true (by kernel_rfl)) (by kernel_rfl) (by kernel_rfl) (by kernel_rfl) ?_
 rw [← c5D]
 exact h
def b1x (x5 : Value) (w : World) (R : Value → World → Prop) (_E : Pan) : Prop :=
 ∀ _τ : Fr, (R x5 w)
def b5Q (x1 x5 x8 x9 x10 : Value) (w : World) (next2 : List Value → World → Prop) (j1 : List Value → World → Prop) (_R : Value → World → Prop) (E : Pan) : Prop :=
 opK Tryd.prog E (xBin .lss 3 (.tmp 10) (.tmp 9) x10 x9) w fun a2Z w_6 =>
 xcond a2Z
 (opK Tryd.prog E (xV (Instr.indexAt 28 x8 x10)) w_6 fun a0t w_8 =>
 opK Tryd.prog E (xV (Instr.loadAt 30 a0t)) w_8 fun Y6 l9 =>
 opK Tryd.prog E (xV (Instr.alloc 30 true (.tuple #[]))) l9 fun a0Y q9 =>
 opK Tryd.prog E (xU (Instr.storeAt 30 a0Y Y6)) q9 fun _z_13 o7 =>
 opK Tryd.prog E (xV (Instr.loadAt 30 a0Y)) o7 fun a0C r7 =>
 opK Tryd.prog E (xCall x1 [a0C]) r7 fun a0D t8 =>
 opK Tryd.prog E (xV (Instr.buildSlice 97 1 #[(0, a0D)])) t8 fun a0E u0 =>
 opK Tryd.prog E (xBuiltin .append #[97, 97] 97 [false, false] [x5, a0E]) u0 fun a0F v6 =>
 opK Tryd.prog E (xBin .add 3 (.tmp 10) (.const (Value.int .i64 1)) x10 (Value.int .i64 1)) v6 fun a0G v7 =>
 next2 [a0F, a0G] v7)
 (j1 [x5] w_6)
def b6P (x0 x1 : Value) (w : World) (R : Value → World → Prop) (E : Pan) : Prop :=
 xcut (fun l_1 w_2 => b1x (nth l_1 0) w_2 R E) fun j1 =>
 opK Tryd.prog E (xBuiltin .len #[28] 3 [false] [x0]) w fun a2C w_4 =>
 xloop [5, 10] [(Value.slice none 0 0), (Value.int .i64 0)] w_4 fun τ_25 B1 next2 =>
 b5Q x1 (τ_25 5) x0 a2C (τ_25 10) B1 next2 j1 R E
noncomputable def d0G : Code := Tryd.f150.body.getD .skip
def d0H : Hint := (.seq .none (.seq .none (.cut [5] (.seq .none (.block (.loop [5, 10] (.seq .none (.seq (.cond .none .none) (.seq (.block (.seq .none .none)) .none)))))) (.seq .none .none))))
theorem c5F (x0 x1 : Value) (w : World) (R : Value → World → Prop) (E : Pan) : b6P x0 x1 w R E = callX Tryd.prog [.tmp 4] d0G d0H [x0, x1] w R E := by kernel_rfl
theorem c5G {x0 x1 : Value} {w : World} {R : Value → World → Prop} {E : Pan} (h : b6P x0 x1 w R E) : Cv Tryd.prog 150 #[x0, x1] w R E := by
 refine g5 (args := [x0, x1]) (c := d0G) (h := d0H) (rs := [.tmp 4]) Tryd.func150 (by kernel_rfl) (by kernel_rfl) (Nat.le_of_ble_eq_true (by kernel_rfl)) (by kernel_rfl) (by kernel_rfl) (by kernel_rfl) ?_
 rw [← c5F]
 exact h
def b6Q (x0 : Value) (w : World) (R : Value → World → Prop) (E : Pan) : Prop :=
 opK Tryd.prog E (xV (Instr.box 30 x0)) w fun o9 w_2 =>
 opK Tryd.prog E (xV (Instr.loadAt 30 o9)) w_2 fun T7 w_4 =>
 opK Tryd.prog E (xV (Instr.build 96 #[(0, T7)])) w_4 fun V8 w_6 =>
 opK Tryd.prog E (xV (Instr.makeInterface 96 V8)) w_6 fun a1C w_8 =>
 R a1C w_8
noncomputable def d0I : Code := Tryd.f151.body.getD .skip
def d0J : Hint := (.seq .none (.seq .none .none))
theorem c5H (x0 : Value) (w : World) (R : Value → World → Prop) (E : Pan) : b6Q x0 w R E = callX Tryd.prog [.tmp 2] d0I d0J [x0] w R E := by kernel_rfl
theorem c5I {x0 : Value} {w : World} {R : Value → World → Prop} {E : Pan} (h : b6Q x0 w R E) : Cv Tryd.prog 151 #[x0] w R E := by
 refine g5 (args := [x0]) (c := d0I) (h := d0J) (rs := [.tmp 2]) Tryd.func151 (by kernel_rfl) (by kernel_rfl) (Nat.le_of_ble_eq_true (by kernel_rfl)) (by kernel_rfl) (by kernel_rfl) (by kernel_rfl) ?_
 rw [← c5H]
 exact h
def b1y (x3 x50 : Value) (w : World) (R : Value → World → Prop) (E : Pan) : Prop :=
 ∀ _τ : Fr, (xcond x50
 (opK Tryd.prog E (xV (Instr.loadAt 209 x3)) w fun d0K a3t =>
 opK Tryd.prog E (xV (Instr.build 209 #[(0, (Value.int .i64 0)), (1, (Value.int .i64 2))])) a3t fun d0L a8X =>
 opK Tryd.prog E (xBin .eql 209 (.tmp 53) (.tmp 54) d0K d0L) a8X fun d0M a8Y =>
 R d0M a8Y)
 (R (Value.bool false) w))
def b1z (x3 x38 x39 : Value) (w : World) (R : Value → World → Prop) (E : Pan) : Prop :=
 ∀ _τ : Fr, (xcond x39
 (opK Tryd.prog E (xV (Instr.loadAt 209 x3)) w fun d0N a1i =>
 opK Tryd.prog E (xV (Instr.build 209 #[])) a1i fun d0O a0B =>
 opK Tryd.prog E (xBin .eql 209 (.tmp 42) (.tmp 43) d0N d0O) a0B fun d0P a2f =>
 R d0P a2f)
 (opK Tryd.prog E (xBin .eql 3 (.tmp 38) (.const (Value.int .i64 4)) x38 (Value.int .i64 4)) w fun d0Q a2B =>
 xcond d0Q
 (opK Tryd.prog E (xV (Instr.loadAt 209 x3)) a2B fun d0R a3s =>
 opK Tryd.prog E (xV (Instr.build 209 #[(0, (Value.int .i64 0)), (1, (Value.int .i64 1))])) a3s fun d0S a5o =>
 opK Tryd.prog E (xBin .eql 209 (.tmp 47) (.tmp 48) d0R d0S) a5o fun d0T a5p =>
 R d0T a5p)
 (xcut (fun b3X a7s => b1y x3 (nth b3X 0) a7s R E) fun j2 =>
 opK Tryd.prog E (xBin .eql 3 (.tmp 38) (.const (Value.int .i64 5)) x38 (Value.int .i64 5)) a2B fun b9P a6n =>
 xcond b9P
 (j2 [b9P] a6n)
 (opK Tryd.prog E (xBin .eql 3 (.tmp 38) (.const (Value.int .i64 6)) x38 (Value.int .i64 6)) a6n fun d0U a8Z =>
 j2 [d0U] a8Z))))
def b6R (x0 : Value) (w : World) (R : Value → World → Prop) (E : Pan) : Prop :=
 opK Tryd.prog E (xV (Instr.box 106 x0)) w fun o9 w_2 =>
 opK Tryd.prog E (xV (Instr.fieldAt 106 o9 0)) w_2 fun a5q w_4 =>
 opK Tryd.prog E (xV (Instr.fieldAt 33 a5q 2)) w_4 fun b1t w_6 =>
 opK Tryd.prog E (xV (Instr.loadAt 28 b1t)) w_6 fun b3U w_8 =>
 opK Tryd.prog E (xBuiltin .len #[28] 3 [false] [b3U]) w_8 fun c1o l9 =>
 opK Tryd.prog E (xV (Instr.fieldAt 106 o9 0)) l9 fun b0f q9 =>
 opK Tryd.prog E (xV (Instr.fieldAt 33 b0f 3)) q9 fun b0w o7 =>
 opK Tryd.prog E (xV (Instr.loadAt 31 b0w)) o7 fun b3Y r7 =>
 opK Tryd.prog E (xBuiltin .len #[31] 3 [false] [b3Y]) r7 fun b3Z t8 =>
 opK Tryd.prog E (xV (Instr.build 209 #[(0, c1o), (1, b3Z)])) t8 fun b4a u0 =>
 opK Tryd.prog E (xV (Instr.alloc 209 true (.tuple #[]))) u0 fun b6S v6 =>
 opK Tryd.prog E (xU (Instr.storeAt 209 b6S b4a)) v6 fun _z_23 v7 =>
 opK Tryd.prog E (xV (Instr.fieldAt 106 o9 0)) v7 fun d0V B1 =>
 opK Tryd.prog E (xV (Instr.fieldAt 33 d0V 0)) B1 fun d0W D8 =>
 opK Tryd.prog E (xV (Instr.loadAt 3 d0W)) D8 fun d0X E7 =>
 opK Tryd.prog E (xBin .eql 3 (.tmp 15) (.const (Value.int .i64 3)) d0X (Value.int .i64 3)) E7 fun d0Y D6 =>
 xcond d0Y
 (opK Tryd.prog E (xV (Instr.fieldAt 106 o9 0)) D6 fun b3C D9 =>
 opK Tryd.prog E (xV (Instr.fieldAt 33 b3C 1)) D9 fun a7t J4 =>
 opK Tryd.prog E (xV (Instr.loadAt 3 a7t)) J4 fun d0Z K8 =>
 opK Tryd.prog E (xBin .geq 3 (.tmp 19) (.const (Value.int .i64 1)) d0Z (Value.int .i64 1)) K8 fun a7B K3 =>
 opK Tryd.prog E (gsem (asB a7B) true (xV (Instr.fieldAt 106 o9 0))) K3 fun d1a M6 =>
 opK Tryd.prog E (gsem (asB a7B) true (xV (Instr.fieldAt 33 d1a 1))) M6 fun d1b L4 =>
 opK Tryd.prog E (gsem (asB a7B) true (xV (Instr.loadAt 3 d1b))) L4 fun d1c S3 =>
 opK Tryd.prog E (gsem (asB a7B) true (xBin .leq 3 (.tmp 24) (.const (Value.int .i64 6)) d1c (Value.int .i64 6))) S3 fun d1d R0 =>
 opK Tryd.prog E (xPick a7B d1d (Value.bool false)) R0 fun b0x M7 =>
 opK Tryd.prog E (gsem (asB b0x) true (xV (Instr.loadAt 209 b6S))) M7 fun a7C R1 =>
 opK Tryd.prog E (gsem (asB b0x) true (xV (Instr.build 209 #[(0, (Value.int .i64 2)), (1, (Value.int .i64 0))]))) R1 fun d1e X4 =>
 opK Tryd.prog E (gsem (asB b0x) true (xBin .eql 209 (.tmp 28) (.tmp 29) a7C d1e)) X4 fun d1f V9 =>
 opK Tryd.prog E (xPick b0x d1f (Value.bool false)) V9 fun d1g X5 =>
 R d1g X5)
 (opK Tryd.prog E (xV (Instr.fieldAt 106 o9 0)) D6 fun b4b Y4 =>
 opK Tryd.prog E (xV (Instr.fieldAt 33 b4b 1)) Y4 fun a5C a0l =>
 opK Tryd.prog E (xV (Instr.loadAt 3 a5C)) a0l fun a7D a0A =>
 opK Tryd.prog E (xBin .neq 3 (.tmp 34) (.const (Value.int .i64 0)) a7D (Value.int .i64 0)) a0A fun d1h Y5 =>
 xcond d1h
 (R (Value.bool false) Y5)
 (opK Tryd.prog E (xV (Instr.fieldAt 106 o9 0)) Y5 fun d1i a1D =>
 opK Tryd.prog E (xV (Instr.fieldAt 33 d1i 0)) a1D fun d1j a0m =>
 opK Tryd.prog E (xV (Instr.loadAt 3 d1j)) a0m fun b4c a0o =>
 xcut (fun d9z a4Y => b1z b6S b4c (nth d9z 0) a4Y R E) fun j1 =>
 opK Tryd.prog E (xBin .eql 3 (.tmp 38) (.const (Value.int .i64 1)) b4c (Value.int .i64 1)) a0o fun b5R a3G =>
 xcond b5R
 (j1 [b5R] a3G)
 (opK Tryd.prog E (xBin .eql 3 (.tmp 38) (.const (Value.int .i64 2)) b4c (Value.int .i64 2)) a3G fun c5J a8h =>
 j1 [c5J] a8h)))
noncomputable def d1k : Code := Tryd.f152.body.getD .skip
def d1l : Hint := (.seq .none (.seq .none (.seq (.seq .none (.cond (.seq .none .none) .none)) (.seq (.seq .none (.cond (.seq .none .none) .none)) (.seq (.seq .none (.block (.cut [39] (.seq .none (.cond .none .none)) (.cond (.seq .none .none) (.seq .none (.cond (.seq .none .none) (.cut [50] (.seq .none (.cond .none .none)) (.cond (.seq .none .none) .none)))))))) (.seq .none .none))))))
theorem c5K (x0 : Value) (w : World) (R : Value → World → Prop) (E : Pan) : b6R x0 w R E = callX Tryd.prog [.tmp 2] d1k d1l [x0] w R E := by kernel_rfl
theorem c5L {x0 : Value} {w : World} {R : Value → World → Prop} {E : Pan} (h : b6R x0 w R E) : Cv Tryd.prog 152 #[x0] w R E := by
 refine g5 (args := [x0]) (c := d1k) (h := d1l) (rs := [.tmp 2]) Tryd.func152 (by kernel_rfl) (by kernel_rfl) (Nat.le_of_ble_eq_true (by kernel_rfl)) (by kernel_rfl) (by kernel_rfl) (by kernel_rfl) ?_
 rw [← c5K]
 exact h
def b6T (x0 : Value) (w : World) (R : Value → World → Prop) (E : Pan) : Prop :=
 opK Tryd.prog E (xV (Instr.box 106 x0)) w fun o9 w_2 =>
 dX w_2 fun w_3 =>
 qP Tryd.prog (xV (Instr.fieldAt 106 o9 0)) fun b1g =>
 qP Tryd.prog (xV (Instr.fieldAt 33 b1g 2)) fun V8 =>
 qP Tryd.prog (xV (Instr.fieldAt 106 o9 0)) fun c1p =>
 qP Tryd.prog (xV (Instr.fieldAt 33 c1p 3)) fun a4g =>
 qL Tryd.prog w_3 (blk V8) (xV (Instr.loadAt 28 V8)) fun c1j =>
 qL Tryd.prog w_3 (blk a4g) (xV (Instr.loadAt 31 a4g)) fun a7y =>
 opK Tryd.prog E (xCall (Value.func (.func 150) #[] #[]) [c1j, (Value.func (.func 151) #[] #[])]) w_3 fun d6Z O8 =>
 keepX [(blk a4g)] w_3 O8 (opK Tryd.prog E (xCall (Value.func (.func 154) #[] #[]) [a7y, (Value.func (.func 155) #[] #[])]) O8 fun b4d a0z =>
 keepX [] O8 a0z (opK Tryd.prog E (xV (Instr.buildSlice 172 2 #[(0, d6Z), (1, b4d)])) a0z fun b4e a8W =>
 keepX [] a0z a8W (opK Tryd.prog E (xCall (Value.func (.func 94) #[] #[]) [b4e]) a8W fun d1m a1h =>
 keepX [] a8W a1h (R d1m a1h))))
noncomputable def d1n : Code := Tryd.f153.body.getD .skip
def d1o : Hint := (.seq .none (.seq (.reg [(0, 8, 2), (1, 16, 8), (2, 32, 16), (4, 64, 32), (0, 128, 2), (16, 256, 128), (32, 512, 256), (72, 1024, 512), (136, 2048, 1088), (384, 4096, 2048), (1023, 4, 4096)] [68, 68, 64, 64, 68, 68, 4, 0, 0, 0, 68] (.early 0 (.early 1 (.early 4 (.early 5 (.load 2 (.load 6 (.step 3 (.step 7 (.step 8 (.step 9 (.early 10 .done)))))))))))) .none))
theorem c5M (x0 : Value) (w : World) (R : Value → World → Prop) (E : Pan) : b6T x0 w R E = callX Tryd.prog [.tmp 2] d1n d1o [x0] w R E := by kernel_rfl
theorem c5N {x0 : Value} {w : World} {R : Value → World → Prop} {E : Pan} (h : b6T x0 w R E) : Cv Tryd.prog 153 #[x0] w R E := by
 refine g5 (args := [x0]) (c := d1n) (h := d1o) (rs := [.tmp 2]) Tryd.func153 (by kernel_rfl) (by kernel_rfl) (Nat.le_of_ble_eq_true (by kernel_rfl)) (by kernel_rfl) (by kernel_rfl) (by kernel_rfl) ?_
 rw [← c5M]
 exact h
end Go.Proofs.YthldnpmfelniiaaDoor
