/- The second reading of some of the program's functions, printed by gen2.py off the code; each is held against the code by the kernel. -/
import Derived.Test.YthldnpmfelniiaaDoorProg
import Derived.Test.YthldnpmfelniiaaDoorzXK0
import Derived.KernelRfl
namespace Go.Proofs.YthldnpmfelniiaaDoor
open Go.RowKit
set_option maxRecDepth 100000
def F3 (x0 x1 : Value) (w : World) (R : Value → World → Prop) (E : Pan) : Prop :=
 opK Tryd.prog E (xV (Instr.box 25 x0)) w fun a4h w_2 =>
 opK Tryd.prog E (xV (Instr.box 25 x1)) w_2 fun Y9 w_4 =>
 dX w_4 fun w_5 =>
 opK Tryd.prog E (xCall (Value.func (.func 14) #[] #[]) []) w_5 fun a6G w_7 =>
 keepX [] w_5 w_7 (qL Tryd.prog w_7 (blk a4h) (gsem (asB a6G) true (xV (Instr.loadAt 25 a4h))) fun d5S =>
 qL Tryd.prog w_7 (blk Y9) (gsem (asB a6G) true (xV (Instr.loadAt 25 Y9))) fun a9M =>
 qL Tryd.prog w_7 (blk a4h) (gsem (asB a6G) true (xV (Instr.loadAt 25 a4h))) fun e4Q =>
 qL Tryd.prog w_7 (blk Y9) (gsem (asB a6G) true (xV (Instr.loadAt 25 Y9))) fun b0J =>
 opK Tryd.prog E (gsem (asB a6G) true (xCall (Value.func (.func 15) #[] #[]) [d5S, a9M])) w_7 fun c8Z a2K =>
 keepX [(blk Y9), (blk a4h)] w_7 a2K (opK Tryd.prog E (gsem (asB a6G) true (xCall (Value.func (.func 16) #[] #[]) [e4Q, b0J])) a2K fun e4R a4D =>
 keepX [] a2K a4D (qP Tryd.prog (gsem (asB a6G) true (xBin .eql 4 (.tmp 9) (.tmp 12) c8Z e4R)) fun e4S =>
 qP Tryd.prog (xPick a6G e4S (Value.bool false)) fun a4E =>
 qL Tryd.prog a4D (blk Y9) (gsem (asB a4E) true (xV (Instr.loadAt 25 Y9))) fun e4T =>
 qL Tryd.prog a4D (blk a4h) (gsem (asB a4E) true (xV (Instr.loadAt 25 a4h))) fun b5j =>
 qL Tryd.prog a4D (blk a4h) (gsem (asB a4E) true (xV (Instr.loadAt 25 a4h))) fun e4U =>
 qL Tryd.prog a4D (blk Y9) (gsem (asB a4E) true (xV (Instr.loadAt 25 Y9))) fun b5k =>
 opK Tryd.prog E (gsem (asB a4E) true (xCall (Value.func (.func 15) #[] #[]) [e4T, b5j])) a4D fun b5l a7B =>
 keepX [(blk Y9), (blk a4h)] a4D a7B (opK Tryd.prog E (gsem (asB a4E) true (xCall (Value.func (.func 15) #[] #[]) [e4U, b5k])) a7B fun e4V a4F =>
 keepX [] a7B a4F (qP Tryd.prog (gsem (asB a4E) true (xBin .eql 4 (.tmp 18) (.tmp 21) b5l e4V)) fun e4W =>
 qP Tryd.prog (xPick a4E e4W (Value.bool false)) fun c2Z =>
 R c2Z a4F)))))
noncomputable def c3 : Code := Tryd.f3.body.getD .skip
def h3 : Hint := (.seq .none (.seq (.reg [(0, 32, 0), (1, 64, 32), (2, 128, 68), (2, 256, 72), (14, 512, 448), (2, 1024, 68), (2, 2048, 72), (114, 4096, 3136), (146, 8192, 4672), (258, 16384, 8256), (640, 32768, 16384), (1024, 65536, 32776), (1024, 131072, 32772), (7168, 262144, 229376), (1024, 524288, 32772), (1024, 1048576, 32776), (58368, 2097152, 1605632), (74752, 4194304, 2392064), (132096, 8388608, 4227072), (524287, 16, 8388608)] [0, 55404, 55400, 55396, 96, 55372, 55340, 0, 55404, 55404, 55404, 53356, 51308, 49152, 39020, 22636, 0, 55404, 55404, 55404] (.step 0 (.early 1 (.load 2 (.load 3 (.load 5 (.load 6 (.step 4 (.step 7 (.early 8 (.early 9 (.early 10 (.load 11 (.load 12 (.load 14 (.load 15 (.step 13 (.step 16 (.early 17 (.early 18 (.early 19 .done))))))))))))))))))))) .none))
def h15 : Hint := (.seq .none (.seq .none .none))
def F27 (x0 : Value) (w : World) (R : Value → World → Prop) (E : Pan) : Prop :=
 opK Tryd.prog E (xV (Instr.box 25 x0)) w fun t8 w_2 =>
 opK Tryd.prog E (xV (Instr.loadAt 25 t8)) w_2 fun Y9 w_4 =>
 opK Tryd.prog E (xCall (Value.func (.func 66) #[] #[]) [Y9]) w_4 fun a4i w_6 =>
 opK Tryd.prog E (xNil a4i) w_6 fun a6H w_8 =>
 opK Tryd.prog E (xV (Instr.fieldAt 92 a6H 2)) w_8 fun b0K m2 =>
 opK Tryd.prog E (xV (Instr.loadAt 34 b0K)) m2 fun a4Q m8 =>
 R a4Q m8
noncomputable def c27 : Code := Tryd.f27.body.getD .skip
def h27 : Hint := (.seq .none (.seq .none .none))
theorem e4X (x0 : Value) (w : World) (R : Value → World → Prop) (E : Pan) : F27 x0 w R E = callX Tryd.prog [.tmp 2] c27 h27 [x0] w R E := by kernel_rfl
theorem e4Y {x0 : Value} {w : World} {R : Value → World → Prop} {E : Pan} (h : F27 x0 w R E) : Cv Tryd.prog 27 #[x0] w R E := by
 refine h8 (args := [x0]) (c := c27) (h := h27) (rs := [.tmp 2]) Tryd.func27 (by kernel_rfl) (by kernel_rfl) (Nat.le_of_ble_eq_true (by kernel_rfl)) (by kernel_rfl) (by kernel_rfl) (by kernel_rfl) ?_
 rw [← e4X]
 exact h
def c3a (x3 : Value) (w : World) (R : Value → World → Prop) (E : Pan) : Prop :=
 ∀ _τ : Fr, (opK Tryd.prog E (xV (Instr.loadAt 93 x3)) w fun e4Z o6 =>
 R e4Z o6)
def F57 (x0 : Value) (w : World) (R : Value → World → Prop) (E : Pan) : Prop :=
 opK Tryd.prog E (xV (Instr.build 92 #[])) w fun a7C w_2 =>
 opK Tryd.prog E (xV (Instr.box 92 a7C)) w_2 fun a3i w_4 =>
 opK Tryd.prog E (xV (Instr.alloc 93 true (.tuple #[]))) w_4 fun b7E w_6 =>
 opK Tryd.prog E (xU (Instr.storeAt 93 b7E a3i)) w_6 fun _z_7 w_8 =>
 opK Tryd.prog E (xV (Instr.alloc 139 true (.tuple #[]))) w_8 fun d5T m2 =>
 opK Tryd.prog E (xV (Instr.makeFunc (.func 89) #[] #[b7E, d5T])) m2 fun b9c m8 =>
 opK Tryd.prog E (xU (Instr.storeAt 139 d5T b9c)) m8 fun _z_13 m5 =>
 xcut (fun _ p8 => c3a b7E p8 R E) fun j1 =>
 opK Tryd.prog E (xV (Instr.loadAt 139 d5T)) m5 fun f9N o4 =>
 opK Tryd.prog E (xCall f9N [x0, (Value.int .i64 1)]) o4 fun e5a r6 =>
 opK Tryd.prog E (xV (Op.unary .not e5a)) r6 fun e5b q6 =>
 xcond e5b
 (j1 [] q6)
 (opK Tryd.prog E (xV (Instr.loadAt 93 b7E)) q6 fun e5c u1 =>
 opK Tryd.prog E (xNil e5c) u1 fun e5d w9 =>
 opK Tryd.prog E (xV (Instr.fieldAt 92 e5d 3)) w9 fun b9d z6 =>
 opK Tryd.prog E (xV (Instr.loadAt 4 b9d)) z6 fun e5e w8 =>
 xcond e5e
 (opK Tryd.prog E (xV (Instr.loadAt 93 b7E)) w8 fun e5f z7 =>
 opK Tryd.prog E (xNil e5f) z7 fun e5g B3 =>
 opK Tryd.prog E (xV (Instr.fieldAt 92 e5g 2)) B3 fun e5h w3 =>
 opK Tryd.prog E (xU (Instr.storeAt 34 e5h (Value.int .i64 30))) w3 fun _z_39 B8 =>
 j1 [] B8)
 (opK Tryd.prog E (xV (Instr.loadAt 93 b7E)) w8 fun e5i C7 =>
 opK Tryd.prog E (xNil e5i) C7 fun c3b B9 =>
 opK Tryd.prog E (xV (Instr.fieldAt 92 c3b 4)) B9 fun c3c D4 =>
 opK Tryd.prog E (xV (Instr.loadAt 4 c3c)) D4 fun e5j E6 =>
 xcond e5j
 (opK Tryd.prog E (xV (Instr.loadAt 93 b7E)) E6 fun c3d D7 =>
 opK Tryd.prog E (xNil c3d) D7 fun c3e D8 =>
 opK Tryd.prog E (xV (Instr.fieldAt 92 c3e 2)) D8 fun e5k I9 =>
 opK Tryd.prog E (xU (Instr.storeAt 34 e5k (Value.int .i64 31))) I9 fun _z_55 K7 =>
 j1 [] K7)
 (j1 [] E6)))
noncomputable def c57 : Code := Tryd.f57.body.getD .skip
def h57 : Hint := (.seq .none (.seq .none (.seq .none (.seq .none (.cut [] (.seq .none (.block (.seq .none (.cond .none (.seq .none (.cond .none (.seq .none (.cond .none .none)))))))) (.seq .none .none))))))
theorem e5l (x0 : Value) (w : World) (R : Value → World → Prop) (E : Pan) : F57 x0 w R E = callX Tryd.prog [.tmp 2] c57 h57 [x0] w R E := by kernel_rfl
theorem e5m {x0 : Value} {w : World} {R : Value → World → Prop} {E : Pan} (h : F57 x0 w R E) : Cv Tryd.prog 57 #[x0] w R E := by
 refine h8 (args := [x0]) (c := c57) (h := h57) (rs := [.tmp 2]) Tryd.func57 (by kernel_rfl) (by kernel_rfl) (Nat.le_of_ble_eq_true (by kernel_rfl)) (by kernel_rfl) (by kernel_rfl) (by kernel_rfl) ?_
 rw [← e5l]
 exact h
def d3w (x0 x2 x4 x6 : Value) (w : World) (next1 : List Value → World → Prop) (R : Value → World → Prop) (E : Pan) : Prop :=
 opK Tryd.prog E (xV (Instr.fieldAt 30 x4 3)) w fun a4R w_8 =>
 opK Tryd.prog E (xV (Instr.loadAt 28 a4R)) w_8 fun a7D m2 =>
 opK Tryd.prog E (xBuiltin .len #[28] 3 [false] [a7D]) m2 fun c3f m8 =>
 opK Tryd.prog E (xBin .lss 3 (.tmp 11) (.tmp 14) x6 c3f) m8 fun a5p m5 =>
 opK Tryd.prog E (gsem (asB a5p) true (xNil (gval (asB a5p) true x0))) m5 fun b5m o6 =>
 opK Tryd.prog E (gsem (asB a5p) true (xV (Instr.fieldAt 99 b5m 2))) o6 fun e5n p8 =>
 opK Tryd.prog E (gsem (asB a5p) true (xV (Instr.loadAt 3 e5n))) p8 fun c3g o4 =>
 opK Tryd.prog E (gsem (asB a5p) true (xBin .eql 3 (.tmp 20) (.const (Value.int .i64 0)) c3g (Value.int .i64 0))) o4 fun c3h r6 =>
 opK Tryd.prog E (xPick a5p c3h (Value.bool false)) r6 fun b5n q6 =>
 xcond b5n
 (opK Tryd.prog E (xV (Instr.fieldAt 30 x4 3)) q6 fun c3i u1 =>
 opK Tryd.prog E (xV (Instr.loadAt 28 c3i)) u1 fun b2U w9 =>
 opK Tryd.prog E (xV (Instr.indexAt 28 b2U x6)) w9 fun c3j z6 =>
 opK Tryd.prog E (xV (Instr.loadAt 30 c3j)) z6 fun e5o w8 =>
 opK Tryd.prog E (xBin .add 3 (.tmp 31) (.const (Value.int .i64 1)) x2 (Value.int .i64 1)) w8 fun b9e z7 =>
 opK Tryd.prog E (xCall (Value.func (.func 58) #[] #[]) [x0, e5o, b9e]) z7 fun _t33_35 B3 =>
 opK Tryd.prog E (xBin .add 3 (.tmp 23) (.const (Value.int .i64 1)) x6 (Value.int .i64 1)) B3 fun c3k w3 =>
 next1 [c3k] w3)
 (R (Value.tuple #[]) q6)
def F58 (x0 x1 x2 : Value) (w : World) (R : Value → World → Prop) (E : Pan) : Prop :=
 opK Tryd.prog E (xV (Instr.box 30 x1)) w fun a4S w_2 =>
 opK Tryd.prog E (xCall (Value.func (.func 91) #[] #[]) [x0, x2]) w_2 fun a5L w_4 =>
 opK Tryd.prog E (xV (Op.unary .not a5L)) w_4 fun a3V w_6 =>
 xcond a3V
 (R (Value.tuple #[]) w_6)
 (xloop [6] [(Value.int .i64 0)] w_6 fun τ_39 B8 next1 =>
 d3w x0 x2 a4S (τ_39 6) B8 next1 R E)
noncomputable def c58 : Code := Tryd.f58.body.getD .skip
def h58 : Hint := (.seq .none (.seq (.seq .none (.cond .none .none)) (.seq .none (.block (.loop [6] (.seq (.seq .none (.cond .none .none)) (.seq (.block .none) .none)))))))
theorem e5p (x0 x1 x2 : Value) (w : World) (R : Value → World → Prop) (E : Pan) : F58 x0 x1 x2 w R E = callX Tryd.prog [] c58 h58 [x0, x1, x2] w R E := by kernel_rfl
theorem e5q {x0 x1 x2 : Value} {w : World} {R : Value → World → Prop} {E : Pan} (h : F58 x0 x1 x2 w R E) : Cv Tryd.prog 58 #[x0, x1, x2] w R E := by
 refine h8 (args := [x0, x1, x2]) (c := c58) (h := h58) (rs := []) Tryd.func58 (by kernel_rfl) (by kernel_rfl) (Nat.le_of_ble_eq_true (by kernel_rfl)) (by kernel_rfl) (by kernel_rfl) (by kernel_rfl) ?_
 rw [← e5p]
 exact h
def d3x (x0 x2 x4 x7 : Value) (w : World) (next2 : List Value → World → Prop) (R : Value → World → Prop) (E : Pan) : Prop :=
 opK Tryd.prog E (xV (Instr.fieldAt 33 x4 3)) w fun f9O w_8 =>
 opK Tryd.prog E (xV (Instr.loadAt 31 f9O)) w_8 fun f9P m2 =>
 opK Tryd.prog E (xBuiltin .len #[31] 3 [false] [f9P]) m2 fun c3l m8 =>
 opK Tryd.prog E (xBin .lss 3 (.tmp 35) (.tmp 38) x7 c3l) m8 fun b2V m5 =>
 opK Tryd.prog E (gsem (asB b2V) true (xNil (gval (asB b2V) true x0))) m5 fun e5r o6 =>
 opK Tryd.prog E (gsem (asB b2V) true (xV (Instr.fieldAt 99 e5r 2))) o6 fun b9f p8 =>
 opK Tryd.prog E (gsem (asB b2V) true (xV (Instr.loadAt 3 b9f))) p8 fun e5s o4 =>
 opK Tryd.prog E (gsem (asB b2V) true (xBin .eql 3 (.tmp 44) (.const (Value.int .i64 0)) e5s (Value.int .i64 0))) o4 fun e5t r6 =>
 opK Tryd.prog E (xPick b2V e5t (Value.bool false)) r6 fun e5u q6 =>
 xcond e5u
 (opK Tryd.prog E (xV (Instr.fieldAt 33 x4 3)) q6 fun e5v u1 =>
 opK Tryd.prog E (xV (Instr.loadAt 31 e5v)) u1 fun e5w w9 =>
 opK Tryd.prog E (xV (Instr.indexAt 31 e5w x7)) w9 fun e5x z6 =>
 opK Tryd.prog E (xV (Instr.loadAt 33 e5x)) z6 fun e5y w8 =>
 opK Tryd.prog E (xBin .add 3 (.tmp 55) (.const (Value.int .i64 1)) x2 (Value.int .i64 1)) w8 fun e5z z7 =>
 opK Tryd.prog E (xCall (Value.func (.func 61) #[] #[]) [x0, e5y, e5z]) z7 fun _t57_35 B3 =>
 opK Tryd.prog E (xBin .add 3 (.tmp 47) (.const (Value.int .i64 1)) x7 (Value.int .i64 1)) B3 fun e5A w3 =>
 next2 [e5A] w3)
 (R (Value.tuple #[]) q6)
def c3m (x0 x2 x4 : Value) (w : World) (R : Value → World → Prop) (E : Pan) : Prop :=
 ∀ _τ : Fr, (xloop [7] [(Value.int .i64 0)] w fun τ_39 B8 next2 =>
 d3x x0 x2 x4 (τ_39 7) B8 next2 R E)
def d3y (x0 x2 x4 x6 : Value) (w : World) (next3 : List Value → World → Prop) (j1 : List Value → World → Prop) (_R : Value → World → Prop) (E : Pan) : Prop :=
 opK Tryd.prog E (xV (Instr.fieldAt 33 x4 2)) w fun e5B B9 =>
 opK Tryd.prog E (xV (Instr.loadAt 28 e5B)) B9 fun e5C D4 =>
 opK Tryd.prog E (xBuiltin .len #[28] 3 [false] [e5C]) D4 fun e5D E6 =>
 opK Tryd.prog E (xBin .lss 3 (.tmp 12) (.tmp 15) x6 e5D) E6 fun b2W D7 =>
 opK Tryd.prog E (gsem (asB b2W) true (xNil (gval (asB b2W) true x0))) D7 fun b9g D8 =>
 opK Tryd.prog E (gsem (asB b2W) true (xV (Instr.fieldAt 99 b9g 2))) D8 fun b9h I9 =>
 opK Tryd.prog E (gsem (asB b2W) true (xV (Instr.loadAt 3 b9h))) I9 fun b9i K7 =>
 opK Tryd.prog E (gsem (asB b2W) true (xBin .eql 3 (.tmp 21) (.const (Value.int .i64 0)) b9i (Value.int .i64 0))) K7 fun b2X H9 =>
 opK Tryd.prog E (xPick b2W b2X (Value.bool false)) H9 fun b0L J1 =>
 xcond b0L
 (opK Tryd.prog E (xV (Instr.fieldAt 33 x4 2)) J1 fun e5E N9 =>
 opK Tryd.prog E (xV (Instr.loadAt 28 e5E)) N9 fun c3n J7 =>
 opK Tryd.prog E (xV (Instr.indexAt 28 c3n x6)) J7 fun c3o Q4 =>
 opK Tryd.prog E (xV (Instr.loadAt 30 c3o)) Q4 fun e5F V4 =>
 opK Tryd.prog E (xBin .add 3 (.tmp 32) (.const (Value.int .i64 1)) x2 (Value.int .i64 1)) V4 fun c3p K8 =>
 opK Tryd.prog E (xCall (Value.func (.func 58) #[] #[]) [x0, e5F, c3p]) K8 fun _t34_71 V9 =>
 opK Tryd.prog E (xBin .add 3 (.tmp 24) (.const (Value.int .i64 1)) x6 (Value.int .i64 1)) V9 fun e5G Y3 =>
 next3 [e5G] Y3)
 (j1 [] J1)
def F61 (x0 x1 x2 : Value) (w : World) (R : Value → World → Prop) (E : Pan) : Prop :=
 opK Tryd.prog E (xV (Instr.box 33 x1)) w fun a4S w_2 =>
 opK Tryd.prog E (xCall (Value.func (.func 91) #[] #[]) [x0, x2]) w_2 fun b3G w_4 =>
 opK Tryd.prog E (xV (Op.unary .not b3G)) w_4 fun a7E w_6 =>
 xcond a7E
 (R (Value.tuple #[]) w_6)
 (xcut (fun _ C7 => c3m x0 x2 a4S C7 R E) fun j1 =>
 xloop [6] [(Value.int .i64 0)] w_6 fun τ_75 S7 next3 =>
 d3y x0 x2 a4S (τ_75 6) S7 next3 j1 R E)
noncomputable def c61 : Code := Tryd.f61.body.getD .skip
def h61 : Hint := (.seq .none (.seq (.seq .none (.cond .none .none)) (.cut [] (.seq .none (.block (.loop [6] (.seq (.seq .none (.cond .none .none)) (.seq (.block .none) .none))))) (.seq .none (.block (.loop [7] (.seq (.seq .none (.cond .none .none)) (.seq (.block .none) .none))))))))
theorem e5H (x0 x1 x2 : Value) (w : World) (R : Value → World → Prop) (E : Pan) : F61 x0 x1 x2 w R E = callX Tryd.prog [] c61 h61 [x0, x1, x2] w R E := by kernel_rfl
theorem e5I {x0 x1 x2 : Value} {w : World} {R : Value → World → Prop} {E : Pan} (h : F61 x0 x1 x2 w R E) : Cv Tryd.prog 61 #[x0, x1, x2] w R E := by
 refine h8 (args := [x0, x1, x2]) (c := c61) (h := h61) (rs := []) Tryd.func61 (by kernel_rfl) (by kernel_rfl) (Nat.le_of_ble_eq_true (by kernel_rfl)) (by kernel_rfl) (by kernel_rfl) (by kernel_rfl) ?_
 rw [← e5H]
 exact h
def c3q (x2 x3 : Value) (w : World) (R : Value → World → Prop) (E : Pan) : Prop :=
 ∀ _τ : Fr, (opK Tryd.prog E (xV (Instr.loadAt 99 x3)) w fun c3l m8 =>
 opK Tryd.prog E (xU (Instr.storeAt 99 x2 c3l)) m8 fun _z_13 m5 =>
 xcell Tryd.prog 99 x2 m5 fun g4z =>
 R g4z m5)
def d3z (x1 _x2 x3 x5 : Value) (w : World) (next3 : List Value → World → Prop) (j2 : List Value → World → Prop) (_R : Value → World → Prop) (E : Pan) : Prop :=
 opK Tryd.prog E (xV (Instr.fieldAt 25 x1 1)) w fun e5J a6I =>
 opK Tryd.prog E (xV (Instr.loadAt 23 e5J)) a6I fun e5K a8S =>
 opK Tryd.prog E (xBuiltin .len #[23] 3 [false] [e5K]) a8S fun e5L a7B =>
 opK Tryd.prog E (xBin .lss 3 (.tmp 20) (.tmp 23) x5 e5L) a7B fun b9j a4F =>
 opK Tryd.prog E (gsem (asB b9j) true (xV (Instr.fieldAt 99 x3 2))) a4F fun e5M a8T =>
 opK Tryd.prog E (gsem (asB b9j) true (xV (Instr.loadAt 3 e5M))) a8T fun e5N b2A =>
 opK Tryd.prog E (gsem (asB b9j) true (xBin .eql 3 (.tmp 27) (.const (Value.int .i64 0)) e5N (Value.int .i64 0))) b2A fun e5O g4A =>
 opK Tryd.prog E (xPick b9j e5O (Value.bool false)) g4A fun e5P c9a =>
 xcond e5P
 (opK Tryd.prog E (xV (Instr.fieldAt 25 x1 1)) c9a fun e5Q e5R =>
 opK Tryd.prog E (xV (Instr.loadAt 23 e5Q)) e5R fun e5S e5T =>
 opK Tryd.prog E (xV (Instr.indexAt 23 e5S x5)) e5T fun e5U b7F =>
 opK Tryd.prog E (xV (Instr.loadAt 88 e5U)) b7F fun e5V b7G =>
 opK Tryd.prog E (xCall (Value.func (.func 92) #[] #[]) [x3, e5V, (Value.int .i64 1)]) b7G fun _t37_42 b5o =>
 opK Tryd.prog E (xBin .add 3 (.tmp 30) (.const (Value.int .i64 1)) x5 (Value.int .i64 1)) b5o fun e5W c3r =>
 next3 [e5W] c3r)
 (j2 [] c9a)
def c3s (x1 x2 x3 : Value) (w : World) (R : Value → World → Prop) (E : Pan) : Prop :=
 ∀ _τ : Fr, (xcut (fun _ a4G => c3q x2 x3 a4G R E) fun j2 =>
 xloop [5] [(Value.int .i64 0)] w fun τ_46 a8U next3 =>
 d3z x1 x2 x3 (τ_46 5) a8U next3 j2 R E)
def d3A (x1 _x2 x3 x4 : Value) (w : World) (next4 : List Value → World → Prop) (j1 : List Value → World → Prop) (_R : Value → World → Prop) (E : Pan) : Prop :=
 opK Tryd.prog E (xV (Instr.fieldAt 25 x1 0)) w fun f9Q e5X =>
 opK Tryd.prog E (xV (Instr.loadAt 22 f9Q)) e5X fun f9R d5U =>
 opK Tryd.prog E (xBuiltin .len #[22] 3 [false] [f9R]) d5U fun e5Y b7H =>
 opK Tryd.prog E (xBin .lss 3 (.tmp 7) (.tmp 10) x4 e5Y) b7H fun b9k b7I =>
 opK Tryd.prog E (gsem (asB b9k) true (xV (Instr.fieldAt 99 x3 2))) b7I fun e5Z c3t =>
 opK Tryd.prog E (gsem (asB b9k) true (xV (Instr.loadAt 3 e5Z))) c3t fun e6a b0M =>
 opK Tryd.prog E (gsem (asB b9k) true (xBin .eql 3 (.tmp 14) (.const (Value.int .i64 0)) e6a (Value.int .i64 0))) b0M fun e6b d5V =>
 opK Tryd.prog E (xPick b9k e6b (Value.bool false)) d5V fun e6c d5W =>
 xcond e6c
 (opK Tryd.prog E (xCall (Value.func (.func 91) #[] #[]) [x3, (Value.int .i64 1)]) d5W fun _t19_66 b3H =>
 opK Tryd.prog E (xBin .add 3 (.tmp 17) (.const (Value.int .i64 1)) x4 (Value.int .i64 1)) b3H fun e6d g4B =>
 next4 [e6d] g4B)
 (j1 [] d5W)
def F63 (x0 : Value) (w : World) (R : Value → World → Prop) (E : Pan) : Prop :=
 opK Tryd.prog E (xV (Instr.box 25 x0)) w fun t8 w_2 =>
 opK Tryd.prog E (xV (Instr.alloc 99 true (.tuple #[]))) w_2 fun e6e w_4 =>
 opK Tryd.prog E (xV (Instr.build 99 #[])) w_4 fun a8V w_6 =>
 opK Tryd.prog E (xV (Instr.alloc 99 true (.tuple #[]))) w_6 fun b7J w_8 =>
 opK Tryd.prog E (xU (Instr.storeAt 99 b7J a8V)) w_8 fun _z_9 m2 =>
 xcut (fun _ c3u => c3s t8 e6e b7J c3u R E) fun j1 =>
 xloop [4] [(Value.int .i64 0)] m2 fun τ_70 e6f next4 =>
 d3A t8 e6e b7J (τ_70 4) e6f next4 j1 R E
noncomputable def c63 : Code := Tryd.f63.body.getD .skip
def h63 : Hint := (.seq .none (.seq .none (.cut [] (.seq .none (.block (.loop [4] (.seq (.seq .none (.cond .none .none)) (.seq (.block .none) .none))))) (.cut [] (.seq .none (.block (.loop [5] (.seq (.seq .none (.cond .none .none)) (.seq (.block .none) .none))))) (.seq .none .none)))))
theorem e6g (x0 : Value) (w : World) (R : Value → World → Prop) (E : Pan) : F63 x0 w R E = callX Tryd.prog [.cell 2 99] c63 h63 [x0] w R E := by kernel_rfl
theorem e6h {x0 : Value} {w : World} {R : Value → World → Prop} {E : Pan} (h : F63 x0 w R E) : Cv Tryd.prog 63 #[x0] w R E := by
 refine h8 (args := [x0]) (c := c63) (h := h63) (rs := [.cell 2 99]) Tryd.func63 (by kernel_rfl) (by kernel_rfl) (Nat.le_of_ble_eq_true (by kernel_rfl)) (by kernel_rfl) (by kernel_rfl) (by kernel_rfl) ?_
 rw [← e6g]
 exact h
def F66 (x0 : Value) (w : World) (R : Value → World → Prop) (E : Pan) : Prop :=
 opK Tryd.prog E (xV (Instr.box 25 x0)) w fun t8 w_2 =>
 dX w_2 fun w_3 =>
 qP Tryd.prog (xV (Instr.fieldAt 25 t8 0)) fun c0L =>
 qP Tryd.prog (xV (Instr.fieldAt 25 t8 1)) fun a8V =>
 qL Tryd.prog w_3 (blk c0L) (xV (Instr.loadAt 22 c0L)) fun g4C =>
 qL Tryd.prog w_3 (blk a8V) (xV (Instr.loadAt 23 a8V)) fun b2B =>
 opK Tryd.prog E (xCall (Value.func (.func 95) #[] #[]) [g4C, (Value.func (.func 96) #[] #[])]) w_3 fun d5X w_9 =>
 keepX [(blk a8V)] w_3 w_9 (opK Tryd.prog E (xCall (Value.func (.func 97) #[] #[]) [b2B, (Value.func (.func 98) #[] #[])]) w_9 fun c9b a0P =>
 keepX [] w_9 a0P (opK Tryd.prog E (xV (Instr.buildSlice 172 2 #[(0, d5X), (1, c9b)])) a0P fun c8Z a2K =>
 keepX [] a0P a2K (opK Tryd.prog E (xCall (Value.func (.func 94) #[] #[]) [c8Z]) a2K fun e6i a4D =>
 keepX [] a2K a4D (opK Tryd.prog E (xCall (Value.func (.func 57) #[] #[]) [e6i]) a4D fun e6j a4G =>
 keepX [] a4D a4G (R e6j a4G)))))
noncomputable def c66 : Code := Tryd.f66.body.getD .skip
def h66 : Hint := (.seq .none (.seq (.reg [(0, 8, 2), (1, 16, 8), (2, 32, 16), (0, 64, 2), (8, 128, 64), (20, 256, 128), (36, 512, 288), (96, 1024, 512), (128, 2048, 1024), (511, 4, 2048)] [18, 16, 16, 18, 2, 0, 0, 0, 0, 18] (.early 0 (.early 3 (.load 1 (.load 4 (.step 2 (.step 5 (.step 6 (.step 7 (.step 8 (.early 9 .done))))))))))) .none))
theorem e6k (x0 : Value) (w : World) (R : Value → World → Prop) (E : Pan) : F66 x0 w R E = callX Tryd.prog [.tmp 2] c66 h66 [x0] w R E := by kernel_rfl
theorem e6l {x0 : Value} {w : World} {R : Value → World → Prop} {E : Pan} (h : F66 x0 w R E) : Cv Tryd.prog 66 #[x0] w R E := by
 refine h8 (args := [x0]) (c := c66) (h := h66) (rs := [.tmp 2]) Tryd.func66 (by kernel_rfl) (by kernel_rfl) (Nat.le_of_ble_eq_true (by kernel_rfl)) (by kernel_rfl) (by kernel_rfl) (by kernel_rfl) ?_
 rw [← e6k]
 exact h
def c3v (w : World) (R : Value → World → Prop) (_E : Pan) : Prop :=
 ∀ _τ : Fr, (R (Value.bool true) w)
def d3B (x1 x2 x3 x9 x10 x11 : Value) (w : World) (next2 : List Value → World → Prop) (j1 : List Value → World → Prop) (R : Value → World → Prop) (E : Pan) : Prop :=
 opK Tryd.prog E (xBin .lss 3 (.tmp 11) (.tmp 10) x11 x10) w fun b3I w_6 =>
 xcond b3I
 (opK Tryd.prog E (xV (Instr.indexAt 97 x9 x11)) w_6 fun b3J w_8 =>
 opK Tryd.prog E (xV (Instr.loadAt 141 b3J)) w_8 fun a7F m2 =>
 dX m2 fun a0P =>
 qL Tryd.prog a0P (blk x2) (xV (Instr.loadAt 93 x2)) fun e6m =>
 opK Tryd.prog E (xCall (Value.func (.func 90) #[] #[]) [e6m, a7F, x1]) a0P fun a7G m5 =>
 keepX [] a0P m5 (qP Tryd.prog (xV (Op.unary .not a7G)) fun a6t =>
 qP Tryd.prog (gsem (asB a6t) false (xBin .add 3 (.tmp 24) (.const (Value.int .i64 1)) (gval (asB a6t) false x1) (Value.int .i64 1))) fun e6n =>
 qL Tryd.prog m5 (blk x3) (gsem (asB a6t) false (xV (Instr.loadAt 139 x3))) fun e6o =>
 opK Tryd.prog E (gsem (asB a6t) false (xInvoke (gval (asB a6t) false a7F) "gnomon/tree.parts" [])) m5 fun e6p a6I =>
 keepX [(blk x3)] m5 a6I (opK Tryd.prog E (gsem (asB a6t) false (xCall e6o [e6p, e6n])) a6I fun e6q a8S =>
 keepX [] a6I a8S (qP Tryd.prog (gsem (asB a6t) false (xV (Op.unary .not e6q))) fun e6r =>
 qP Tryd.prog (xPick a6t (Value.bool true) e6r) fun a3j =>
 xcond a3j
 (R (Value.bool false) a8S)
 (opK Tryd.prog E (xBin .add 3 (.tmp 11) (.const (Value.int .i64 1)) x11 (Value.int .i64 1)) a8S fun e6s a4F =>
 next2 [e6s] a4F)))))
 (j1 [] w_6)
def F89 (x0 x1 x2 x3 : Value) (w : World) (R : Value → World → Prop) (E : Pan) : Prop :=
 xcut (fun _ w_2 => c3v w_2 R E) fun j1 =>
 opK Tryd.prog E (xBuiltin .len #[97] 3 [false] [x0]) w fun b3G w_4 =>
 xloop [11] [(Value.int .i64 0)] w_4 fun τ_26 a8T next2 =>
 d3B x1 x2 x3 x0 b3G (τ_26 11) a8T next2 j1 R E
noncomputable def c89 : Code := Tryd.f89.body.getD .skip
def h89 : Hint := (.seq .none (.cut [] (.seq .none (.block (.loop [11] (.seq .none (.seq (.cond .none .none) (.seq (.block (.seq .none (.seq (.reg [(0, 32768, 4), (0, 65536, 256), (0, 131072, 2), (7, 262144, 229376), (8, 524288, 262144), (24, 1048576, 524288), (32, 2097152, 1048584), (32, 4194304, 1048832), (160, 8388608, 5242880), (32, 16777216, 1048578), (544, 33554432, 17825792), (1376, 67108864, 45088768), (2080, 134217728, 68157440), (4128, 268435456, 135266304)] [64, 65, 65, 0, 65, 65, 1, 65, 64, 65, 65, 0, 65, 65] (.early 1 (.early 2 (.load 0 (.step 3 (.early 4 (.early 5 (.early 7 (.early 9 (.early 10 (.load 6 (.step 8 (.step 11 (.early 12 (.early 13 .done))))))))))))))) (.cond (.seq .none .none) .none)))) .none)))))) (.seq .none .none)))
theorem e6t (x0 x1 x2 x3 : Value) (w : World) (R : Value → World → Prop) (E : Pan) : F89 x0 x1 x2 x3 w R E = callX Tryd.prog [.tmp 6] c89 h89 [x0, x1, x2, x3] w R E := by kernel_rfl
theorem e6u {x0 x1 x2 x3 : Value} {w : World} {R : Value → World → Prop} {E : Pan} (h : F89 x0 x1 x2 x3 w R E) : Cv Tryd.prog 89 #[x0, x1, x2, x3] w R E := by
 refine h8 (args := [x0, x1, x2, x3]) (c := c89) (h := h89) (rs := [.tmp 6]) Tryd.func89 (by kernel_rfl) (by kernel_rfl) (Nat.le_of_ble_eq_true (by kernel_rfl)) (by kernel_rfl) (by kernel_rfl) (by kernel_rfl) ?_
 rw [← e6t]
 exact h
def c3w (w : World) (R : Value → World → Prop) (_E : Pan) : Prop :=
 ∀ _τ : Fr, (R (Value.bool true) w)
def F90 (x0 x1 x2 : Value) (w : World) (R : Value → World → Prop) (E : Pan) : Prop :=
 opK Tryd.prog E (xNil x0) w fun b0e w_2 =>
 opK Tryd.prog E (xV (Instr.fieldAt 92 b0e 0)) w_2 fun c9c w_4 =>
 opK Tryd.prog E (xV (Instr.loadAt 3 c9c)) w_4 fun b3I w_6 =>
 opK Tryd.prog E (xBin .add 3 (.tmp 12) (.const (Value.int .i64 1)) b3I (Value.int .i64 1)) w_6 fun b3J w_8 =>
 opK Tryd.prog E (xNil x0) w_8 fun a7F m2 =>
 opK Tryd.prog E (xV (Instr.fieldAt 92 a7F 0)) m2 fun b5p m8 =>
 opK Tryd.prog E (xU (Instr.storeAt 3 b5p b3J)) m8 fun _z_13 m5 =>
 opK Tryd.prog E (xNil x0) m5 fun c3x o6 =>
 opK Tryd.prog E (xV (Instr.fieldAt 92 c3x 0)) o6 fun c3y p8 =>
 opK Tryd.prog E (xV (Instr.loadAt 3 c3y)) p8 fun c3z o4 =>
 opK Tryd.prog E (xBin .gtr 3 (.tmp 19) (.const (Value.int .i64 4096)) c3z (Value.int .i64 4096)) o4 fun b5k r6 =>
 xcond b5k
 (opK Tryd.prog E (xNil x0) r6 fun b5n q6 =>
 opK Tryd.prog E (xV (Instr.fieldAt 92 b5n 2)) q6 fun c3A u1 =>
 opK Tryd.prog E (xU (Instr.storeAt 34 c3A (Value.int .i64 33))) u1 fun _z_27 w9 =>
 R (Value.bool false) w9)
 (opK Tryd.prog E (xBin .gtr 3 (.tmp 24) (.const (Value.int .i64 64)) x2 (Value.int .i64 64)) r6 fun c3B z6 =>
 xcond c3B
 (opK Tryd.prog E (xNil x0) z6 fun e6v w8 =>
 opK Tryd.prog E (xV (Instr.fieldAt 92 e6v 2)) w8 fun e6w z7 =>
 opK Tryd.prog E (xU (Instr.storeAt 34 e6w (Value.int .i64 32))) z7 fun _z_35 B3 =>
 R (Value.bool false) B3)
 (opK Tryd.prog E (xNil x0) z6 fun e6x w3 =>
 opK Tryd.prog E (xV (Instr.fieldAt 92 e6x 1)) w3 fun e6y B8 =>
 opK Tryd.prog E (xV (Instr.loadAt 3 e6y)) B8 fun e6z C7 =>
 opK Tryd.prog E (xBuiltin .max #[3, 3] 3 [false, false] [e6z, x2]) C7 fun e6A B9 =>
 opK Tryd.prog E (xNil x0) B9 fun e6B D4 =>
 opK Tryd.prog E (xV (Instr.fieldAt 92 e6B 1)) D4 fun e6C E6 =>
 opK Tryd.prog E (xU (Instr.storeAt 3 e6C e6A)) E6 fun _z_49 D7 =>
 opK Tryd.prog E (xNil x0) D7 fun e6D D8 =>
 opK Tryd.prog E (xV (Instr.fieldAt 92 e6D 3)) D8 fun e6E I9 =>
 opK Tryd.prog E (xV (Instr.loadAt 4 e6E)) I9 fun b9l K7 =>
 opK Tryd.prog E (gsem (asB b9l) false (xInvoke (gval (asB b9l) false x1) "gnomon/tree.form" [])) K7 fun e6F H9 =>
 opK Tryd.prog E (gsem (asB b9l) false (xV (Op.unary .not e6F))) H9 fun e6G J1 =>
 opK Tryd.prog E (xPick b9l (Value.bool true) e6G) J1 fun e6H N9 =>
 opK Tryd.prog E (xNil x0) N9 fun e6I J7 =>
 opK Tryd.prog E (xV (Instr.fieldAt 92 e6I 3)) J7 fun e6J Q4 =>
 opK Tryd.prog E (xU (Instr.storeAt 4 e6J e6H)) Q4 fun _z_67 V4 =>
 xcut (fun _ K8 => c3w K8 R E) fun j1 =>
 opK Tryd.prog E (xCall (Value.func (.func 114) #[] #[]) [x1]) V4 fun d3C V9 =>
 opK Tryd.prog E (xV (Instr.extract d3C 0)) V9 fun b5q Y3 =>
 opK Tryd.prog E (xV (Instr.extract d3C 1)) Y3 fun e6K S7 =>
 xcond e6K
 (opK Tryd.prog E (xNil x0) S7 fun e6L a0v =>
 opK Tryd.prog E (xV (Instr.fieldAt 92 e6L 4)) a0v fun e6M Z0 =>
 opK Tryd.prog E (xV (Instr.loadAt 4 e6M)) Z0 fun b0N a1s =>
 opK Tryd.prog E (gsem (asB b0N) false (xCall (Value.func (.func 115) #[] #[]) [(gval (asB b0N) false b5q)])) a1s fun e6N a2k =>
 opK Tryd.prog E (gsem (asB b0N) false (xV (Op.unary .not e6N))) a2k fun e6O a2C =>
 opK Tryd.prog E (xPick b0N (Value.bool true) e6O) a2C fun e6P a2l =>
 opK Tryd.prog E (xNil x0) a2l fun e6Q a3I =>
 opK Tryd.prog E (xV (Instr.fieldAt 92 e6Q 4)) a3I fun e6R a3J =>
 opK Tryd.prog E (xU (Instr.storeAt 4 e6R e6P)) a3J fun _z_93 a3K =>
 opK Tryd.prog E (xNil x0) a3K fun e6S a2L =>
 opK Tryd.prog E (xV (Instr.fieldAt 92 e6S 5)) a2L fun e6T a3L =>
 opK Tryd.prog E (xV (Instr.loadAt 47 e6T)) a3L fun e6U a0E =>
 opK Tryd.prog E (xCall (Value.func (.func 116) #[] #[]) [e6U, b5q]) a0E fun e0T a1u =>
 opK Tryd.prog E (xV (Op.unary .not e0T)) a1u fun e0U a2r =>
 xcond e0U
 (opK Tryd.prog E (xNil x0) a2r fun e0V a2s =>
 opK Tryd.prog E (xV (Instr.fieldAt 92 e0V 5)) a2s fun e0W a2M =>
 opK Tryd.prog E (xV (Instr.loadAt 47 e0W)) a2M fun e0X a3x =>
 opK Tryd.prog E (xV (Instr.buildSlice 47 1 #[(0, b5q)])) a3x fun e0Y a3y =>
 opK Tryd.prog E (xBuiltin .append #[47, 47] 47 [false, false] [e0X, e0Y]) a3y fun e0Z a2N =>
 opK Tryd.prog E (xNil x0) a2N fun e1a a3z =>
 opK Tryd.prog E (xV (Instr.fieldAt 92 e1a 5)) a3z fun e1b a4n =>
 opK Tryd.prog E (xU (Instr.storeAt 47 e1b e0Z)) a4n fun _z_119 a4o =>
 j1 [] a4o)
 (j1 [] a2r))
 (j1 [] S7)))
noncomputable def c90 : Code := Tryd.f90.body.getD .skip
def h90 : Hint := (.seq .none (.seq (.seq .none (.seq .none (.cond (.seq .none (.seq .none .none)) .none))) (.seq (.seq .none (.cond (.seq .none (.seq .none .none)) .none)) (.seq .none (.seq .none (.cut [] (.seq .none (.seq .none (.cond (.seq .none (.seq .none (.cond .none .none))) .none))) (.seq .none .none)))))))
theorem e6V (x0 x1 x2 : Value) (w : World) (R : Value → World → Prop) (E : Pan) : F90 x0 x1 x2 w R E = callX Tryd.prog [.tmp 6] c90 h90 [x0, x1, x2] w R E := by kernel_rfl
theorem e6W {x0 x1 x2 : Value} {w : World} {R : Value → World → Prop} {E : Pan} (h : F90 x0 x1 x2 w R E) : Cv Tryd.prog 90 #[x0, x1, x2] w R E := by
 refine h8 (args := [x0, x1, x2]) (c := c90) (h := h90) (rs := [.tmp 6]) Tryd.func90 (by kernel_rfl) (by kernel_rfl) (Nat.le_of_ble_eq_true (by kernel_rfl)) (by kernel_rfl) (by kernel_rfl) (by kernel_rfl) ?_
 rw [← e6V]
 exact h
def F91 (x0 x1 : Value) (w : World) (R : Value → World → Prop) (E : Pan) : Prop :=
 opK Tryd.prog E (xNil x0) w fun a7C w_2 =>
 opK Tryd.prog E (xV (Instr.fieldAt 99 a7C 2)) w_2 fun a3i w_4 =>
 opK Tryd.prog E (xV (Instr.loadAt 3 a3i)) w_4 fun a6l w_6 =>
 opK Tryd.prog E (xBin .neq 3 (.tmp 8) (.const (Value.int .i64 0)) a6l (Value.int .i64 0)) w_6 fun b7K w_8 =>
 xcond b7K
 (R (Value.bool false) w_8)
 (opK Tryd.prog E (xNil x0) w_8 fun b9m m2 =>
 opK Tryd.prog E (xV (Instr.fieldAt 99 b9m 0)) m2 fun b0O m8 =>
 opK Tryd.prog E (xV (Instr.loadAt 3 b0O)) m8 fun c3C m5 =>
 opK Tryd.prog E (xBin .eql 3 (.tmp 13) (.const (Value.int .i64 4096)) c3C (Value.int .i64 4096)) m5 fun b5r o6 =>
 xcond b5r
 (opK Tryd.prog E (xNil x0) o6 fun b5s p8 =>
 opK Tryd.prog E (xV (Instr.fieldAt 99 b5s 2)) p8 fun b5j o4 =>
 opK Tryd.prog E (xU (Instr.storeAt 3 b5j (Value.int .i64 33))) o4 fun _z_21 r6 =>
 R (Value.bool false) r6)
 (opK Tryd.prog E (xBin .gtr 3 (.tmp 18) (.const (Value.int .i64 64)) x1 (Value.int .i64 64)) o6 fun b5t q6 =>
 xcond b5t
 (opK Tryd.prog E (xNil x0) q6 fun c3D u1 =>
 opK Tryd.prog E (xV (Instr.fieldAt 99 c3D 2)) u1 fun b0P w9 =>
 opK Tryd.prog E (xU (Instr.storeAt 3 b0P (Value.int .i64 32))) w9 fun _z_29 z6 =>
 R (Value.bool false) z6)
 (opK Tryd.prog E (xNil x0) q6 fun b9n w8 =>
 opK Tryd.prog E (xV (Instr.fieldAt 99 b9n 0)) w8 fun e6X z7 =>
 opK Tryd.prog E (xV (Instr.loadAt 3 e6X)) z7 fun e6Y B3 =>
 opK Tryd.prog E (xBin .add 3 (.tmp 26) (.const (Value.int .i64 1)) e6Y (Value.int .i64 1)) B3 fun b5u w3 =>
 opK Tryd.prog E (xNil x0) w3 fun a7H B8 =>
 opK Tryd.prog E (xV (Instr.fieldAt 99 a7H 0)) B8 fun e6Z C7 =>
 opK Tryd.prog E (xU (Instr.storeAt 3 e6Z b5u)) C7 fun _z_43 B9 =>
 opK Tryd.prog E (xNil x0) B9 fun b0Q D4 =>
 opK Tryd.prog E (xV (Instr.fieldAt 99 b0Q 1)) D4 fun b5v E6 =>
 opK Tryd.prog E (xV (Instr.loadAt 3 b5v)) E6 fun b5w D7 =>
 opK Tryd.prog E (xBuiltin .max #[3, 3] 3 [false, false] [b5w, x1]) D7 fun c3E D8 =>
 opK Tryd.prog E (xNil x0) D8 fun c3F I9 =>
 opK Tryd.prog E (xV (Instr.fieldAt 99 c3F 1)) I9 fun e7a K7 =>
 opK Tryd.prog E (xU (Instr.storeAt 3 e7a c3E)) K7 fun _z_57 H9 =>
 R (Value.bool true) H9)))
noncomputable def c91 : Code := Tryd.f91.body.getD .skip
def h91 : Hint := (.seq .none (.seq (.seq .none (.cond (.seq .none .none) .none)) (.seq (.seq .none (.cond (.seq .none (.seq .none .none)) .none)) (.seq (.seq .none (.cond (.seq .none (.seq .none .none)) .none)) (.seq .none (.seq .none (.seq .none .none)))))))
theorem e7b (x0 x1 : Value) (w : World) (R : Value → World → Prop) (E : Pan) : F91 x0 x1 w R E = callX Tryd.prog [.tmp 4] c91 h91 [x0, x1] w R E := by kernel_rfl
theorem e7c {x0 x1 : Value} {w : World} {R : Value → World → Prop} {E : Pan} (h : F91 x0 x1 w R E) : Cv Tryd.prog 91 #[x0, x1] w R E := by
 refine h8 (args := [x0, x1]) (c := c91) (h := h91) (rs := [.tmp 4]) Tryd.func91 (by kernel_rfl) (by kernel_rfl) (Nat.le_of_ble_eq_true (by kernel_rfl)) (by kernel_rfl) (by kernel_rfl) (by kernel_rfl) ?_
 rw [← e7b]
 exact h
def d3D (x0 x2 x4 x9 : Value) (w : World) (next4 : List Value → World → Prop) (R : Value → World → Prop) (E : Pan) : Prop :=
 opK Tryd.prog E (xV (Instr.fieldAt 88 x4 5)) w fun f9S w_8 =>
 opK Tryd.prog E (xV (Instr.loadAt 23 f9S)) w_8 fun f9T m2 =>
 opK Tryd.prog E (xBuiltin .len #[23] 3 [false] [f9T]) m2 fun e7d m8 =>
 opK Tryd.prog E (xBin .lss 3 (.tmp 83) (.tmp 86) x9 e7d) m8 fun b2Y m5 =>
 opK Tryd.prog E (gsem (asB b2Y) true (xNil (gval (asB b2Y) true x0))) m5 fun e7e o6 =>
 opK Tryd.prog E (gsem (asB b2Y) true (xV (Instr.fieldAt 99 e7e 2))) o6 fun e7f p8 =>
 opK Tryd.prog E (gsem (asB b2Y) true (xV (Instr.loadAt 3 e7f))) p8 fun e7g o4 =>
 opK Tryd.prog E (gsem (asB b2Y) true (xBin .eql 3 (.tmp 92) (.const (Value.int .i64 0)) e7g (Value.int .i64 0))) o4 fun e7h r6 =>
 opK Tryd.prog E (xPick b2Y e7h (Value.bool false)) r6 fun e7i q6 =>
 xcond e7i
 (opK Tryd.prog E (xV (Instr.fieldAt 88 x4 5)) q6 fun e7j u1 =>
 opK Tryd.prog E (xV (Instr.loadAt 23 e7j)) u1 fun e7k w9 =>
 opK Tryd.prog E (xV (Instr.indexAt 23 e7k x9)) w9 fun e1c z6 =>
 opK Tryd.prog E (xV (Instr.loadAt 88 e1c)) z6 fun e1d w8 =>
 opK Tryd.prog E (xBin .add 3 (.tmp 103) (.const (Value.int .i64 1)) x2 (Value.int .i64 1)) w8 fun e1e z7 =>
 opK Tryd.prog E (xCall (Value.func (.func 92) #[] #[]) [x0, e1d, e1e]) z7 fun _t105_35 B3 =>
 opK Tryd.prog E (xBin .add 3 (.tmp 95) (.const (Value.int .i64 1)) x9 (Value.int .i64 1)) B3 fun e7l w3 =>
 next4 [e7l] w3)
 (R (Value.tuple #[]) q6)
def c3G (x0 x2 x4 : Value) (w : World) (R : Value → World → Prop) (E : Pan) : Prop :=
 ∀ _τ : Fr, (xloop [9] [(Value.int .i64 0)] w fun τ_39 B8 next4 =>
 d3D x0 x2 x4 (τ_39 9) B8 next4 R E)
def d3E (x0 x2 x4 x8 : Value) (w : World) (next5 : List Value → World → Prop) (j3 : List Value → World → Prop) (_R : Value → World → Prop) (E : Pan) : Prop :=
 opK Tryd.prog E (xV (Instr.fieldAt 88 x4 4)) w fun e7m B9 =>
 opK Tryd.prog E (xV (Instr.loadAt 23 e7m)) B9 fun e7n D4 =>
 opK Tryd.prog E (xBuiltin .len #[23] 3 [false] [e7n]) D4 fun e7o E6 =>
 opK Tryd.prog E (xBin .lss 3 (.tmp 60) (.tmp 63) x8 e7o) E6 fun b2Z D7 =>
 opK Tryd.prog E (gsem (asB b2Z) true (xNil (gval (asB b2Z) true x0))) D7 fun e7p D8 =>
 opK Tryd.prog E (gsem (asB b2Z) true (xV (Instr.fieldAt 99 e7p 2))) D8 fun e7q I9 =>
 opK Tryd.prog E (gsem (asB b2Z) true (xV (Instr.loadAt 3 e7q))) I9 fun e7r K7 =>
 opK Tryd.prog E (gsem (asB b2Z) true (xBin .eql 3 (.tmp 69) (.const (Value.int .i64 0)) e7r (Value.int .i64 0))) K7 fun e7s H9 =>
 opK Tryd.prog E (xPick b2Z e7s (Value.bool false)) H9 fun e7t J1 =>
 xcond e7t
 (opK Tryd.prog E (xV (Instr.fieldAt 88 x4 4)) J1 fun e7u N9 =>
 opK Tryd.prog E (xV (Instr.loadAt 23 e7u)) N9 fun e7v J7 =>
 opK Tryd.prog E (xV (Instr.indexAt 23 e7v x8)) J7 fun e7w Q4 =>
 opK Tryd.prog E (xV (Instr.loadAt 88 e7w)) Q4 fun e7x V4 =>
 opK Tryd.prog E (xBin .add 3 (.tmp 80) (.const (Value.int .i64 1)) x2 (Value.int .i64 1)) V4 fun e7y K8 =>
 opK Tryd.prog E (xCall (Value.func (.func 92) #[] #[]) [x0, e7x, e7y]) K8 fun _t82_71 V9 =>
 opK Tryd.prog E (xBin .add 3 (.tmp 72) (.const (Value.int .i64 1)) x8 (Value.int .i64 1)) V9 fun e7z Y3 =>
 next5 [e7z] Y3)
 (j3 [] J1)
def c3H (x0 x2 x4 : Value) (w : World) (R : Value → World → Prop) (E : Pan) : Prop :=
 ∀ _τ : Fr, (xcut (fun _ C7 => c3G x0 x2 x4 C7 R E) fun j3 =>
 xloop [8] [(Value.int .i64 0)] w fun τ_75 S7 next5 =>
 d3E x0 x2 x4 (τ_75 8) S7 next5 j3 R E)
def d3F (x0 x2 x4 x7 : Value) (w : World) (next6 : List Value → World → Prop) (j2 : List Value → World → Prop) (_R : Value → World → Prop) (E : Pan) : Prop :=
 opK Tryd.prog E (xV (Instr.fieldAt 88 x4 2)) w fun e7A Z0 =>
 opK Tryd.prog E (xV (Instr.loadAt 28 e7A)) Z0 fun e7B a1s =>
 opK Tryd.prog E (xBuiltin .len #[28] 3 [false] [e7B]) a1s fun e7C a2k =>
 opK Tryd.prog E (xBin .lss 3 (.tmp 37) (.tmp 40) x7 e7C) a2k fun b3a a2C =>
 opK Tryd.prog E (gsem (asB b3a) true (xNil (gval (asB b3a) true x0))) a2C fun e7D a2l =>
 opK Tryd.prog E (gsem (asB b3a) true (xV (Instr.fieldAt 99 e7D 2))) a2l fun e7E a3I =>
 opK Tryd.prog E (gsem (asB b3a) true (xV (Instr.loadAt 3 e7E))) a3I fun e7F a3J =>
 opK Tryd.prog E (gsem (asB b3a) true (xBin .eql 3 (.tmp 46) (.const (Value.int .i64 0)) e7F (Value.int .i64 0))) a3J fun e7G a3K =>
 opK Tryd.prog E (xPick b3a e7G (Value.bool false)) a3K fun e7H a2L =>
 xcond e7H
 (opK Tryd.prog E (xV (Instr.fieldAt 88 x4 2)) a2L fun c3I a3L =>
 opK Tryd.prog E (xV (Instr.loadAt 28 c3I)) a3L fun e7I a0E =>
 opK Tryd.prog E (xV (Instr.indexAt 28 e7I x7)) a0E fun e1f a1u =>
 opK Tryd.prog E (xV (Instr.loadAt 30 e1f)) a1u fun e1g a2r =>
 opK Tryd.prog E (xBin .add 3 (.tmp 57) (.const (Value.int .i64 1)) x2 (Value.int .i64 1)) a2r fun e1h a2s =>
 opK Tryd.prog E (xCall (Value.func (.func 58) #[] #[]) [x0, e1g, e1h]) a2s fun _t59_107 a2M =>
 opK Tryd.prog E (xBin .add 3 (.tmp 49) (.const (Value.int .i64 1)) x7 (Value.int .i64 1)) a2M fun e1i a3x =>
 next6 [e1i] a3x)
 (j2 [] a2L)
def c3J (x0 x2 x4 : Value) (w : World) (R : Value → World → Prop) (E : Pan) : Prop :=
 ∀ _τ : Fr, (xcut (fun _ a0v => c3H x0 x2 x4 a0v R E) fun j2 =>
 xloop [7] [(Value.int .i64 0)] w fun τ_111 a3y next6 =>
 d3F x0 x2 x4 (τ_111 7) a3y next6 j2 R E)
def d3G (x0 x2 x4 x6 : Value) (w : World) (next7 : List Value → World → Prop) (j1 : List Value → World → Prop) (_R : Value → World → Prop) (E : Pan) : Prop :=
 opK Tryd.prog E (xV (Instr.fieldAt 88 x4 3)) w fun e1j a3z =>
 opK Tryd.prog E (xV (Instr.loadAt 31 e1j)) a3z fun e1k a4n =>
 opK Tryd.prog E (xBuiltin .len #[31] 3 [false] [e1k]) a4n fun e1l a4o =>
 opK Tryd.prog E (xBin .lss 3 (.tmp 14) (.tmp 17) x6 e1l) a4o fun b0A a5Z =>
 opK Tryd.prog E (gsem (asB b0A) true (xNil (gval (asB b0A) true x0))) a5Z fun e1m a7I =>
 opK Tryd.prog E (gsem (asB b0A) true (xV (Instr.fieldAt 99 e1m 2))) a7I fun e1n a6a =>
 opK Tryd.prog E (gsem (asB b0A) true (xV (Instr.loadAt 3 e1n))) a6a fun e1o a7J =>
 opK Tryd.prog E (gsem (asB b0A) true (xBin .eql 3 (.tmp 23) (.const (Value.int .i64 0)) e1o (Value.int .i64 0))) a7J fun e1p a7K =>
 opK Tryd.prog E (xPick b0A e1p (Value.bool false)) a7K fun e1q a6B =>
 xcond e1q
 (opK Tryd.prog E (xV (Instr.fieldAt 88 x4 3)) a6B fun e1r a7L =>
 opK Tryd.prog E (xV (Instr.loadAt 31 e1r)) a7L fun e1s a9n =>
 opK Tryd.prog E (xV (Instr.indexAt 31 e1s x6)) a9n fun e1t b2g =>
 opK Tryd.prog E (xV (Instr.loadAt 33 e1t)) b2g fun e1u b3K =>
 opK Tryd.prog E (xBin .add 3 (.tmp 34) (.const (Value.int .i64 1)) x2 (Value.int .i64 1)) b3K fun e1v b3L =>
 opK Tryd.prog E (xCall (Value.func (.func 61) #[] #[]) [x0, e1u, e1v]) b3L fun _t36_143 b0f =>
 opK Tryd.prog E (xBin .add 3 (.tmp 26) (.const (Value.int .i64 1)) x6 (Value.int .i64 1)) b0f fun e1w a9o =>
 next7 [e1w] a9o)
 (j1 [] a6B)
def F92 (x0 x1 x2 : Value) (w : World) (R : Value → World → Prop) (E : Pan) : Prop :=
 opK Tryd.prog E (xV (Instr.box 88 x1)) w fun a4S w_2 =>
 opK Tryd.prog E (xCall (Value.func (.func 91) #[] #[]) [x0, x2]) w_2 fun c9d w_4 =>
 opK Tryd.prog E (xV (Op.unary .not c9d)) w_4 fun c2u w_6 =>
 xcond c2u
 (R (Value.tuple #[]) w_6)
 (xcut (fun _ a2N => c3J x0 x2 a4S a2N R E) fun j1 =>
 xloop [6] [(Value.int .i64 0)] w_6 fun τ_147 b3M next7 =>
 d3G x0 x2 a4S (τ_147 6) b3M next7 j1 R E)
noncomputable def c92 : Code := Tryd.f92.body.getD .skip
def h92 : Hint := (.seq .none (.seq (.seq .none (.cond .none .none)) (.cut [] (.seq .none (.block (.loop [6] (.seq (.seq .none (.cond .none .none)) (.seq (.block .none) .none))))) (.cut [] (.seq .none (.block (.loop [7] (.seq (.seq .none (.cond .none .none)) (.seq (.block .none) .none))))) (.cut [] (.seq .none (.block (.loop [8] (.seq (.seq .none (.cond .none .none)) (.seq (.block .none) .none))))) (.seq .none (.block (.loop [9] (.seq (.seq .none (.cond .none .none)) (.seq (.block .none) .none))))))))))
theorem e7J (x0 x1 x2 : Value) (w : World) (R : Value → World → Prop) (E : Pan) : F92 x0 x1 x2 w R E = callX Tryd.prog [] c92 h92 [x0, x1, x2] w R E := by kernel_rfl
theorem e7K {x0 x1 x2 : Value} {w : World} {R : Value → World → Prop} {E : Pan} (h : F92 x0 x1 x2 w R E) : Cv Tryd.prog 92 #[x0, x1, x2] w R E := by
 refine h8 (args := [x0, x1, x2]) (c := c92) (h := h92) (rs := []) Tryd.func92 (by kernel_rfl) (by kernel_rfl) (Nat.le_of_ble_eq_true (by kernel_rfl)) (by kernel_rfl) (by kernel_rfl) (by kernel_rfl) ?_
 rw [← e7J]
 exact h
def c3K (x6 : Value) (w : World) (R : Value → World → Prop) (_E : Pan) : Prop :=
 ∀ _τ : Fr, (R x6 w)
def d3H (x6 x25 x26 x27 : Value) (w : World) (next3 : List Value → World → Prop) (j2 : List Value → World → Prop) (_R : Value → World → Prop) (E : Pan) : Prop :=
 opK Tryd.prog E (xBin .lss 3 (.tmp 27) (.tmp 26) x27 x26) w fun f9U w_8 =>
 xcond f9U
 (opK Tryd.prog E (xV (Instr.indexAt 172 x25 x27)) w_8 fun f9V m2 =>
 opK Tryd.prog E (xV (Instr.loadAt 97 f9V)) m2 fun e7L m8 =>
 opK Tryd.prog E (xBuiltin .append #[97, 97] 97 [false, false] [x6, e7L]) m8 fun c3L m5 =>
 opK Tryd.prog E (xBin .add 3 (.tmp 27) (.const (Value.int .i64 1)) x27 (Value.int .i64 1)) m5 fun c3M o6 =>
 next3 [c3L, c3M] o6)
 (j2 [x6] w_8)
def c3N (x0 x3 : Value) (w : World) (R : Value → World → Prop) (E : Pan) : Prop :=
 ∀ _τ : Fr, (opK Tryd.prog E (xCall (Value.func (.func 120) #[] #[]) [(Value.slice none 0 0), x3]) w fun f9W w_2 =>
 xcut (fun l_3 w_4 => c3K (nth l_3 0) w_4 R E) fun j2 =>
 opK Tryd.prog E (xBuiltin .len #[172] 3 [false] [x0]) w_2 fun c9e w_6 =>
 xloop [6, 27] [f9W, (Value.int .i64 0)] w_6 fun τ_17 p8 next3 =>
 d3H (τ_17 6) x0 c9e (τ_17 27) p8 next3 j2 R E)
def c3O (_x0 x3 _x9 _x10 x11 : Value) (w : World) (next4 : List Value → World → Prop) (_R : Value → World → Prop) (E : Pan) : Prop :=
 ∀ _τ : Fr, (opK Tryd.prog E (xBin .add 3 (.tmp 11) (.const (Value.int .i64 1)) x11 (Value.int .i64 1)) w fun c3P u1 =>
 next4 [x3, c3P] u1)
def d3I (x0 x3 x9 x10 x11 : Value) (w : World) (next4 : List Value → World → Prop) (j1 : List Value → World → Prop) (R : Value → World → Prop) (E : Pan) : Prop :=
 opK Tryd.prog E (xBin .lss 3 (.tmp 11) (.tmp 10) x11 x10) w fun e7M q6 =>
 xcond e7M
 (xcut (fun c3Q w9 => c3O x0 (nth c3Q 0) x9 x10 x11 w9 next4 R E) fun j5 =>
 opK Tryd.prog E (xV (Instr.indexAt 172 x9 x11)) q6 fun e7N z6 =>
 opK Tryd.prog E (xV (Instr.loadAt 97 e7N)) z6 fun e7O w8 =>
 opK Tryd.prog E (xBuiltin .len #[97] 3 [false] [e7O]) w8 fun c3R z7 =>
 opK Tryd.prog E (xBin .add 3 (.tmp 15) (.tmp 17) x3 c3R) z7 fun b5x B3 =>
 opK Tryd.prog E (xBin .lss 3 (.tmp 19) (.const (Value.int .i64 0)) b5x (Value.int .i64 0)) B3 fun e7P w3 =>
 xcond e7P
 (opK Tryd.prog E (xV (Instr.makeInterface 9 (Value.string ⟨#[108, 101, 110, 32, 111, 117, 116, 32, 111, 102, 32, 114, 97, 110, 103, 101]⟩))) w3 fun e7Q B8 =>
 opK Tryd.prog E (xV (Instr.panic e7Q)) B8 fun _z_41 C7 =>
 j5 [b5x] C7)
 (j5 [b5x] w3))
 (j1 [x3] q6)
def F94 (x0 : Value) (w : World) (R : Value → World → Prop) (E : Pan) : Prop :=
 xcut (fun d5Y o4 => c3N x0 (nth d5Y 0) o4 R E) fun j1 =>
 opK Tryd.prog E (xBuiltin .len #[172] 3 [false] [x0]) w fun e7R r6 =>
 xloop [3, 11] [(Value.int .i64 0), (Value.int .i64 0)] r6 fun τ_43 B9 next4 =>
 d3I x0 (τ_43 3) x0 e7R (τ_43 11) B9 next4 j1 R E
noncomputable def c94 : Code := Tryd.f94.body.getD .skip
def h94 : Hint := (.seq .none (.seq .none (.cut [3] (.seq .none (.block (.loop [3, 11] (.seq .none (.seq (.cond .none .none) (.cut [3] (.block (.seq .none (.seq .none (.seq .none (.cond .none .none))))) .none)))))) (.seq .none (.cut [6] (.seq .none (.block (.loop [6, 27] (.seq .none (.seq (.cond .none .none) (.seq (.block (.seq .none .none)) .none)))))) (.seq .none .none))))))
theorem e7S (x0 : Value) (w : World) (R : Value → World → Prop) (E : Pan) : F94 x0 w R E = callX Tryd.prog [.tmp 2] c94 h94 [x0] w R E := by kernel_rfl
theorem e7T {x0 : Value} {w : World} {R : Value → World → Prop} {E : Pan} (h : F94 x0 w R E) : Cv Tryd.prog 94 #[x0] w R E := by
 refine h8 (args := [x0]) (c := c94) (h := h94) (rs := [.tmp 2]) Tryd.func94 (by kernel_rfl) (by kernel_rfl) (Nat.le_of_ble_eq_true (by kernel_rfl)) (by kernel_rfl) (by kernel_rfl) (by kernel_rfl) ?_
 rw [← e7S]
 exact h
def c3S (x5 : Value) (w : World) (R : Value → World → Prop) (_E : Pan) : Prop :=
 ∀ _τ : Fr, (R x5 w)
def d3J (x1 x5 x8 x9 x10 : Value) (w : World) (next2 : List Value → World → Prop) (j1 : List Value → World → Prop) (_R : Value → World → Prop) (E : Pan) : Prop :=
 opK Tryd.prog E (xBin .lss 3 (.tmp 10) (.tmp 9) x10 x9) w fun a7E w_6 =>
 xcond a7E
 (opK Tryd.prog E (xV (Instr.indexAt 22 x8 x10)) w_6 fun a4R w_8 =>
 opK Tryd.prog E (xV (Instr.loadAt 67 a4R)) w_8 fun a7D m2 =>
 opK Tryd.prog E (xV (Instr.alloc 67 true (.tuple #[]))) m2 fun a4Q m8 =>
 opK Tryd.prog E (xU (Instr.storeAt 67 a4Q a7D)) m8 fun _z_13 m5 =>
 opK Tryd.prog E (xV (Instr.loadAt 67 a4Q)) m5 fun a7M o6 =>
 opK Tryd.prog E (xCall x1 [a7M]) o6 fun a7N p8 =>
 opK Tryd.prog E (xV (Instr.buildSlice 97 1 #[(0, a7N)])) p8 fun a7O o4 =>
 opK Tryd.prog E (xBuiltin .append #[97, 97] 97 [false, false] [x5, a7O]) o4 fun a7P r6 =>
 opK Tryd.prog E (xBin .add 3 (.tmp 10) (.const (Value.int .i64 1)) x10 (Value.int .i64 1)) r6 fun a7Q q6 =>
 next2 [a7P, a7Q] q6)
 (j1 [x5] w_6)
def F95 (x0 x1 : Value) (w : World) (R : Value → World → Prop) (E : Pan) : Prop :=
 xcut (fun l_1 w_2 => c3S (nth l_1 0) w_2 R E) fun j1 =>
 opK Tryd.prog E (xBuiltin .len #[22] 3 [false] [x0]) w fun a5L w_4 =>
 xloop [5, 10] [(Value.slice none 0 0), (Value.int .i64 0)] w_4 fun τ_25 u1 next2 =>
 d3J x1 (τ_25 5) x0 a5L (τ_25 10) u1 next2 j1 R E
noncomputable def c95 : Code := Tryd.f95.body.getD .skip
def h95 : Hint := (.seq .none (.seq .none (.cut [5] (.seq .none (.block (.loop [5, 10] (.seq .none (.seq (.cond .none .none) (.seq (.block (.seq .none .none)) .none)))))) (.seq .none .none))))
theorem e7U (x0 x1 : Value) (w : World) (R : Value → World → Prop) (E : Pan) : F95 x0 x1 w R E = callX Tryd.prog [.tmp 4] c95 h95 [x0, x1] w R E := by kernel_rfl
theorem e7V {x0 x1 : Value} {w : World} {R : Value → World → Prop} {E : Pan} (h : F95 x0 x1 w R E) : Cv Tryd.prog 95 #[x0, x1] w R E := by
 refine h8 (args := [x0, x1]) (c := c95) (h := h95) (rs := [.tmp 4]) Tryd.func95 (by kernel_rfl) (by kernel_rfl) (Nat.le_of_ble_eq_true (by kernel_rfl)) (by kernel_rfl) (by kernel_rfl) (by kernel_rfl) ?_
 rw [← e7U]
 exact h
def F96 (x0 : Value) (w : World) (R : Value → World → Prop) (E : Pan) : Prop :=
 opK Tryd.prog E (xV (Instr.box 67 x0)) w fun t8 w_2 =>
 opK Tryd.prog E (xV (Instr.loadAt 67 t8)) w_2 fun Y9 w_4 =>
 opK Tryd.prog E (xV (Instr.build 175 #[(0, Y9)])) w_4 fun a4i w_6 =>
 opK Tryd.prog E (xV (Instr.makeInterface 175 a4i)) w_6 fun a6H w_8 =>
 R a6H w_8
noncomputable def c96 : Code := Tryd.f96.body.getD .skip
def h96 : Hint := (.seq .none (.seq .none .none))
theorem e7W (x0 : Value) (w : World) (R : Value → World → Prop) (E : Pan) : F96 x0 w R E = callX Tryd.prog [.tmp 2] c96 h96 [x0] w R E := by kernel_rfl
theorem e7X {x0 : Value} {w : World} {R : Value → World → Prop} {E : Pan} (h : F96 x0 w R E) : Cv Tryd.prog 96 #[x0] w R E := by
 refine h8 (args := [x0]) (c := c96) (h := h96) (rs := [.tmp 2]) Tryd.func96 (by kernel_rfl) (by kernel_rfl) (Nat.le_of_ble_eq_true (by kernel_rfl)) (by kernel_rfl) (by kernel_rfl) (by kernel_rfl) ?_
 rw [← e7W]
 exact h
def c3T (x5 : Value) (w : World) (R : Value → World → Prop) (_E : Pan) : Prop :=
 ∀ _τ : Fr, (R x5 w)
def d3K (x1 x5 x8 x9 x10 : Value) (w : World) (next2 : List Value → World → Prop) (j1 : List Value → World → Prop) (_R : Value → World → Prop) (E : Pan) : Prop :=
 opK Tryd.prog E (xBin .lss 3 (.tmp 10) (.tmp 9) x10 x9) w fun a7E w_6 =>
 xcond a7E
 (opK Tryd.prog E (xV (Instr.indexAt 23 x8 x10)) w_6 fun a4R w_8 =>
 opK Tryd.prog E (xV (Instr.loadAt 88 a4R)) w_8 fun a7D m2 =>
 opK Tryd.prog E (xV (Instr.alloc 88 true (.tuple #[]))) m2 fun a4Q m8 =>
 opK Tryd.prog E (xU (Instr.storeAt 88 a4Q a7D)) m8 fun _z_13 m5 =>
 opK Tryd.prog E (xV (Instr.loadAt 88 a4Q)) m5 fun a7M o6 =>
 opK Tryd.prog E (xCall x1 [a7M]) o6 fun a7N p8 =>
 opK Tryd.prog E (xV (Instr.buildSlice 97 1 #[(0, a7N)])) p8 fun a7O o4 =>
 opK Tryd.prog E (xBuiltin .append #[97, 97] 97 [false, false] [x5, a7O]) o4 fun a7P r6 =>
 opK Tryd.prog E (xBin .add 3 (.tmp 10) (.const (Value.int .i64 1)) x10 (Value.int .i64 1)) r6 fun a7Q q6 =>
 next2 [a7P, a7Q] q6)
 (j1 [x5] w_6)
def F97 (x0 x1 : Value) (w : World) (R : Value → World → Prop) (E : Pan) : Prop :=
 xcut (fun l_1 w_2 => c3T (nth l_1 0) w_2 R E) fun j1 =>
 opK Tryd.prog E (xBuiltin .len #[23] 3 [false] [x0]) w fun a5L w_4 =>
 xloop [5, 10] [(Value.slice none 0 0), (Value.int .i64 0)] w_4 fun τ_25 u1 next2 =>
 d3K x1 (τ_25 5) x0 a5L (τ_25 10) u1 next2 j1 R E
noncomputable def c97 : Code := Tryd.f97.body.getD .skip
def h97 : Hint := (.seq .none (.seq .none (.cut [5] (.seq .none (.block (.loop [5, 10] (.seq .none (.seq (.cond .none .none) (.seq (.block (.seq .none .none)) .none)))))) (.seq .none .none))))
theorem e7Y (x0 x1 : Value) (w : World) (R : Value → World → Prop) (E : Pan) : F97 x0 x1 w R E = callX Tryd.prog [.tmp 4] c97 h97 [x0, x1] w R E := by kernel_rfl
theorem e7Z {x0 x1 : Value} {w : World} {R : Value → World → Prop} {E : Pan} (h : F97 x0 x1 w R E) : Cv Tryd.prog 97 #[x0, x1] w R E := by
 refine h8 (args := [x0, x1]) (c := c97) (h := h97) (rs := [.tmp 4]) Tryd.func97 (by kernel_rfl) (by kernel_rfl) (Nat.le_of_ble_eq_true (by kernel_rfl)) (by kernel_rfl) (by kernel_rfl) (by kernel_rfl) ?_
 rw [← e7Y]
 exact h
def F98 (x0 : Value) (w : World) (R : Value → World → Prop) (E : Pan) : Prop :=
 opK Tryd.prog E (xV (Instr.box 88 x0)) w fun t8 w_2 =>
 opK Tryd.prog E (xV (Instr.loadAt 88 t8)) w_2 fun Y9 w_4 =>
 opK Tryd.prog E (xV (Instr.build 177 #[(0, Y9)])) w_4 fun a4i w_6 =>
 opK Tryd.prog E (xV (Instr.makeInterface 177 a4i)) w_6 fun a6H w_8 =>
 R a6H w_8
noncomputable def c98 : Code := Tryd.f98.body.getD .skip
def h98 : Hint := (.seq .none (.seq .none .none))
theorem e8a (x0 : Value) (w : World) (R : Value → World → Prop) (E : Pan) : F98 x0 w R E = callX Tryd.prog [.tmp 2] c98 h98 [x0] w R E := by kernel_rfl
theorem e8b {x0 : Value} {w : World} {R : Value → World → Prop} {E : Pan} (h : F98 x0 w R E) : Cv Tryd.prog 98 #[x0] w R E := by
 refine h8 (args := [x0]) (c := c98) (h := h98) (rs := [.tmp 2]) Tryd.func98 (by kernel_rfl) (by kernel_rfl) (Nat.le_of_ble_eq_true (by kernel_rfl)) (by kernel_rfl) (by kernel_rfl) (by kernel_rfl) ?_
 rw [← e8a]
 exact h
def c9f (x0 : Value) (w : World) (R : Value → World → Prop) (E : Pan) : Prop :=
 opK Tryd.prog E (xV (Instr.typeAssert x0 141 175 true)) w fun e8c w_2 =>
 opK Tryd.prog E (xV (Instr.extract e8c 1)) w_2 fun a5L w_4 =>
 opK Tryd.prog E (xV (Instr.extract e8c 0)) w_4 fun a3V w_6 =>
 xcond a5L
 (opK Tryd.prog E (xV (Instr.alloc 175 true (.tuple #[]))) w_6 fun e8d w_8 =>
 opK Tryd.prog E (xU (Instr.storeAt 175 e8d a3V)) w_8 fun _z_9 m2 =>
 opK Tryd.prog E (xV (Instr.fieldAt 175 e8d 0)) m2 fun b0J m8 =>
 opK Tryd.prog E (xV (Instr.fieldAt 67 b0J 0)) m8 fun b5y m5 =>
 opK Tryd.prog E (xV (Instr.loadAt 9 b5y)) m5 fun b3b o6 =>
 R (Value.tuple #[b3b, (Value.bool true)]) o6)
 (opK Tryd.prog E (xV (Instr.typeAssert x0 141 177 true)) w_6 fun a4E p8 =>
 opK Tryd.prog E (xV (Instr.extract a4E 1)) p8 fun b5z o4 =>
 opK Tryd.prog E (xV (Instr.extract a4E 0)) o4 fun b5A r6 =>
 xcond b5z
 (opK Tryd.prog E (xV (Instr.alloc 177 true (.tuple #[]))) r6 fun c2v q6 =>
 opK Tryd.prog E (xU (Instr.storeAt 177 c2v b5A)) q6 fun _z_25 u1 =>
 dX u1 fun a8T =>
 qP Tryd.prog (xV (Instr.fieldAt 177 c2v 0)) fun e8e =>
 qP Tryd.prog (xV (Instr.fieldAt 88 e8e 1)) fun b9d =>
 qP Tryd.prog (xV (Instr.fieldAt 177 c2v 0)) fun e8f =>
 qP Tryd.prog (xV (Instr.fieldAt 88 e8f 0)) fun b9o =>
 qL Tryd.prog a8T (blk b9d) (xV (Instr.loadAt 9 b9d)) fun e8g =>
 qL Tryd.prog a8T (blk b9o) (xV (Instr.loadAt 3 b9o)) fun b5B =>
 qP Tryd.prog (xBin .eql 3 (.tmp 22) (.const (Value.int .i64 1)) b5B (Value.int .i64 1)) fun b5C =>
 qP Tryd.prog (gsem (asB b5C) false (xV (Instr.fieldAt 177 c2v 0))) fun e8h =>
 qP Tryd.prog (gsem (asB b5C) false (xV (Instr.fieldAt 88 e8h 0))) fun d3L =>
 qL Tryd.prog a8T (blk d3L) (gsem (asB b5C) false (xV (Instr.loadAt 3 d3L))) fun b5u =>
 qP Tryd.prog (gsem (asB b5C) false (xBin .eql 3 (.tmp 27) (.const (Value.int .i64 2)) b5u (Value.int .i64 2))) fun e8i =>
 qP Tryd.prog (xPick b5C (Value.bool true) e8i) fun c3U =>
 R (Value.tuple #[e8g, c3U]) a8T)
 (opK Tryd.prog E (xV (Instr.typeAssert x0 141 96 true)) r6 fun d3M b7G =>
 opK Tryd.prog E (xV (Instr.extract d3M 1)) b7G fun e8j b5o =>
 opK Tryd.prog E (xV (Instr.extract d3M 0)) b5o fun e8k c3r =>
 xcond e8j
 (opK Tryd.prog E (xV (Instr.alloc 96 true (.tuple #[]))) c3r fun c2w a8U =>
 opK Tryd.prog E (xU (Instr.storeAt 96 c2w e8k)) a8U fun _z_48 c3u =>
 dX c3u fun D7 =>
 qP Tryd.prog (xV (Instr.fieldAt 96 c2w 0)) fun e8l =>
 qP Tryd.prog (xV (Instr.fieldAt 30 e8l 2)) fun d3N =>
 qP Tryd.prog (xV (Instr.fieldAt 96 c2w 0)) fun c3V =>
 qP Tryd.prog (xV (Instr.fieldAt 30 c3V 0)) fun d3O =>
 qL Tryd.prog D7 (blk d3N) (xV (Instr.loadAt 9 d3N)) fun e8m =>
 qL Tryd.prog D7 (blk d3O) (xV (Instr.loadAt 3 d3O)) fun e8n =>
 qP Tryd.prog (xBin .eql 3 (.tmp 38) (.const (Value.int .i64 2)) e8n (Value.int .i64 2)) fun b5D =>
 qP Tryd.prog (gsem (asB b5D) false (xV (Instr.fieldAt 96 c2w 0))) fun e8o =>
 qP Tryd.prog (gsem (asB b5D) false (xV (Instr.fieldAt 30 e8o 0))) fun d3P =>
 qL Tryd.prog D7 (blk d3P) (gsem (asB b5D) false (xV (Instr.loadAt 3 d3P))) fun e8p =>
 qP Tryd.prog (gsem (asB b5D) false (xBin .eql 3 (.tmp 43) (.const (Value.int .i64 4)) e8p (Value.int .i64 4))) fun e8q =>
 qP Tryd.prog (xPick b5D (Value.bool true) e8q) fun e8r =>
 R (Value.tuple #[e8m, e8r]) D7)
 (R (Value.tuple #[(Value.string ⟨#[]⟩), (Value.bool false)]) c3r)))
noncomputable def e8s : Code := Tryd.f114.body.getD .skip
def e8t : Hint := (.seq .none (.seq (.seq .none (.block (.seq .none (.cond (.seq .none (.seq .none .none)) (.seq .none (.cond (.seq .none (.seq (.reg [(0, 131072, 32), (1, 262144, 131072), (2, 524288, 262144), (0, 1048576, 32), (8, 2097152, 1048576), (16, 4194304, 2097152), (32, 8388608, 4194304), (64, 16777216, 8388608), (128, 33554432, 16777248), (384, 67108864, 50331648), (640, 134217728, 83886080), (1152, 268435456, 150994944), (2176, 536870912, 285212672), (135, 4, 524288), (16383, 8, 536870912)] [1060, 1060, 1056, 1060, 1060, 1028, 1060, 1060, 1060, 1060, 36, 1060, 1060, 1060, 1060] (.early 0 (.early 1 (.early 3 (.early 4 (.load 2 (.load 5 (.early 6 (.early 7 (.early 8 (.early 9 (.early 13 (.load 10 (.early 11 (.early 12 (.early 14 .done)))))))))))))))) .none)) (.seq .none (.cond (.seq .none (.seq (.reg [(0, 8589934592, 64), (1, 17179869184, 8589934592), (2, 34359738368, 17179869184), (0, 68719476736, 64), (8, 137438953472, 68719476736), (16, 274877906944, 137438953472), (32, 549755813888, 274877906944), (64, 1099511627776, 549755813888), (128, 2199023255552, 1099511627840), (384, 4398046511104, 3298534883328), (640, 8796093022208, 5497558138880), (1152, 17592186044416, 9895604649984), (2176, 35184372088832, 18691697672192), (135, 4, 34359738368), (16383, 8, 35184372088832)] [1060, 1060, 1056, 1060, 1060, 1028, 1060, 1060, 1060, 1060, 36, 1060, 1060, 1060, 1060] (.early 0 (.early 1 (.early 3 (.early 4 (.load 2 (.load 5 (.early 6 (.early 7 (.early 8 (.early 9 (.early 13 (.load 10 (.early 11 (.early 12 (.early 14 .done)))))))))))))))) .none)) .none)))))))) (.seq .none .none)))
theorem e1x (x0 : Value) (w : World) (R : Value → World → Prop) (E : Pan) : c9f x0 w R E = callX Tryd.prog [.tmp 2, .tmp 3] e8s e8t [x0] w R E := by kernel_rfl
theorem e1y {x0 : Value} {w : World} {R : Value → World → Prop} {E : Pan} (h : c9f x0 w R E) : Cv Tryd.prog 114 #[x0] w R E := by
 refine h8 (args := [x0]) (c := e8s) (h := e8t) (rs := [.tmp 2, .tmp 3]) Tryd.func114 (by kernel_rfl) (by kernel_rfl) (Nat.le_of_ble_eq_true (by kernel_rfl)) (by kernel_rfl) (by kernel_rfl) (by kernel_rfl) ?_
 rw [← e1x]
 exact h
def c0M (w : World) (R : Value → World → Prop) (_E : Pan) : Prop :=
 ∀ _τ : Fr, (R (Value.bool true) w)
def c8f (x21 : Value) (w : World) (next2 : List Value → World → Prop) (j1 : List Value → World → Prop) (R : Value → World → Prop) (E : Pan) : Prop :=
 opK Tryd.prog E (xV (Instr.next x21 true 0)) w fun b5E r6 =>
 opK Tryd.prog E (xV (Instr.extract b5E 0)) r6 fun b5F q6 =>
 xcond b5F
 (opK Tryd.prog E (xV (Instr.extract b5E 1)) q6 fun e8u u1 =>
 opK Tryd.prog E (xV (Instr.extract b5E 2)) u1 fun d3Q w9 =>
 opK Tryd.prog E (xCall (Value.func (.func 125) #[] #[]) [d3Q]) w9 fun e8v z6 =>
 opK Tryd.prog E (xV (Op.unary .not e8v)) z6 fun a9y w8 =>
 opK Tryd.prog E (gsem (asB a9y) false (xBin .eql 3 (.tmp 30) (.const (Value.int .i64 0)) (gval (asB a9y) false e8u) (Value.int .i64 0))) w8 fun b9p z7 =>
 opK Tryd.prog E (gsem (asB (gval (asB a9y) false b9p)) true (xCall (Value.func (.func 126) #[] #[]) [(gval (asB (gval (asB a9y) false b9p)) true d3Q)])) z7 fun e8w B3 =>
 opK Tryd.prog E (gsem (asB (gval (asB a9y) false b9p)) true (xBin .neq 3 (.tmp 34) (.const (Value.int .i64 3)) e8w (Value.int .i64 3))) B3 fun e8x w3 =>
 opK Tryd.prog E (gsem (asB a9y) false (xPick (gval (asB a9y) false b9p) e8x (Value.bool false))) w3 fun e8y B8 =>
 opK Tryd.prog E (xPick a9y (Value.bool true) e8y) B8 fun e8z C7 =>
 xcond e8z
 (R (Value.bool false) C7)
 (next2 [] C7))
 (j1 [] q6)
def c9g (x0 : Value) (w : World) (R : Value → World → Prop) (E : Pan) : Prop :=
 opK Tryd.prog E (xBin .eql 9 (.tmp 5) (.const (Value.string ⟨#[]⟩)) x0 (Value.string ⟨#[]⟩)) w fun a7C w_2 =>
 opK Tryd.prog E (gsem (asB a7C) false (xCall (Value.func (.func 122) #[] #[]) [(gval (asB a7C) false x0)])) w_2 fun a5L w_4 =>
 opK Tryd.prog E (gsem (asB a7C) false (xV (Op.unary .not a5L))) w_4 fun a3V w_6 =>
 opK Tryd.prog E (xPick a7C (Value.bool true) a3V) w_6 fun b3N w_8 =>
 opK Tryd.prog E (gsem (asB b3N) false (xCall (Value.func (.func 123) #[] #[]) [(gval (asB b3N) false x0)])) w_8 fun a7F m2 =>
 opK Tryd.prog E (xPick b3N (Value.bool true) a7F) m2 fun b5p m8 =>
 opK Tryd.prog E (gsem (asB b5p) false (xCall (Value.func (.func 124) #[] #[]) [(gval (asB b5p) false x0)])) m8 fun a7G m5 =>
 opK Tryd.prog E (xPick b5p (Value.bool true) a7G) m5 fun a6t o6 =>
 xcond a6t
 (R (Value.bool false) o6)
 (xcut (fun _ p8 => c0M p8 R E) fun j1 =>
 opK Tryd.prog E (xV (Instr.range 9 x0)) o6 fun c3W o4 =>
 xloop [] [] o4 fun _ B9 next2 =>
 c8f c3W B9 next2 j1 R E)
noncomputable def e8A : Code := Tryd.f115.body.getD .skip
def e8B : Hint := (.seq .none (.seq (.seq .none (.cond (.seq .none .none) .none)) (.cut [] (.seq .none (.block (.loop [] (.seq .none (.seq (.cond .none .none) (.block (.seq .none (.seq .none (.cond (.seq .none .none) .none))))))))) (.seq .none .none))))
theorem e1z (x0 : Value) (w : World) (R : Value → World → Prop) (E : Pan) : c9g x0 w R E = callX Tryd.prog [.tmp 2] e8A e8B [x0] w R E := by kernel_rfl
theorem e1A {x0 : Value} {w : World} {R : Value → World → Prop} {E : Pan} (h : c9g x0 w R E) : Cv Tryd.prog 115 #[x0] w R E := by
 refine h8 (args := [x0]) (c := e8A) (h := e8B) (rs := [.tmp 2]) Tryd.func115 (by kernel_rfl) (by kernel_rfl) (Nat.le_of_ble_eq_true (by kernel_rfl)) (by kernel_rfl) (by kernel_rfl) (by kernel_rfl) ?_
 rw [← e1z]
 exact h
def c9h (x0 x1 : Value) (w : World) (R : Value → World → Prop) (E : Pan) : Prop :=
 opK Tryd.prog E (xCall (Value.func (.func 127) #[] #[]) [x0, x1]) w fun c3X w_2 =>
 opK Tryd.prog E (xBin .geq 3 (.tmp 7) (.const (Value.int .i64 0)) c3X (Value.int .i64 0)) w_2 fun b2C w_4 =>
 R b2C w_4
noncomputable def e8C : Code := Tryd.f116.body.getD .skip
def e8D : Hint := (.seq .none (.seq .none .none))
theorem e1B (x0 x1 : Value) (w : World) (R : Value → World → Prop) (E : Pan) : c9h x0 x1 w R E = callX Tryd.prog [.tmp 4] e8C e8D [x0, x1] w R E := by kernel_rfl
theorem e1C {x0 x1 : Value} {w : World} {R : Value → World → Prop} {E : Pan} (h : c9h x0 x1 w R E) : Cv Tryd.prog 116 #[x0, x1] w R E := by
 refine h8 (args := [x0, x1]) (c := e8C) (h := e8D) (rs := [.tmp 4]) Tryd.func116 (by kernel_rfl) (by kernel_rfl) (Nat.le_of_ble_eq_true (by kernel_rfl)) (by kernel_rfl) (by kernel_rfl) (by kernel_rfl) ?_
 rw [← e1B]
 exact h
def c0N (x0 : Value) (w : World) (R : Value → World → Prop) (_E : Pan) : Prop :=
 ∀ _τ : Fr, (R x0 w)
def c8g (x0 x1 : Value) (w : World) (R : Value → World → Prop) (E : Pan) : Prop :=
 ∀ _τ : Fr, (xcut (fun l_1 w_2 => c0N (nth l_1 0) w_2 R E) fun j2 =>
 opK Tryd.prog E (xBuiltin .cap #[97] 3 [false] [x0]) w fun b3G w_4 =>
 opK Tryd.prog E (xBuiltin .len #[97] 3 [false] [x0]) w_4 fun b3I w_6 =>
 opK Tryd.prog E (xBin .sub 3 (.tmp 10) (.tmp 12) b3G b3I) w_6 fun b3J w_8 =>
 opK Tryd.prog E (xBin .sub 3 (.tmp 8) (.tmp 13) x1 b3J) w_8 fun a7F m2 =>
 opK Tryd.prog E (xBin .gtr 3 (.tmp 15) (.const (Value.int .i64 0)) a7F (Value.int .i64 0)) m2 fun a3k m8 =>
 xcond a3k
 (opK Tryd.prog E (xBuiltin .cap #[97] 3 [false] [x0]) m8 fun c3Y m5 =>
 opK Tryd.prog E (xV (Instr.sliceAt 97 x0 none (some c3Y) none)) m5 fun b5G o6 =>
 opK Tryd.prog E (xBuiltin .append #[97, 3] 97 [false, false] [b5G, a7F]) o6 fun b3c p8 =>
 opK Tryd.prog E (xBuiltin .len #[97] 3 [false] [x0]) p8 fun b5H o4 =>
 opK Tryd.prog E (xV (Instr.sliceAt 97 b3c none (some b5H) none)) o4 fun e8E r6 =>
 j2 [e8E] r6)
 (j2 [x0] m8))
def d5Z (x0 x1 : Value) (w : World) (R : Value → World → Prop) (E : Pan) : Prop :=
 xcut (fun _ q6 => c8g x0 x1 q6 R E) fun j1 =>
 opK Tryd.prog E (xBin .lss 3 (.tmp 5) (.const (Value.int .i64 0)) x1 (Value.int .i64 0)) w fun f9X u1 =>
 xcond f9X
 (opK Tryd.prog E (xV (Instr.makeInterface 9 (Value.string ⟨#[99, 97, 110, 110, 111, 116, 32, 98, 101, 32, 110, 101, 103, 97, 116, 105, 118, 101]⟩))) u1 fun f9Y w9 =>
 opK Tryd.prog E (xV (Instr.panic f9Y)) w9 fun _z_29 z6 =>
 j1 [] z6)
 (j1 [] u1)
noncomputable def e8F : Code := Tryd.f120.body.getD .skip
def e8G : Hint := (.seq .none (.cut [] (.seq .none (.cond .none .none)) (.cut [0] (.seq .none (.seq .none (.cond .none .none))) (.seq .none .none))))
theorem e1D (x0 x1 : Value) (w : World) (R : Value → World → Prop) (E : Pan) : d5Z x0 x1 w R E = callX Tryd.prog [.tmp 4] e8F e8G [x0, x1] w R E := by kernel_rfl
theorem e1E {x0 x1 : Value} {w : World} {R : Value → World → Prop} {E : Pan} (h : d5Z x0 x1 w R E) : Cv Tryd.prog 120 #[x0, x1] w R E := by
 refine h8 (args := [x0, x1]) (c := e8F) (h := e8G) (rs := [.tmp 4]) Tryd.func120 (by kernel_rfl) (by kernel_rfl) (Nat.le_of_ble_eq_true (by kernel_rfl)) (by kernel_rfl) (by kernel_rfl) (by kernel_rfl) ?_
 rw [← e1D]
 exact h
def c9i (x0 : Value) (w : World) (R : Value → World → Prop) (E : Pan) : Prop :=
 opK Tryd.prog E (xCall (Value.func (.func 130) #[] #[]) [x0]) w fun a4S w_2 =>
 opK Tryd.prog E (xBin .gtr 3 (.tmp 4) (.const (Value.int .i64 32)) a4S (Value.int .i64 32)) w_2 fun b3O w_4 =>
 R b3O w_4
noncomputable def e8H : Code := Tryd.f123.body.getD .skip
def e8I : Hint := (.seq .none (.seq .none .none))
theorem e1F (x0 : Value) (w : World) (R : Value → World → Prop) (E : Pan) : c9i x0 w R E = callX Tryd.prog [.tmp 2] e8H e8I [x0] w R E := by kernel_rfl
theorem e1G {x0 : Value} {w : World} {R : Value → World → Prop} {E : Pan} (h : c9i x0 w R E) : Cv Tryd.prog 123 #[x0] w R E := by
 refine h8 (args := [x0]) (c := e8H) (h := e8I) (rs := [.tmp 2]) Tryd.func123 (by kernel_rfl) (by kernel_rfl) (Nat.le_of_ble_eq_true (by kernel_rfl)) (by kernel_rfl) (by kernel_rfl) (by kernel_rfl) ?_
 rw [← e1F]
 exact h
def c0O (x4 : Value) (w : World) (R : Value → World → Prop) (_E : Pan) : Prop :=
 ∀ _τ : Fr, (xcond x4
 (R (Value.bool true) w)
 (R (Value.bool false) w))
def c9j (x0 : Value) (w : World) (R : Value → World → Prop) (E : Pan) : Prop :=
 xcut (fun l_1 w_2 => c0O (nth l_1 0) w_2 R E) fun j1 =>
 opK Tryd.prog E (xBin .eql 9 (.tmp 3) (.const (Value.string ⟨#[118, 97, 114]⟩)) x0 (Value.string ⟨#[118, 97, 114]⟩)) w fun b3O w_4 =>
 xcond b3O
 (j1 [b3O] w_4)
 (opK Tryd.prog E (xBin .eql 9 (.tmp 3) (.const (Value.string ⟨#[97, 114, 114, 97, 121]⟩)) x0 (Value.string ⟨#[97, 114, 114, 97, 121]⟩)) w_4 fun a8V w_6 =>
 xcond a8V
 (j1 [a8V] w_6)
 (opK Tryd.prog E (xBin .eql 9 (.tmp 3) (.const (Value.string ⟨#[105, 102]⟩)) x0 (Value.string ⟨#[105, 102]⟩)) w_6 fun b2B w_8 =>
 xcond b2B
 (j1 [b2B] w_8)
 (opK Tryd.prog E (xBin .eql 9 (.tmp 3) (.const (Value.string ⟨#[101, 108, 115, 101]⟩)) x0 (Value.string ⟨#[101, 108, 115, 101]⟩)) w_8 fun a9M m2 =>
 xcond a9M
 (j1 [a9M] m2)
 (opK Tryd.prog E (xBin .eql 9 (.tmp 3) (.const (Value.string ⟨#[119, 104, 105, 108, 101]⟩)) x0 (Value.string ⟨#[119, 104, 105, 108, 101]⟩)) m2 fun b0g m8 =>
 xcond b0g
 (j1 [b0g] m8)
 (opK Tryd.prog E (xBin .eql 9 (.tmp 3) (.const (Value.string ⟨#[97, 115, 115, 101, 114, 116]⟩)) x0 (Value.string ⟨#[97, 115, 115, 101, 114, 116]⟩)) m8 fun b0R m5 =>
 xcond b0R
 (j1 [b0R] m5)
 (opK Tryd.prog E (xBin .eql 9 (.tmp 3) (.const (Value.string ⟨#[97, 115, 115, 117, 109, 101]⟩)) x0 (Value.string ⟨#[97, 115, 115, 117, 109, 101]⟩)) m5 fun b0S o6 =>
 xcond b0S
 (j1 [b0S] o6)
 (opK Tryd.prog E (xBin .eql 9 (.tmp 3) (.const (Value.string ⟨#[115, 107, 105, 112]⟩)) x0 (Value.string ⟨#[115, 107, 105, 112]⟩)) o6 fun b0T p8 =>
 xcond b0T
 (j1 [b0T] p8)
 (opK Tryd.prog E (xBin .eql 9 (.tmp 3) (.const (Value.string ⟨#[105, 110, 112, 117, 116]⟩)) x0 (Value.string ⟨#[105, 110, 112, 117, 116]⟩)) p8 fun b0U o4 =>
 xcond b0U
 (j1 [b0U] o4)
 (opK Tryd.prog E (xBin .eql 9 (.tmp 3) (.const (Value.string ⟨#[116, 114, 117, 101]⟩)) x0 (Value.string ⟨#[116, 114, 117, 101]⟩)) o4 fun b0V r6 =>
 xcond b0V
 (j1 [b0V] r6)
 (opK Tryd.prog E (xBin .eql 9 (.tmp 3) (.const (Value.string ⟨#[102, 97, 108, 115, 101]⟩)) x0 (Value.string ⟨#[102, 97, 108, 115, 101]⟩)) r6 fun c3Z q6 =>
 j1 [c3Z] q6))))))))))
noncomputable def e8J : Code := Tryd.f124.body.getD .skip
def e8K : Hint := (.seq .none (.seq (.seq .none (.block (.cut [4] (.seq .none (.cond .none (.seq .none (.cond .none (.seq .none (.cond .none (.seq .none (.cond .none (.seq .none (.cond .none (.seq .none (.cond .none (.seq .none (.cond .none (.seq .none (.cond .none (.seq .none (.cond .none (.seq .none (.cond .none .none)))))))))))))))))))) (.cond (.seq .none .none) .none)))) (.seq .none .none)))
theorem e1H (x0 : Value) (w : World) (R : Value → World → Prop) (E : Pan) : c9j x0 w R E = callX Tryd.prog [.tmp 2] e8J e8K [x0] w R E := by kernel_rfl
theorem e1I {x0 : Value} {w : World} {R : Value → World → Prop} {E : Pan} (h : c9j x0 w R E) : Cv Tryd.prog 124 #[x0] w R E := by
 refine h8 (args := [x0]) (c := e8J) (h := e8K) (rs := [.tmp 2]) Tryd.func124 (by kernel_rfl) (by kernel_rfl) (Nat.le_of_ble_eq_true (by kernel_rfl)) (by kernel_rfl) (by kernel_rfl) (by kernel_rfl) ?_
 rw [← e1H]
 exact h
def c9k (x0 : Value) (w : World) (R : Value → World → Prop) (E : Pan) : Prop :=
 opK Tryd.prog E (xCall (Value.func (.func 126) #[] #[]) [x0]) w fun e8L w_2 =>
 opK Tryd.prog E (xBin .eql 3 (.tmp 6) (.const (Value.int .i64 3)) e8L (Value.int .i64 3)) w_2 fun a3i w_4 =>
 opK Tryd.prog E (gsem (asB a3i) false (xBin .eql 3 (.tmp 9) (.const (Value.int .i64 4)) (gval (asB a3i) false e8L) (Value.int .i64 4))) w_4 fun a3V w_6 =>
 opK Tryd.prog E (xPick a3i (Value.bool true) a3V) w_6 fun b3N w_8 =>
 R b3N w_8
noncomputable def e8M : Code := Tryd.f125.body.getD .skip
def e8N : Hint := (.seq .none (.seq .none (.seq .none .none)))
theorem e1J (x0 : Value) (w : World) (R : Value → World → Prop) (E : Pan) : c9k x0 w R E = callX Tryd.prog [.tmp 2] e8M e8N [x0] w R E := by kernel_rfl
theorem e1K {x0 : Value} {w : World} {R : Value → World → Prop} {E : Pan} (h : c9k x0 w R E) : Cv Tryd.prog 125 #[x0] w R E := by
 refine h8 (args := [x0]) (c := e8M) (h := e8N) (rs := [.tmp 2]) Tryd.func125 (by kernel_rfl) (by kernel_rfl) (Nat.le_of_ble_eq_true (by kernel_rfl)) (by kernel_rfl) (by kernel_rfl) (by kernel_rfl) ?_
 rw [← e1J]
 exact h
def c0P (x39 : Value) (w : World) (R : Value → World → Prop) (_E : Pan) : Prop :=
 ∀ _τ : Fr, (xcond x39
 (R (Value.int .i64 3) w)
 (R (Value.int .i64 6) w))
def c0Q (x1 x31 : Value) (w : World) (R : Value → World → Prop) (E : Pan) : Prop :=
 ∀ _τ : Fr, (xcond x31
 (R (Value.int .i64 6) w)
 (opK Tryd.prog E (xV (Instr.makeFunc (.func 131) #[] #[x1])) w fun b6L w_8 =>
 opK Tryd.prog E (xCall b6L [(Value.int .i32 48), (Value.int .i32 57)]) w_8 fun f9Z m2 =>
 xcond f9Z
 (R (Value.int .i64 4) m2)
 (xcut (fun c9l m8 => c0P (nth c9l 0) m8 R E) fun j4 =>
 opK Tryd.prog E (xV (Instr.loadAt 21 x1)) m2 fun e8O m5 =>
 opK Tryd.prog E (xBin .eql 21 (.tmp 40) (.const (Value.int .i32 95)) e8O (Value.int .i32 95)) m5 fun d3R o6 =>
 xcond d3R
 (j4 [d3R] o6)
 (opK Tryd.prog E (xCall b6L [(Value.int .i32 97), (Value.int .i32 122)]) o6 fun b9f p8 =>
 xcond b9f
 (j4 [b9f] p8)
 (opK Tryd.prog E (xCall b6L [(Value.int .i32 65), (Value.int .i32 90)]) p8 fun d3S o4 =>
 xcond d3S
 (j4 [d3S] o4)
 (opK Tryd.prog E (xCall b6L [(Value.int .i32 192), (Value.int .i32 591)]) o4 fun d3T r6 =>
 xcond d3T
 (j4 [d3T] r6)
 (opK Tryd.prog E (xCall b6L [(Value.int .i32 913), (Value.int .i32 969)]) r6 fun d3U q6 =>
 xcond d3U
 (j4 [d3U] q6)
 (opK Tryd.prog E (xCall b6L [(Value.int .i32 1040), (Value.int .i32 1103)]) q6 fun e8P u1 =>
 j4 [e8P] u1))))))))
def c0R (x1 x4 x11 : Value) (w : World) (R : Value → World → Prop) (E : Pan) : Prop :=
 ∀ _τ : Fr, (xcond x11
 (R (Value.int .i64 5) w)
 (xcut (fun c3Q w9 => c0Q x1 (nth c3Q 0) w9 R E) fun j3 =>
 opK Tryd.prog E (xBin .eql 21 (.tmp 4) (.const (Value.int .i32 215)) x4 (Value.int .i32 215)) w fun b5I z6 =>
 xcond b5I
 (j3 [b5I] z6)
 (opK Tryd.prog E (xBin .eql 21 (.tmp 4) (.const (Value.int .i32 247)) x4 (Value.int .i32 247)) z6 fun d3V w8 =>
 xcond d3V
 (j3 [d3V] w8)
 (opK Tryd.prog E (xBin .eql 21 (.tmp 4) (.const (Value.int .i32 930)) x4 (Value.int .i32 930)) w8 fun e8Q z7 =>
 j3 [e8Q] z7))))
def c0S (x1 x4 x5 : Value) (w : World) (R : Value → World → Prop) (E : Pan) : Prop :=
 ∀ _τ : Fr, (xcond x5
 (R (Value.int .i64 1) w)
 (opK Tryd.prog E (xBin .eql 21 (.tmp 4) (.const (Value.int .i32 10)) x4 (Value.int .i32 10)) w fun a3V w_6 =>
 xcond a3V
 (R (Value.int .i64 2) w_6)
 (xcut (fun b5J B3 => c0R x1 x4 (nth b5J 0) B3 R E) fun j2 =>
 opK Tryd.prog E (xBin .eql 21 (.tmp 4) (.const (Value.int .i32 59)) x4 (Value.int .i32 59)) w_6 fun d3W w3 =>
 xcond d3W
 (j2 [d3W] w3)
 (opK Tryd.prog E (xBin .eql 21 (.tmp 4) (.const (Value.int .i32 44)) x4 (Value.int .i32 44)) w3 fun d3X B8 =>
 xcond d3X
 (j2 [d3X] B8)
 (opK Tryd.prog E (xBin .eql 21 (.tmp 4) (.const (Value.int .i32 123)) x4 (Value.int .i32 123)) B8 fun d3Y C7 =>
 xcond d3Y
 (j2 [d3Y] C7)
 (opK Tryd.prog E (xBin .eql 21 (.tmp 4) (.const (Value.int .i32 125)) x4 (Value.int .i32 125)) C7 fun d3Z B9 =>
 xcond d3Z
 (j2 [d3Z] B9)
 (opK Tryd.prog E (xBin .eql 21 (.tmp 4) (.const (Value.int .i32 40)) x4 (Value.int .i32 40)) B9 fun d4a D4 =>
 xcond d4a
 (j2 [d4a] D4)
 (opK Tryd.prog E (xBin .eql 21 (.tmp 4) (.const (Value.int .i32 41)) x4 (Value.int .i32 41)) D4 fun d4b E6 =>
 xcond d4b
 (j2 [d4b] E6)
 (opK Tryd.prog E (xBin .eql 21 (.tmp 4) (.const (Value.int .i32 91)) x4 (Value.int .i32 91)) E6 fun d4c D7 =>
 xcond d4c
 (j2 [d4c] D7)
 (opK Tryd.prog E (xBin .eql 21 (.tmp 4) (.const (Value.int .i32 93)) x4 (Value.int .i32 93)) D7 fun b9g D8 =>
 xcond b9g
 (j2 [b9g] D8)
 (opK Tryd.prog E (xBin .eql 21 (.tmp 4) (.const (Value.int .i32 61)) x4 (Value.int .i32 61)) D8 fun b9h I9 =>
 xcond b9h
 (j2 [b9h] I9)
 (opK Tryd.prog E (xBin .eql 21 (.tmp 4) (.const (Value.int .i32 33)) x4 (Value.int .i32 33)) I9 fun b9i K7 =>
 xcond b9i
 (j2 [b9i] K7)
 (opK Tryd.prog E (xBin .eql 21 (.tmp 4) (.const (Value.int .i32 60)) x4 (Value.int .i32 60)) K7 fun b2X H9 =>
 xcond b2X
 (j2 [b2X] H9)
 (opK Tryd.prog E (xBin .eql 21 (.tmp 4) (.const (Value.int .i32 62)) x4 (Value.int .i32 62)) H9 fun b0L J1 =>
 xcond b0L
 (j2 [b0L] J1)
 (opK Tryd.prog E (xBin .eql 21 (.tmp 4) (.const (Value.int .i32 43)) x4 (Value.int .i32 43)) J1 fun b9q N9 =>
 xcond b9q
 (j2 [b9q] N9)
 (opK Tryd.prog E (xBin .eql 21 (.tmp 4) (.const (Value.int .i32 45)) x4 (Value.int .i32 45)) N9 fun b9r J7 =>
 xcond b9r
 (j2 [b9r] J7)
 (opK Tryd.prog E (xBin .eql 21 (.tmp 4) (.const (Value.int .i32 42)) x4 (Value.int .i32 42)) J7 fun d4d Q4 =>
 xcond d4d
 (j2 [d4d] Q4)
 (opK Tryd.prog E (xBin .eql 21 (.tmp 4) (.const (Value.int .i32 47)) x4 (Value.int .i32 47)) Q4 fun d4e V4 =>
 xcond d4e
 (j2 [d4e] V4)
 (opK Tryd.prog E (xBin .eql 21 (.tmp 4) (.const (Value.int .i32 37)) x4 (Value.int .i32 37)) V4 fun d4f K8 =>
 xcond d4f
 (j2 [d4f] K8)
 (opK Tryd.prog E (xBin .eql 21 (.tmp 4) (.const (Value.int .i32 38)) x4 (Value.int .i32 38)) K8 fun d4g V9 =>
 xcond d4g
 (j2 [d4g] V9)
 (opK Tryd.prog E (xBin .eql 21 (.tmp 4) (.const (Value.int .i32 124)) x4 (Value.int .i32 124)) V9 fun e8R Y3 =>
 j2 [e8R] Y3)))))))))))))))))))))
def c9m (x0 : Value) (w : World) (R : Value → World → Prop) (E : Pan) : Prop :=
 opK Tryd.prog E (xV (Instr.box 21 x0)) w fun t8 w_2 =>
 opK Tryd.prog E (xV (Instr.loadAt 21 t8)) w_2 fun b5K w_4 =>
 xcut (fun g4D S7 => c0S t8 b5K (nth g4D 0) S7 R E) fun j1 =>
 opK Tryd.prog E (xBin .eql 21 (.tmp 4) (.const (Value.int .i32 32)) b5K (Value.int .i32 32)) w_4 fun d9I a0v =>
 xcond d9I
 (j1 [d9I] a0v)
 (opK Tryd.prog E (xBin .eql 21 (.tmp 4) (.const (Value.int .i32 9)) b5K (Value.int .i32 9)) a0v fun d9J Z0 =>
 xcond d9J
 (j1 [d9J] Z0)
 (opK Tryd.prog E (xBin .eql 21 (.tmp 4) (.const (Value.int .i32 13)) b5K (Value.int .i32 13)) Z0 fun g0a a1s =>
 j1 [g0a] a1s))
noncomputable def e8S : Code := Tryd.f126.body.getD .skip
def e8T : Hint := (.seq .none (.seq (.seq .none (.block (.cut [5] (.seq .none (.cond .none (.seq .none (.cond .none .none)))) (.cond (.seq .none .none) (.seq .none (.cond (.seq .none .none) (.cut [11] (.seq .none (.cond .none (.seq .none (.cond .none (.seq .none (.cond .none (.seq .none (.cond .none (.seq .none (.cond .none (.seq .none (.cond .none (.seq .none (.cond .none (.seq .none (.cond .none (.seq .none (.cond .none (.seq .none (.cond .none (.seq .none (.cond .none (.seq .none (.cond .none (.seq .none (.cond .none (.seq .none (.cond .none (.seq .none (.cond .none (.seq .none (.cond .none (.seq .none (.cond .none (.seq .none (.cond .none .none)))))))))))))))))))))))))))))))))))) (.cond (.seq .none .none) (.cut [31] (.seq .none (.cond .none (.seq .none (.cond .none .none)))) (.cond (.seq .none .none) .none)))))))))) (.seq .none (.seq (.block (.seq .none (.cond (.seq .none .none) (.cut [39] (.seq .none (.cond .none (.seq .none (.cond .none (.seq .none (.cond .none (.seq .none (.cond .none (.seq .none (.cond .none .none)))))))))) (.cond (.seq .none .none) .none))))) (.seq .none .none)))))
theorem e1L (x0 : Value) (w : World) (R : Value → World → Prop) (E : Pan) : c9m x0 w R E = callX Tryd.prog [.tmp 2] e8S e8T [x0] w R E := by kernel_rfl
theorem e1M {x0 : Value} {w : World} {R : Value → World → Prop} {E : Pan} (h : c9m x0 w R E) : Cv Tryd.prog 126 #[x0] w R E := by
 refine h8 (args := [x0]) (c := e8S) (h := e8T) (rs := [.tmp 2]) Tryd.func126 (by kernel_rfl) (by kernel_rfl) (Nat.le_of_ble_eq_true (by kernel_rfl)) (by kernel_rfl) (by kernel_rfl) (by kernel_rfl) ?_
 rw [← e1L]
 exact h
def c0T (w : World) (R : Value → World → Prop) (_E : Pan) : Prop :=
 ∀ _τ : Fr, (R (Value.int .i64 (-1)) w)
def c8h (x0 x1 x7 x8 : Value) (w : World) (next2 : List Value → World → Prop) (j1 : List Value → World → Prop) (R : Value → World → Prop) (E : Pan) : Prop :=
 opK Tryd.prog E (xBin .lss 3 (.tmp 8) (.tmp 7) x8 x7) w fun b7L w_6 =>
 xcond b7L
 (opK Tryd.prog E (xV (Instr.indexAt 47 x0 x8)) w_6 fun b9s w_8 =>
 opK Tryd.prog E (xV (Instr.loadAt 9 b9s)) w_8 fun b9t m2 =>
 opK Tryd.prog E (xBin .eql 9 (.tmp 11) (.tmp 15) x1 b9t) m2 fun a3k m8 =>
 xcond a3k
 (R x8 m8)
 (opK Tryd.prog E (xBin .add 3 (.tmp 8) (.const (Value.int .i64 1)) x8 (Value.int .i64 1)) m8 fun a7G m5 =>
 next2 [a7G] m5))
 (j1 [] w_6)
def c9n (x0 x1 : Value) (w : World) (R : Value → World → Prop) (E : Pan) : Prop :=
 xcut (fun _ w_2 => c0T w_2 R E) fun j1 =>
 opK Tryd.prog E (xBuiltin .len #[47] 3 [false] [x0]) w fun a3i w_4 =>
 xloop [8] [(Value.int .i64 0)] w_4 fun τ_15 o6 next2 =>
 c8h x0 x1 a3i (τ_15 8) o6 next2 j1 R E
noncomputable def e8U : Code := Tryd.f127.body.getD .skip
def e8V : Hint := (.seq .none (.cut [] (.seq .none (.block (.loop [8] (.seq .none (.seq (.cond .none .none) (.seq (.block (.seq .none (.seq .none (.cond (.seq .none .none) .none)))) .none)))))) (.seq .none .none)))
theorem e1N (x0 x1 : Value) (w : World) (R : Value → World → Prop) (E : Pan) : c9n x0 x1 w R E = callX Tryd.prog [.tmp 4] e8U e8V [x0, x1] w R E := by kernel_rfl
theorem e1O {x0 x1 : Value} {w : World} {R : Value → World → Prop} {E : Pan} (h : c9n x0 x1 w R E) : Cv Tryd.prog 127 #[x0, x1] w R E := by
 refine h8 (args := [x0, x1]) (c := e8U) (h := e8V) (rs := [.tmp 4]) Tryd.func127 (by kernel_rfl) (by kernel_rfl) (Nat.le_of_ble_eq_true (by kernel_rfl)) (by kernel_rfl) (by kernel_rfl) (by kernel_rfl) ?_
 rw [← e1N]
 exact h
def c0U (x2 : Value) (w : World) (R : Value → World → Prop) (_E : Pan) : Prop :=
 ∀ _τ : Fr, (R x2 w)
def c8i (x2 x4 : Value) (w : World) (next2 : List Value → World → Prop) (j1 : List Value → World → Prop) (_R : Value → World → Prop) (E : Pan) : Prop :=
 opK Tryd.prog E (xV (Instr.next x4 true 0)) w fun d6a w_6 =>
 opK Tryd.prog E (xV (Instr.extract d6a 0)) w_6 fun d6b w_8 =>
 xcond d6b
 (opK Tryd.prog E (xBin .add 3 (.tmp 7) (.const (Value.int .i64 1)) x2 (Value.int .i64 1)) w_8 fun a9M m2 =>
 next2 [a9M] m2)
 (j1 [x2] w_8)
def c9o (x0 : Value) (w : World) (R : Value → World → Prop) (E : Pan) : Prop :=
 xcut (fun l_1 w_2 => c0U (nth l_1 0) w_2 R E) fun j1 =>
 opK Tryd.prog E (xV (Instr.range 9 x0)) w fun b5K w_4 =>
 xloop [2] [(Value.int .i64 0)] w_4 fun τ_11 m8 next2 =>
 c8i (τ_11 2) b5K m8 next2 j1 R E
noncomputable def e8W : Code := Tryd.f130.body.getD .skip
def e8X : Hint := (.seq .none (.cut [2] (.seq .none (.block (.loop [2] (.seq .none (.seq (.cond .none .none) (.block .none)))))) (.seq .none .none)))
theorem e1P (x0 : Value) (w : World) (R : Value → World → Prop) (E : Pan) : c9o x0 w R E = callX Tryd.prog [.tmp 2] e8W e8X [x0] w R E := by kernel_rfl
theorem e1Q {x0 : Value} {w : World} {R : Value → World → Prop} {E : Pan} (h : c9o x0 w R E) : Cv Tryd.prog 130 #[x0] w R E := by
 refine h8 (args := [x0]) (c := e8W) (h := e8X) (rs := [.tmp 2]) Tryd.func130 (by kernel_rfl) (by kernel_rfl) (Nat.le_of_ble_eq_true (by kernel_rfl)) (by kernel_rfl) (by kernel_rfl) (by kernel_rfl) ?_
 rw [← e1P]
 exact h
def c9p (x0 x1 x2 : Value) (w : World) (R : Value → World → Prop) (E : Pan) : Prop :=
 opK Tryd.prog E (xV (Instr.loadAt 21 x2)) w fun c3X w_2 =>
 opK Tryd.prog E (xBin .leq 21 (.tmp 6) (.tmp 7) x0 c3X) w_2 fun b2C w_4 =>
 opK Tryd.prog E (gsem (asB b2C) true (xV (Instr.loadAt 21 x2))) w_4 fun a3V w_6 =>
 opK Tryd.prog E (gsem (asB b2C) true (xBin .leq 21 (.tmp 10) (.tmp 11) a3V (gval (asB b2C) true x1))) w_6 fun a4R w_8 =>
 opK Tryd.prog E (xPick b2C a4R (Value.bool false)) w_8 fun a7D m2 =>
 R a7D m2
noncomputable def e8Y : Code := Tryd.f131.body.getD .skip
def e8Z : Hint := (.seq .none (.seq .none .none))
theorem e1R (x0 x1 x2 : Value) (w : World) (R : Value → World → Prop) (E : Pan) : c9p x0 x1 x2 w R E = callX Tryd.prog [.tmp 5] e8Y e8Z [x0, x1, x2] w R E := by kernel_rfl
theorem e1S {x0 x1 x2 : Value} {w : World} {R : Value → World → Prop} {E : Pan} (h : c9p x0 x1 x2 w R E) : Cv Tryd.prog 131 #[x0, x1, x2] w R E := by
 refine h8 (args := [x0, x1, x2]) (c := e8Y) (h := e8Z) (rs := [.tmp 5]) Tryd.func131 (by kernel_rfl) (by kernel_rfl) (Nat.le_of_ble_eq_true (by kernel_rfl)) (by kernel_rfl) (by kernel_rfl) (by kernel_rfl) ?_
 rw [← e1R]
 exact h
def c0V (x3 x59 : Value) (w : World) (R : Value → World → Prop) (E : Pan) : Prop :=
 ∀ _τ : Fr, (xcond x59
 (opK Tryd.prog E (xBin .eql 3 (.tmp 65) (.const (Value.int .i64 2)) x3 (Value.int .i64 2)) w fun e9a a0v =>
 R e9a a0v)
 (R (Value.bool false) w))
def c0W (x3 x38 x54 : Value) (w : World) (R : Value → World → Prop) (E : Pan) : Prop :=
 ∀ _τ : Fr, (xcond x54
 (opK Tryd.prog E (xBin .eql 3 (.tmp 57) (.const (Value.int .i64 1)) x3 (Value.int .i64 1)) w fun e9b S7 =>
 R e9b S7)
 (xcut (fun a6m Z0 => c0V x3 (nth a6m 0) Z0 R E) fun j3 =>
 opK Tryd.prog E (xBin .eql 3 (.tmp 38) (.const (Value.int .i64 6)) x38 (Value.int .i64 6)) w fun b0N a1s =>
 xcond b0N
 (j3 [b0N] a1s)
 (opK Tryd.prog E (xBin .eql 3 (.tmp 38) (.const (Value.int .i64 7)) x38 (Value.int .i64 7)) a1s fun d4h a2k =>
 xcond d4h
 (j3 [d4h] a2k)
 (opK Tryd.prog E (xBin .eql 3 (.tmp 38) (.const (Value.int .i64 8)) x38 (Value.int .i64 8)) a2k fun d4i a2C =>
 xcond d4i
 (j3 [d4i] a2C)
 (opK Tryd.prog E (xBin .eql 3 (.tmp 38) (.const (Value.int .i64 9)) x38 (Value.int .i64 9)) a2C fun d4j a2l =>
 xcond d4j
 (j3 [d4j] a2l)
 (opK Tryd.prog E (xBin .eql 3 (.tmp 38) (.const (Value.int .i64 10)) x38 (Value.int .i64 10)) a2l fun e9c a3I =>
 j3 [e9c] a3I))))))
def c0X (x3 x38 x49 : Value) (w : World) (R : Value → World → Prop) (E : Pan) : Prop :=
 ∀ _τ : Fr, (xcond x49
 (opK Tryd.prog E (xBin .eql 3 (.tmp 52) (.const (Value.int .i64 0)) x3 (Value.int .i64 0)) w fun b5q Y3 =>
 R b5q Y3)
 (xcut (fun b7M a3J => c0W x3 x38 (nth b7M 0) a3J R E) fun j2 =>
 opK Tryd.prog E (xBin .eql 3 (.tmp 38) (.const (Value.int .i64 4)) x38 (Value.int .i64 4)) w fun d4k a3K =>
 xcond d4k
 (j2 [d4k] a3K)
 (opK Tryd.prog E (xBin .eql 3 (.tmp 38) (.const (Value.int .i64 5)) x38 (Value.int .i64 5)) a3K fun e9d a2L =>
 j2 [e9d] a2L)))
def c9q (x0 : Value) (w : World) (R : Value → World → Prop) (E : Pan) : Prop :=
 opK Tryd.prog E (xV (Instr.box 96 x0)) w fun t8 w_2 =>
 opK Tryd.prog E (xV (Instr.fieldAt 96 t8 0)) w_2 fun c4a w_4 =>
 opK Tryd.prog E (xV (Instr.fieldAt 30 c4a 3)) w_4 fun c4b w_6 =>
 opK Tryd.prog E (xV (Instr.loadAt 28 c4b)) w_6 fun a8W w_8 =>
 opK Tryd.prog E (xBuiltin .len #[28] 3 [false] [a8W]) w_8 fun b2D m2 =>
 opK Tryd.prog E (xV (Instr.loadAt 96 t8)) m2 fun b0J m8 =>
 opK Tryd.prog E (xV (Instr.makeInterface 96 b0J)) m8 fun b5y m5 =>
 opK Tryd.prog E (xCall (Value.func (.func 114) #[] #[]) [b5y]) m5 fun b3b o6 =>
 opK Tryd.prog E (xV (Instr.extract b3b 0)) o6 fun _t14_17 p8 =>
 opK Tryd.prog E (xV (Instr.extract b3b 1)) p8 fun b5z o4 =>
 opK Tryd.prog E (xV (Instr.fieldAt 96 t8 0)) o4 fun b5A r6 =>
 opK Tryd.prog E (xV (Instr.fieldAt 30 b5A 0)) r6 fun c4c q6 =>
 opK Tryd.prog E (xV (Instr.loadAt 3 c4c)) q6 fun c4d u1 =>
 opK Tryd.prog E (xBin .neq 3 (.tmp 18) (.const (Value.int .i64 1)) c4d (Value.int .i64 1)) u1 fun b5L w9 =>
 opK Tryd.prog E (gsem (asB b5L) true (xV (Instr.fieldAt 96 t8 0))) w9 fun c4e z6 =>
 opK Tryd.prog E (gsem (asB b5L) true (xV (Instr.fieldAt 30 c4e 1))) z6 fun e9e w8 =>
 opK Tryd.prog E (gsem (asB b5L) true (xV (Instr.loadAt 2 e9e))) w8 fun e9f z7 =>
 opK Tryd.prog E (gsem (asB b5L) true (xBin .neq 2 (.tmp 23) (.const (Value.int .i64 0)) e9f (Value.int .i64 0))) z7 fun e9g B3 =>
 opK Tryd.prog E (xPick b5L e9g (Value.bool false)) B3 fun a7R w3 =>
 opK Tryd.prog E (gsem (asB a7R) false (xV (Op.unary .not (gval (asB a7R) false b5z)))) w3 fun a7H B8 =>
 opK Tryd.prog E (gsem (asB (gval (asB a7R) false a7H)) true (xV (Instr.fieldAt 96 t8 0))) B8 fun b5M C7 =>
 opK Tryd.prog E (gsem (asB (gval (asB a7R) false a7H)) true (xV (Instr.fieldAt 30 b5M 2))) C7 fun b5N B9 =>
 opK Tryd.prog E (gsem (asB (gval (asB a7R) false a7H)) true (xV (Instr.loadAt 9 b5N))) B9 fun b0Q D4 =>
 opK Tryd.prog E (gsem (asB (gval (asB a7R) false a7H)) true (xBin .neq 9 (.tmp 32) (.const (Value.string ⟨#[]⟩)) b0Q (Value.string ⟨#[]⟩))) D4 fun b5v E6 =>
 opK Tryd.prog E (gsem (asB a7R) false (xPick (gval (asB a7R) false a7H) b5v (Value.bool false))) E6 fun b5w D7 =>
 opK Tryd.prog E (xPick a7R (Value.bool true) b5w) D7 fun c4f D8 =>
 xcond c4f
 (R (Value.bool false) D8)
 (opK Tryd.prog E (xV (Instr.fieldAt 96 t8 0)) D8 fun c3V I9 =>
 opK Tryd.prog E (xV (Instr.fieldAt 30 c3V 0)) I9 fun e9h K7 =>
 opK Tryd.prog E (xV (Instr.loadAt 3 e9h)) K7 fun b9u H9 =>
 opK Tryd.prog E (xBin .eql 3 (.tmp 38) (.const (Value.int .i64 1)) b9u (Value.int .i64 1)) H9 fun e9i J1 =>
 xcond e9i
 (opK Tryd.prog E (xV (Instr.fieldAt 96 t8 0)) J1 fun e9j N9 =>
 opK Tryd.prog E (xV (Instr.fieldAt 30 e9j 1)) N9 fun e9k J7 =>
 opK Tryd.prog E (xV (Instr.loadAt 2 e9k)) J7 fun e9l Q4 =>
 opK Tryd.prog E (xBin .geq 2 (.tmp 43) (.const (Value.int .i64 0)) e9l (Value.int .i64 0)) Q4 fun c4g V4 =>
 opK Tryd.prog E (gsem (asB c4g) true (xBin .eql 3 (.tmp 46) (.const (Value.int .i64 0)) (gval (asB c4g) true b2D) (Value.int .i64 0))) V4 fun e9m K8 =>
 opK Tryd.prog E (xPick c4g e9m (Value.bool false)) K8 fun e9n V9 =>
 R e9n V9)
 (xcut (fun e9o a3L => c0X b2D b9u (nth e9o 0) a3L R E) fun j1 =>
 opK Tryd.prog E (xBin .eql 3 (.tmp 38) (.const (Value.int .i64 2)) b9u (Value.int .i64 2)) J1 fun d4l a0E =>
 xcond d4l
 (j1 [d4l] a0E)
 (opK Tryd.prog E (xBin .eql 3 (.tmp 38) (.const (Value.int .i64 3)) b9u (Value.int .i64 3)) a0E fun e1T a1u =>
 j1 [e1T] a1u)))
noncomputable def e9p : Code := Tryd.f148.body.getD .skip
def e9q : Hint := (.seq .none (.seq .none (.seq .none (.seq (.seq .none (.cond (.seq .none .none) .none)) (.seq (.seq .none (.block (.seq .none (.cond (.seq .none .none) (.cut [49] (.seq .none (.cond .none .none)) (.cond (.seq .none .none) (.cut [54] (.seq .none (.cond .none .none)) (.cond (.seq .none .none) (.cut [59] (.seq .none (.cond .none (.seq .none (.cond .none (.seq .none (.cond .none (.seq .none (.cond .none .none)))))))) (.cond (.seq .none .none) .none)))))))))) (.seq .none .none))))))
theorem e1U (x0 : Value) (w : World) (R : Value → World → Prop) (E : Pan) : c9q x0 w R E = callX Tryd.prog [.tmp 2] e9p e9q [x0] w R E := by kernel_rfl
theorem e1V {x0 : Value} {w : World} {R : Value → World → Prop} {E : Pan} (h : c9q x0 w R E) : Cv Tryd.prog 148 #[x0] w R E := by
 refine h8 (args := [x0]) (c := e9p) (h := e9q) (rs := [.tmp 2]) Tryd.func148 (by kernel_rfl) (by kernel_rfl) (Nat.le_of_ble_eq_true (by kernel_rfl)) (by kernel_rfl) (by kernel_rfl) (by kernel_rfl) ?_
 rw [← e1U]
 exact h
def c9r (x0 : Value) (w : World) (R : Value → World → Prop) (E : Pan) : Prop :=
 opK Tryd.prog E (xV (Instr.box 96 x0)) w fun t8 w_2 =>
 opK Tryd.prog E (xV (Instr.fieldAt 96 t8 0)) w_2 fun Y9 w_4 =>
 opK Tryd.prog E (xV (Instr.fieldAt 30 Y9 3)) w_4 fun a4i w_6 =>
 opK Tryd.prog E (xV (Instr.loadAt 28 a4i)) w_6 fun a6H w_8 =>
 opK Tryd.prog E (xCall (Value.func (.func 150) #[] #[]) [a6H, (Value.func (.func 151) #[] #[])]) w_8 fun b0K m2 =>
 R b0K m2
noncomputable def e9r : Code := Tryd.f149.body.getD .skip
def e9s : Hint := (.seq .none (.seq .none .none))
theorem e1W (x0 : Value) (w : World) (R : Value → World → Prop) (E : Pan) : c9r x0 w R E = callX Tryd.prog [.tmp 2] e9r e9s [x0] w R E := by kernel_rfl
theorem e1X {x0 : Value} {w : World} {R : Value → World → Prop} {E : Pan} (h : c9r x0 w R E) : Cv Tryd.prog 149 #[x0] w R E := by
 refine h8 (args := [x0]) (c := e9r) (h := e9s) (rs := [.tmp 2]) Tryd.func149 (by kernel_rfl) (by kernel_rfl) (Nat.le_of_ble_eq_true (by kernel_rfl)) (by kernel_rfl) (by kernel_rfl) (by kernel_rfl) ?_
 rw [← e1W]
 exact h
def c0Y (x5 : Value) (w : World) (R : Value → World → Prop) (_E : Pan) : Prop :=
 ∀ _τ : Fr, (R x5 w)
def c8j (x1 x5 x8 x9 x10 : Value) (w : World) (next2 : List Value → World → Prop) (j1 : List Value → World → Prop) (_R : Value → World → Prop) (E : Pan) : Prop :=
 opK Tryd.prog E (xBin .lss 3 (.tmp 10) (.tmp 9) x10 x9) w fun a7E w_6 =>
 xcond a7E
 (opK Tryd.prog E (xV (Instr.indexAt 28 x8 x10)) w_6 fun a4R w_8 =>
 opK Tryd.prog E (xV (Instr.loadAt 30 a4R)) w_8 fun a7D m2 =>
 opK Tryd.prog E (xV (Instr.alloc 30 true (.tuple #[]))) m2 fun a4Q m8 =>
 opK Tryd.prog E (xU (Instr.storeAt 30 a4Q a7D)) m8 fun _z_13 m5 =>
 opK Tryd.prog E (xV (Instr.loadAt 30 a4Q)) m5 fun a7M o6 =>
 opK Tryd.prog E (xCall x1 [a7M]) o6 fun a7N p8 =>
 opK Tryd.prog E (xV (Instr.buildSlice 97 1 #[(0, a7N)])) p8 fun a7O o4 =>
 opK Tryd.prog E (xBuiltin .append #[97, 97] 97 [false, false] [x5, a7O]) o4 fun a7P r6 =>
 opK Tryd.prog E (xBin .add 3 (.tmp 10) (.const (Value.int .i64 1)) x10 (Value.int .i64 1)) r6 fun a7Q q6 =>
 next2 [a7P, a7Q] q6)
 (j1 [x5] w_6)
def c9s (x0 x1 : Value) (w : World) (R : Value → World → Prop) (E : Pan) : Prop :=
 xcut (fun l_1 w_2 => c0Y (nth l_1 0) w_2 R E) fun j1 =>
 opK Tryd.prog E (xBuiltin .len #[28] 3 [false] [x0]) w fun a5L w_4 =>
 xloop [5, 10] [(Value.slice none 0 0), (Value.int .i64 0)] w_4 fun τ_25 u1 next2 =>
 c8j x1 (τ_25 5) x0 a5L (τ_25 10) u1 next2 j1 R E
noncomputable def e9t : Code := Tryd.f150.body.getD .skip
def e9u : Hint := (.seq .none (.seq .none (.cut [5] (.seq .none (.block (.loop [5, 10] (.seq .none (.seq (.cond .none .none) (.seq (.block (.seq .none .none)) .none)))))) (.seq .none .none))))
theorem e1Y (x0 x1 : Value) (w : World) (R : Value → World → Prop) (E : Pan) : c9s x0 x1 w R E = callX Tryd.prog [.tmp 4] e9t e9u [x0, x1] w R E := by kernel_rfl
theorem e1Z {x0 x1 : Value} {w : World} {R : Value → World → Prop} {E : Pan} (h : c9s x0 x1 w R E) : Cv Tryd.prog 150 #[x0, x1] w R E := by
 refine h8 (args := [x0, x1]) (c := e9t) (h := e9u) (rs := [.tmp 4]) Tryd.func150 (by kernel_rfl) (by kernel_rfl) (Nat.le_of_ble_eq_true (by kernel_rfl)) (by kernel_rfl) (by kernel_rfl) (by kernel_rfl) ?_
 rw [← e1Y]
 exact h
def c9t (x0 : Value) (w : World) (R : Value → World → Prop) (E : Pan) : Prop :=
 opK Tryd.prog E (xV (Instr.box 30 x0)) w fun t8 w_2 =>
 opK Tryd.prog E (xV (Instr.loadAt 30 t8)) w_2 fun Y9 w_4 =>
 opK Tryd.prog E (xV (Instr.build 96 #[(0, Y9)])) w_4 fun a4i w_6 =>
 opK Tryd.prog E (xV (Instr.makeInterface 96 a4i)) w_6 fun a6H w_8 =>
 R a6H w_8
noncomputable def e9v : Code := Tryd.f151.body.getD .skip
def e9w : Hint := (.seq .none (.seq .none .none))
theorem e2a (x0 : Value) (w : World) (R : Value → World → Prop) (E : Pan) : c9t x0 w R E = callX Tryd.prog [.tmp 2] e9v e9w [x0] w R E := by kernel_rfl
theorem e2b {x0 : Value} {w : World} {R : Value → World → Prop} {E : Pan} (h : c9t x0 w R E) : Cv Tryd.prog 151 #[x0] w R E := by
 refine h8 (args := [x0]) (c := e9v) (h := e9w) (rs := [.tmp 2]) Tryd.func151 (by kernel_rfl) (by kernel_rfl) (Nat.le_of_ble_eq_true (by kernel_rfl)) (by kernel_rfl) (by kernel_rfl) (by kernel_rfl) ?_
 rw [← e2a]
 exact h
def c0Z (x3 x50 : Value) (w : World) (R : Value → World → Prop) (E : Pan) : Prop :=
 ∀ _τ : Fr, (xcond x50
 (opK Tryd.prog E (xV (Instr.loadAt 209 x3)) w fun e9x a2l =>
 opK Tryd.prog E (xV (Instr.build 209 #[(0, (Value.int .i64 0)), (1, (Value.int .i64 2))])) a2l fun e9y a3I =>
 opK Tryd.prog E (xBin .eql 209 (.tmp 53) (.tmp 54) e9x e9y) a3I fun e9z a3J =>
 R e9z a3J)
 (R (Value.bool false) w))
def c1a (x3 x38 x39 : Value) (w : World) (R : Value → World → Prop) (E : Pan) : Prop :=
 ∀ _τ : Fr, (xcond x39
 (opK Tryd.prog E (xV (Instr.loadAt 209 x3)) w fun e9A Y3 =>
 opK Tryd.prog E (xV (Instr.build 209 #[])) Y3 fun e9B S7 =>
 opK Tryd.prog E (xBin .eql 209 (.tmp 42) (.tmp 43) e9A e9B) S7 fun e9C a0v =>
 R e9C a0v)
 (opK Tryd.prog E (xBin .eql 3 (.tmp 38) (.const (Value.int .i64 4)) x38 (Value.int .i64 4)) w fun e9D Z0 =>
 xcond e9D
 (opK Tryd.prog E (xV (Instr.loadAt 209 x3)) Z0 fun e9E a1s =>
 opK Tryd.prog E (xV (Instr.build 209 #[(0, (Value.int .i64 0)), (1, (Value.int .i64 1))])) a1s fun e9F a2k =>
 opK Tryd.prog E (xBin .eql 209 (.tmp 47) (.tmp 48) e9E e9F) a2k fun e9G a2C =>
 R e9G a2C)
 (xcut (fun c4h a3K => c0Z x3 (nth c4h 0) a3K R E) fun j2 =>
 opK Tryd.prog E (xBin .eql 3 (.tmp 38) (.const (Value.int .i64 5)) x38 (Value.int .i64 5)) Z0 fun d4m a2L =>
 xcond d4m
 (j2 [d4m] a2L)
 (opK Tryd.prog E (xBin .eql 3 (.tmp 38) (.const (Value.int .i64 6)) x38 (Value.int .i64 6)) a2L fun c3I a3L =>
 j2 [c3I] a3L))))
def c9u (x0 : Value) (w : World) (R : Value → World → Prop) (E : Pan) : Prop :=
 opK Tryd.prog E (xV (Instr.box 106 x0)) w fun t8 w_2 =>
 opK Tryd.prog E (xV (Instr.fieldAt 106 t8 0)) w_2 fun b5K w_4 =>
 opK Tryd.prog E (xV (Instr.fieldAt 33 b5K 2)) w_4 fun d6a w_6 =>
 opK Tryd.prog E (xV (Instr.loadAt 28 d6a)) w_6 fun d6b w_8 =>
 opK Tryd.prog E (xBuiltin .len #[28] 3 [false] [d6b]) w_8 fun g4E m2 =>
 opK Tryd.prog E (xV (Instr.fieldAt 106 t8 0)) m2 fun b9c m8 =>
 opK Tryd.prog E (xV (Instr.fieldAt 33 b9c 3)) m8 fun b9v m5 =>
 opK Tryd.prog E (xV (Instr.loadAt 31 b9v)) m5 fun c4i o6 =>
 opK Tryd.prog E (xBuiltin .len #[31] 3 [false] [c4i]) o6 fun c4j p8 =>
 opK Tryd.prog E (xV (Instr.build 209 #[(0, g4E), (1, c4j)])) p8 fun c4k o4 =>
 opK Tryd.prog E (xV (Instr.alloc 209 true (.tuple #[]))) o4 fun c9v r6 =>
 opK Tryd.prog E (xU (Instr.storeAt 209 c9v c4k)) r6 fun _z_23 q6 =>
 opK Tryd.prog E (xV (Instr.fieldAt 106 t8 0)) q6 fun e9H u1 =>
 opK Tryd.prog E (xV (Instr.fieldAt 33 e9H 0)) u1 fun e9I w9 =>
 opK Tryd.prog E (xV (Instr.loadAt 3 e9I)) w9 fun e9J z6 =>
 opK Tryd.prog E (xBin .eql 3 (.tmp 15) (.const (Value.int .i64 3)) e9J (Value.int .i64 3)) z6 fun e9K w8 =>
 xcond e9K
 (opK Tryd.prog E (xV (Instr.fieldAt 106 t8 0)) w8 fun c3R z7 =>
 opK Tryd.prog E (xV (Instr.fieldAt 33 c3R 1)) z7 fun b5x B3 =>
 opK Tryd.prog E (xV (Instr.loadAt 3 b5x)) B3 fun e9L w3 =>
 opK Tryd.prog E (xBin .geq 3 (.tmp 19) (.const (Value.int .i64 1)) e9L (Value.int .i64 1)) w3 fun b5O B8 =>
 opK Tryd.prog E (gsem (asB b5O) true (xV (Instr.fieldAt 106 t8 0))) B8 fun e9M C7 =>
 opK Tryd.prog E (gsem (asB b5O) true (xV (Instr.fieldAt 33 e9M 1))) C7 fun e9N B9 =>
 opK Tryd.prog E (gsem (asB b5O) true (xV (Instr.loadAt 3 e9N))) B9 fun e9O D4 =>
 opK Tryd.prog E (gsem (asB b5O) true (xBin .leq 3 (.tmp 24) (.const (Value.int .i64 6)) e9O (Value.int .i64 6))) D4 fun c4l E6 =>
 opK Tryd.prog E (xPick b5O c4l (Value.bool false)) E6 fun b9w D7 =>
 opK Tryd.prog E (gsem (asB b9w) true (xV (Instr.loadAt 209 c9v))) D7 fun b5P D8 =>
 opK Tryd.prog E (gsem (asB b9w) true (xV (Instr.build 209 #[(0, (Value.int .i64 2)), (1, (Value.int .i64 0))]))) D8 fun c4m I9 =>
 opK Tryd.prog E (gsem (asB b9w) true (xBin .eql 209 (.tmp 28) (.tmp 29) b5P c4m)) I9 fun c4n K7 =>
 opK Tryd.prog E (xPick b9w c4n (Value.bool false)) K7 fun c4o H9 =>
 R c4o H9)
 (opK Tryd.prog E (xV (Instr.fieldAt 106 t8 0)) w8 fun c4p J1 =>
 opK Tryd.prog E (xV (Instr.fieldAt 33 c4p 1)) J1 fun c4q N9 =>
 opK Tryd.prog E (xV (Instr.loadAt 3 c4q)) N9 fun e9P J7 =>
 opK Tryd.prog E (xBin .neq 3 (.tmp 34) (.const (Value.int .i64 0)) e9P (Value.int .i64 0)) J7 fun e9Q Q4 =>
 xcond e9Q
 (R (Value.bool false) Q4)
 (opK Tryd.prog E (xV (Instr.fieldAt 106 t8 0)) Q4 fun e9R V4 =>
 opK Tryd.prog E (xV (Instr.fieldAt 33 e9R 0)) V4 fun e9S K8 =>
 opK Tryd.prog E (xV (Instr.loadAt 3 e9S)) K8 fun c4r V9 =>
 xcut (fun d6c a0E => c1a c9v c4r (nth d6c 0) a0E R E) fun j1 =>
 opK Tryd.prog E (xBin .eql 3 (.tmp 38) (.const (Value.int .i64 1)) c4r (Value.int .i64 1)) V9 fun c8k a1u =>
 xcond c8k
 (j1 [c8k] a1u)
 (opK Tryd.prog E (xBin .eql 3 (.tmp 38) (.const (Value.int .i64 2)) c4r (Value.int .i64 2)) a1u fun e2c a2r =>
 j1 [e2c] a2r)))
noncomputable def e9T : Code := Tryd.f152.body.getD .skip
def e9U : Hint := (.seq .none (.seq .none (.seq (.seq .none (.cond (.seq .none .none) .none)) (.seq (.seq .none (.cond (.seq .none .none) .none)) (.seq (.seq .none (.block (.cut [39] (.seq .none (.cond .none .none)) (.cond (.seq .none .none) (.seq .none (.cond (.seq .none .none) (.cut [50] (.seq .none (.cond .none .none)) (.cond (.seq .none .none) .none)))))))) (.seq .none .none))))))
theorem e2d (x0 : Value) (w : World) (R : Value → World → Prop) (E : Pan) : c9u x0 w R E = callX Tryd.prog [.tmp 2] e9T e9U [x0] w R E := by kernel_rfl
theorem e2e {x0 : Value} {w : World} {R : Value → World → Prop} {E : Pan} (h : c9u x0 w R E) : Cv Tryd.prog 152 #[x0] w R E := by
 refine h8 (args := [x0]) (c := e9T) (h := e9U) (rs := [.tmp 2]) Tryd.func152 (by kernel_rfl) (by kernel_rfl) (Nat.le_of_ble_eq_true (by kernel_rfl)) (by kernel_rfl) (by kernel_rfl) (by kernel_rfl) ?_
 rw [← e2d]
 exact h
def c9w (x0 : Value) (w : World) (R : Value → World → Prop) (E : Pan) : Prop :=
 opK Tryd.prog E (xV (Instr.box 106 x0)) w fun t8 w_2 =>
 dX w_2 fun w_3 =>
 qP Tryd.prog (xV (Instr.fieldAt 106 t8 0)) fun c0L =>
 qP Tryd.prog (xV (Instr.fieldAt 33 c0L 2)) fun a4i =>
 qP Tryd.prog (xV (Instr.fieldAt 106 t8 0)) fun d6d =>
 qP Tryd.prog (xV (Instr.fieldAt 33 d6d 3)) fun a8W =>
 qL Tryd.prog w_3 (blk a4i) (xV (Instr.loadAt 28 a4i)) fun d5X =>
 qL Tryd.prog w_3 (blk a8W) (xV (Instr.loadAt 31 a8W)) fun b2D =>
 opK Tryd.prog E (xCall (Value.func (.func 150) #[] #[]) [d5X, (Value.func (.func 151) #[] #[])]) w_3 fun g0b a0P =>
 keepX [(blk a8W)] w_3 a0P (opK Tryd.prog E (xCall (Value.func (.func 154) #[] #[]) [b2D, (Value.func (.func 155) #[] #[])]) a0P fun c4s a2K =>
 keepX [] a0P a2K (opK Tryd.prog E (xV (Instr.buildSlice 172 2 #[(0, g0b), (1, c4s)])) a2K fun c4t a4D =>
 keepX [] a2K a4D (opK Tryd.prog E (xCall (Value.func (.func 94) #[] #[]) [c4t]) a4D fun e9V a4G =>
 keepX [] a4D a4G (R e9V a4G))))
noncomputable def e9W : Code := Tryd.f153.body.getD .skip
def e9X : Hint := (.seq .none (.seq (.reg [(0, 8, 2), (1, 16, 8), (2, 32, 16), (4, 64, 32), (0, 128, 2), (16, 256, 128), (32, 512, 256), (72, 1024, 512), (136, 2048, 1088), (384, 4096, 2048), (1023, 4, 4096)] [68, 68, 64, 64, 68, 68, 4, 0, 0, 0, 68] (.early 0 (.early 1 (.early 4 (.early 5 (.load 2 (.load 6 (.step 3 (.step 7 (.step 8 (.step 9 (.early 10 .done)))))))))))) .none))
theorem e2f (x0 : Value) (w : World) (R : Value → World → Prop) (E : Pan) : c9w x0 w R E = callX Tryd.prog [.tmp 2] e9W e9X [x0] w R E := by kernel_rfl
theorem e2g {x0 : Value} {w : World} {R : Value → World → Prop} {E : Pan} (h : c9w x0 w R E) : Cv Tryd.prog 153 #[x0] w R E := by
 refine h8 (args := [x0]) (c := e9W) (h := e9X) (rs := [.tmp 2]) Tryd.func153 (by kernel_rfl) (by kernel_rfl) (Nat.le_of_ble_eq_true (by kernel_rfl)) (by kernel_rfl) (by kernel_rfl) (by kernel_rfl) ?_
 rw [← e2f]
 exact h
end Go.Proofs.YthldnpmfelniiaaDoor
