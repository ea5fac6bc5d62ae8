/- The second reading of some of the program's functions, printed by gen2.py off the code; each is held against the code by the kernel. -/
import Derived.Test.YthldnpmfelniiaaDoorProg
import Derived.Test.YthldnpmfelniiaaDoorzWK0
import Derived.KernelRfl
namespace Go.Proofs.YthldnpmfelniiaaDoor
open Go.RowKit
set_option maxRecDepth 100000
def F3 (x0 x1 : Value) (w : World) (R : Value → World → Prop) (E : Pan) : Prop :=
 opK Tryd.prog E (xV (Instr.box 25 x0)) w fun a4A w_2 =>
 opK Tryd.prog E (xV (Instr.box 25 x1)) w_2 fun T8 w_4 =>
 dX w_4 fun w_5 =>
 opK Tryd.prog E (xCall (Value.func (.func 14) #[] #[]) []) w_5 fun a6I w_7 =>
 keepX [] w_5 w_7 (qL Tryd.prog w_7 (blk a4A) (gsem (asB a6I) true (xV (Instr.loadAt 25 a4A))) fun c5U =>
 qL Tryd.prog w_7 (blk T8) (gsem (asB a6I) true (xV (Instr.loadAt 25 T8))) fun a7w =>
 qL Tryd.prog w_7 (blk a4A) (gsem (asB a6I) true (xV (Instr.loadAt 25 a4A))) fun e9G =>
 qL Tryd.prog w_7 (blk T8) (gsem (asB a6I) true (xV (Instr.loadAt 25 T8))) fun b7e =>
 opK Tryd.prog E (gsem (asB a6I) true (xCall (Value.func (.func 15) #[] #[]) [c5U, a7w])) w_7 fun d1S a0b =>
 keepX [(blk T8), (blk a4A)] w_7 a0b (opK Tryd.prog E (gsem (asB a6I) true (xCall (Value.func (.func 16) #[] #[]) [e9G, b7e])) a0b fun e9H a6u =>
 keepX [] a0b a6u (qP Tryd.prog (gsem (asB a6I) true (xBin .eql 4 (.tmp 9) (.tmp 12) d1S e9H)) fun e9I =>
 qP Tryd.prog (xPick a6I e9I (Value.bool false)) fun a6J =>
 qL Tryd.prog a6u (blk T8) (gsem (asB a6J) true (xV (Instr.loadAt 25 T8))) fun e9J =>
 qL Tryd.prog a6u (blk a4A) (gsem (asB a6J) true (xV (Instr.loadAt 25 a4A))) fun c5V =>
 qL Tryd.prog a6u (blk a4A) (gsem (asB a6J) true (xV (Instr.loadAt 25 a4A))) fun e9K =>
 qL Tryd.prog a6u (blk T8) (gsem (asB a6J) true (xV (Instr.loadAt 25 T8))) fun c5W =>
 opK Tryd.prog E (gsem (asB a6J) true (xCall (Value.func (.func 15) #[] #[]) [e9J, c5V])) a6u fun b7f a8F =>
 keepX [(blk T8), (blk a4A)] a6u a8F (opK Tryd.prog E (gsem (asB a6J) true (xCall (Value.func (.func 15) #[] #[]) [e9K, c5W])) a8F fun e9L a9N =>
 keepX [] a8F a9N (qP Tryd.prog (gsem (asB a6J) true (xBin .eql 4 (.tmp 18) (.tmp 21) b7f e9L)) fun e9M =>
 qP Tryd.prog (xPick a6J e9M (Value.bool false)) fun c5X =>
 R c5X a9N)))))
noncomputable def c3 : Code := Tryd.f3.body.getD .skip
def h3 : Hint := (.seq .none (.seq (.reg [(0, 32, 0), (1, 64, 32), (2, 128, 68), (2, 256, 72), (14, 512, 448), (2, 1024, 68), (2, 2048, 72), (114, 4096, 3136), (146, 8192, 4672), (258, 16384, 8256), (640, 32768, 16384), (1024, 65536, 32776), (1024, 131072, 32772), (7168, 262144, 229376), (1024, 524288, 32772), (1024, 1048576, 32776), (58368, 2097152, 1605632), (74752, 4194304, 2392064), (132096, 8388608, 4227072), (524287, 16, 8388608)] [0, 55404, 55400, 55396, 96, 55372, 55340, 0, 55404, 55404, 55404, 53356, 51308, 49152, 39020, 22636, 0, 55404, 55404, 55404] (.step 0 (.early 1 (.load 2 (.load 3 (.load 5 (.load 6 (.step 4 (.step 7 (.early 8 (.early 9 (.early 10 (.load 11 (.load 12 (.load 14 (.load 15 (.step 13 (.step 16 (.early 17 (.early 18 (.early 19 .done))))))))))))))))))))) .none))
def F27 (x0 : Value) (w : World) (R : Value → World → Prop) (E : Pan) : Prop :=
 opK Tryd.prog E (xV (Instr.box 25 x0)) w fun t7 w_2 =>
 opK Tryd.prog E (xV (Instr.loadAt 25 t7)) w_2 fun T8 w_4 =>
 opK Tryd.prog E (xCall (Value.func (.func 66) #[] #[]) [T8]) w_4 fun a3k w_6 =>
 opK Tryd.prog E (xNil a3k) w_6 fun a5K w_8 =>
 opK Tryd.prog E (xV (Instr.fieldAt 92 a5K 2)) w_8 fun b1Y o2 =>
 opK Tryd.prog E (xV (Instr.loadAt 34 b1Y)) o2 fun a5L o7 =>
 R a5L o7
noncomputable def c27 : Code := Tryd.f27.body.getD .skip
def h27 : Hint := (.seq .none (.seq .none .none))
theorem e9N (x0 : Value) (w : World) (R : Value → World → Prop) (E : Pan) : F27 x0 w R E = callX Tryd.prog [.tmp 2] c27 h27 [x0] w R E := by kernel_rfl
theorem e9O {x0 : Value} {w : World} {R : Value → World → Prop} {E : Pan} (h : F27 x0 w R E) : Cv Tryd.prog 27 #[x0] w R E := by
 refine i6 (args := [x0]) (c := c27) (h := h27) (rs := [.tmp 2]) Tryd.func27 (by kernel_rfl) (by kernel_rfl) (Nat.le_of_ble_eq_true (by kernel_rfl)) (by kernel_rfl) (by kernel_rfl) (by kernel_rfl) ?_
 rw [← e9N]
 exact h
def c5Y (x3 : Value) (w : World) (R : Value → World → Prop) (E : Pan) : Prop :=
 ∀ _τ : Fr, (opK Tryd.prog E (xV (Instr.loadAt 93 x3)) w fun e9P p9 =>
 R e9P p9)
def F57 (x0 : Value) (w : World) (R : Value → World → Prop) (E : Pan) : Prop :=
 opK Tryd.prog E (xV (Instr.build 92 #[])) w fun b0O w_2 =>
 opK Tryd.prog E (xV (Instr.box 92 b0O)) w_2 fun a9O w_4 =>
 opK Tryd.prog E (xV (Instr.alloc 93 true (.tuple #[]))) w_4 fun b9D w_6 =>
 opK Tryd.prog E (xU (Instr.storeAt 93 b9D a9O)) w_6 fun _z_7 w_8 =>
 opK Tryd.prog E (xV (Instr.alloc 139 true (.tuple #[]))) w_8 fun d9y o2 =>
 opK Tryd.prog E (xV (Instr.makeFunc (.func 89) #[] #[b9D, d9y])) o2 fun c1g o7 =>
 opK Tryd.prog E (xU (Instr.storeAt 139 d9y c1g)) o7 fun _z_13 o8 =>
 xcut (fun _ r5 => c5Y b9D r5 R E) fun j1 =>
 opK Tryd.prog E (xV (Instr.loadAt 139 d9y)) o8 fun g5W p7 =>
 opK Tryd.prog E (xCall g5W [x0, (Value.int .i64 1)]) p7 fun e9Q t1 =>
 opK Tryd.prog E (xV (Op.unary .not e9Q)) t1 fun e9R t8 =>
 xcond e9R
 (j1 [] t8)
 (opK Tryd.prog E (xV (Instr.loadAt 93 b9D)) t8 fun e9S v2 =>
 opK Tryd.prog E (xNil e9S) v2 fun e9T y7 =>
 opK Tryd.prog E (xV (Instr.fieldAt 92 e9T 3)) y7 fun c1h A7 =>
 opK Tryd.prog E (xV (Instr.loadAt 4 c1h)) A7 fun e9U A4 =>
 xcond e9U
 (opK Tryd.prog E (xV (Instr.loadAt 93 b9D)) A4 fun e9V A8 =>
 opK Tryd.prog E (xNil e9V) A8 fun e9W C9 =>
 opK Tryd.prog E (xV (Instr.fieldAt 92 e9W 2)) C9 fun e9X C0 =>
 opK Tryd.prog E (xU (Instr.storeAt 34 e9X (Value.int .i64 30))) C0 fun _z_39 D3 =>
 j1 [] D3)
 (opK Tryd.prog E (xV (Instr.loadAt 93 b9D)) A4 fun e9Y E9 =>
 opK Tryd.prog E (xNil e9Y) E9 fun e9Z E4 =>
 opK Tryd.prog E (xV (Instr.fieldAt 92 e9Z 4)) E4 fun f0a K8 =>
 opK Tryd.prog E (xV (Instr.loadAt 4 f0a)) K8 fun f0b J7 =>
 xcond f0b
 (opK Tryd.prog E (xV (Instr.loadAt 93 b9D)) J7 fun f0c G8 =>
 opK Tryd.prog E (xNil f0c) G8 fun f0d K5 =>
 opK Tryd.prog E (xV (Instr.fieldAt 92 f0d 2)) K5 fun f0e M3 =>
 opK Tryd.prog E (xU (Instr.storeAt 34 f0e (Value.int .i64 31))) M3 fun _z_55 M7 =>
 j1 [] M7)
 (j1 [] J7)))
noncomputable def c57 : Code := Tryd.f57.body.getD .skip
def h57 : Hint := (.seq .none (.seq .none (.seq .none (.seq .none (.cut [] (.seq .none (.block (.seq .none (.cond .none (.seq .none (.cond .none (.seq .none (.cond .none .none)))))))) (.seq .none .none))))))
theorem f0f (x0 : Value) (w : World) (R : Value → World → Prop) (E : Pan) : F57 x0 w R E = callX Tryd.prog [.tmp 2] c57 h57 [x0] w R E := by kernel_rfl
theorem f0g {x0 : Value} {w : World} {R : Value → World → Prop} {E : Pan} (h : F57 x0 w R E) : Cv Tryd.prog 57 #[x0] w R E := by
 refine i6 (args := [x0]) (c := c57) (h := h57) (rs := [.tmp 2]) Tryd.func57 (by kernel_rfl) (by kernel_rfl) (Nat.le_of_ble_eq_true (by kernel_rfl)) (by kernel_rfl) (by kernel_rfl) (by kernel_rfl) ?_
 rw [← f0f]
 exact h
def d6L (x0 x2 x4 x6 : Value) (w : World) (next1 : List Value → World → Prop) (R : Value → World → Prop) (E : Pan) : Prop :=
 opK Tryd.prog E (xV (Instr.fieldAt 30 x4 3)) w fun a3b w_8 =>
 opK Tryd.prog E (xV (Instr.loadAt 28 a3b)) w_8 fun a2O o2 =>
 opK Tryd.prog E (xBuiltin .len #[28] 3 [false] [a2O]) o2 fun b1Z o7 =>
 opK Tryd.prog E (xBin .lss 3 (.tmp 11) (.tmp 14) x6 b1Z) o7 fun a5u o8 =>
 opK Tryd.prog E (gsem (asB a5u) true (xNil (gval (asB a5u) true x0))) o8 fun b7g p9 =>
 opK Tryd.prog E (gsem (asB a5u) true (xV (Instr.fieldAt 99 b7g 2))) p9 fun c5Z r5 =>
 opK Tryd.prog E (gsem (asB a5u) true (xV (Instr.loadAt 3 c5Z))) r5 fun f0h p7 =>
 opK Tryd.prog E (gsem (asB a5u) true (xBin .eql 3 (.tmp 20) (.const (Value.int .i64 0)) f0h (Value.int .i64 0))) p7 fun f0i t1 =>
 opK Tryd.prog E (xPick a5u f0i (Value.bool false)) t1 fun c6a t8 =>
 xcond c6a
 (opK Tryd.prog E (xV (Instr.fieldAt 30 x4 3)) t8 fun c6b v2 =>
 opK Tryd.prog E (xV (Instr.loadAt 28 c6b)) v2 fun c6c y7 =>
 opK Tryd.prog E (xV (Instr.indexAt 28 c6c x6)) y7 fun f0j A7 =>
 opK Tryd.prog E (xV (Instr.loadAt 30 f0j)) A7 fun f0k A4 =>
 opK Tryd.prog E (xBin .add 3 (.tmp 31) (.const (Value.int .i64 1)) x2 (Value.int .i64 1)) A4 fun f0l A8 =>
 opK Tryd.prog E (xCall (Value.func (.func 58) #[] #[]) [x0, f0k, f0l]) A8 fun _t33_35 C9 =>
 opK Tryd.prog E (xBin .add 3 (.tmp 23) (.const (Value.int .i64 1)) x6 (Value.int .i64 1)) C9 fun f0m C0 =>
 next1 [f0m] C0)
 (R (Value.tuple #[]) t8)
def F58 (x0 x1 x2 : Value) (w : World) (R : Value → World → Prop) (E : Pan) : Prop :=
 opK Tryd.prog E (xV (Instr.box 30 x1)) w fun a9P w_2 =>
 opK Tryd.prog E (xCall (Value.func (.func 91) #[] #[]) [x0, x2]) w_2 fun a5a w_4 =>
 opK Tryd.prog E (xV (Op.unary .not a5a)) w_4 fun a2P w_6 =>
 xcond a2P
 (R (Value.tuple #[]) w_6)
 (xloop [6] [(Value.int .i64 0)] w_6 fun τ_39 D3 next1 =>
 d6L x0 x2 a9P (τ_39 6) D3 next1 R E)
noncomputable def c58 : Code := Tryd.f58.body.getD .skip
def h58 : Hint := (.seq .none (.seq (.seq .none (.cond .none .none)) (.seq .none (.block (.loop [6] (.seq (.seq .none (.cond .none .none)) (.seq (.block .none) .none)))))))
theorem f0n (x0 x1 x2 : Value) (w : World) (R : Value → World → Prop) (E : Pan) : F58 x0 x1 x2 w R E = callX Tryd.prog [] c58 h58 [x0, x1, x2] w R E := by kernel_rfl
theorem f0o {x0 x1 x2 : Value} {w : World} {R : Value → World → Prop} {E : Pan} (h : F58 x0 x1 x2 w R E) : Cv Tryd.prog 58 #[x0, x1, x2] w R E := by
 refine i6 (args := [x0, x1, x2]) (c := c58) (h := h58) (rs := []) Tryd.func58 (by kernel_rfl) (by kernel_rfl) (Nat.le_of_ble_eq_true (by kernel_rfl)) (by kernel_rfl) (by kernel_rfl) (by kernel_rfl) ?_
 rw [← f0n]
 exact h
def d6M (x0 x2 x4 x7 : Value) (w : World) (next2 : List Value → World → Prop) (R : Value → World → Prop) (E : Pan) : Prop :=
 opK Tryd.prog E (xV (Instr.fieldAt 33 x4 3)) w fun g5X w_8 =>
 opK Tryd.prog E (xV (Instr.loadAt 31 g5X)) w_8 fun g5Y o2 =>
 opK Tryd.prog E (xBuiltin .len #[31] 3 [false] [g5Y]) o2 fun c6d o7 =>
 opK Tryd.prog E (xBin .lss 3 (.tmp 35) (.tmp 38) x7 c6d) o7 fun b4r o8 =>
 opK Tryd.prog E (gsem (asB b4r) true (xNil (gval (asB b4r) true x0))) o8 fun f0p p9 =>
 opK Tryd.prog E (gsem (asB b4r) true (xV (Instr.fieldAt 99 f0p 2))) p9 fun c1i r5 =>
 opK Tryd.prog E (gsem (asB b4r) true (xV (Instr.loadAt 3 c1i))) r5 fun c6e p7 =>
 opK Tryd.prog E (gsem (asB b4r) true (xBin .eql 3 (.tmp 44) (.const (Value.int .i64 0)) c6e (Value.int .i64 0))) p7 fun f0q t1 =>
 opK Tryd.prog E (xPick b4r f0q (Value.bool false)) t1 fun c6f t8 =>
 xcond c6f
 (opK Tryd.prog E (xV (Instr.fieldAt 33 x4 3)) t8 fun f0r v2 =>
 opK Tryd.prog E (xV (Instr.loadAt 31 f0r)) v2 fun f0s y7 =>
 opK Tryd.prog E (xV (Instr.indexAt 31 f0s x7)) y7 fun f0t A7 =>
 opK Tryd.prog E (xV (Instr.loadAt 33 f0t)) A7 fun f0u A4 =>
 opK Tryd.prog E (xBin .add 3 (.tmp 55) (.const (Value.int .i64 1)) x2 (Value.int .i64 1)) A4 fun f0v A8 =>
 opK Tryd.prog E (xCall (Value.func (.func 61) #[] #[]) [x0, f0u, f0v]) A8 fun _t57_35 C9 =>
 opK Tryd.prog E (xBin .add 3 (.tmp 47) (.const (Value.int .i64 1)) x7 (Value.int .i64 1)) C9 fun f0w C0 =>
 next2 [f0w] C0)
 (R (Value.tuple #[]) t8)
def c6g (x0 x2 x4 : Value) (w : World) (R : Value → World → Prop) (E : Pan) : Prop :=
 ∀ _τ : Fr, (xloop [7] [(Value.int .i64 0)] w fun τ_39 D3 next2 =>
 d6M x0 x2 x4 (τ_39 7) D3 next2 R E)
def d6N (x0 x2 x4 x6 : Value) (w : World) (next3 : List Value → World → Prop) (j1 : List Value → World → Prop) (_R : Value → World → Prop) (E : Pan) : Prop :=
 opK Tryd.prog E (xV (Instr.fieldAt 33 x4 2)) w fun f0x E4 =>
 opK Tryd.prog E (xV (Instr.loadAt 28 f0x)) E4 fun f0y K8 =>
 opK Tryd.prog E (xBuiltin .len #[28] 3 [false] [f0y]) K8 fun f0z J7 =>
 opK Tryd.prog E (xBin .lss 3 (.tmp 12) (.tmp 15) x6 f0z) J7 fun b4s G8 =>
 opK Tryd.prog E (gsem (asB b4s) true (xNil (gval (asB b4s) true x0))) G8 fun b4t K5 =>
 opK Tryd.prog E (gsem (asB b4s) true (xV (Instr.fieldAt 99 b4t 2))) K5 fun b4u M3 =>
 opK Tryd.prog E (gsem (asB b4s) true (xV (Instr.loadAt 3 b4u))) M3 fun b4v M7 =>
 opK Tryd.prog E (gsem (asB b4s) true (xBin .eql 3 (.tmp 21) (.const (Value.int .i64 0)) b4v (Value.int .i64 0))) M7 fun b4w M8 =>
 opK Tryd.prog E (xPick b4s b4w (Value.bool false)) M8 fun c1j P8 =>
 xcond c1j
 (opK Tryd.prog E (xV (Instr.fieldAt 33 x4 2)) P8 fun f0A T9 =>
 opK Tryd.prog E (xV (Instr.loadAt 28 f0A)) T9 fun f0B Q2 =>
 opK Tryd.prog E (xV (Instr.indexAt 28 f0B x6)) Q2 fun f0C U0 =>
 opK Tryd.prog E (xV (Instr.loadAt 30 f0C)) U0 fun f0D a0d =>
 opK Tryd.prog E (xBin .add 3 (.tmp 32) (.const (Value.int .i64 1)) x2 (Value.int .i64 1)) a0d fun f0E N1 =>
 opK Tryd.prog E (xCall (Value.func (.func 58) #[] #[]) [x0, f0D, f0E]) N1 fun _t34_71 W0 =>
 opK Tryd.prog E (xBin .add 3 (.tmp 24) (.const (Value.int .i64 1)) x6 (Value.int .i64 1)) W0 fun f0F a0e =>
 next3 [f0F] a0e)
 (j1 [] P8)
def F61 (x0 x1 x2 : Value) (w : World) (R : Value → World → Prop) (E : Pan) : Prop :=
 opK Tryd.prog E (xV (Instr.box 33 x1)) w fun a9P w_2 =>
 opK Tryd.prog E (xCall (Value.func (.func 91) #[] #[]) [x0, x2]) w_2 fun b1j w_4 =>
 opK Tryd.prog E (xV (Op.unary .not b1j)) w_4 fun a6A w_6 =>
 xcond a6A
 (R (Value.tuple #[]) w_6)
 (xcut (fun _ E9 => c6g x0 x2 a9P E9 R E) fun j1 =>
 xloop [6] [(Value.int .i64 0)] w_6 fun τ_75 Z7 next3 =>
 d6N x0 x2 a9P (τ_75 6) Z7 next3 j1 R E)
noncomputable def c61 : Code := Tryd.f61.body.getD .skip
def h61 : Hint := (.seq .none (.seq (.seq .none (.cond .none .none)) (.cut [] (.seq .none (.block (.loop [6] (.seq (.seq .none (.cond .none .none)) (.seq (.block .none) .none))))) (.seq .none (.block (.loop [7] (.seq (.seq .none (.cond .none .none)) (.seq (.block .none) .none))))))))
theorem f0G (x0 x1 x2 : Value) (w : World) (R : Value → World → Prop) (E : Pan) : F61 x0 x1 x2 w R E = callX Tryd.prog [] c61 h61 [x0, x1, x2] w R E := by kernel_rfl
theorem f0H {x0 x1 x2 : Value} {w : World} {R : Value → World → Prop} {E : Pan} (h : F61 x0 x1 x2 w R E) : Cv Tryd.prog 61 #[x0, x1, x2] w R E := by
 refine i6 (args := [x0, x1, x2]) (c := c61) (h := h61) (rs := []) Tryd.func61 (by kernel_rfl) (by kernel_rfl) (Nat.le_of_ble_eq_true (by kernel_rfl)) (by kernel_rfl) (by kernel_rfl) (by kernel_rfl) ?_
 rw [← f0G]
 exact h
def c6h (x2 x3 : Value) (w : World) (R : Value → World → Prop) (E : Pan) : Prop :=
 ∀ _τ : Fr, (opK Tryd.prog E (xV (Instr.loadAt 99 x3)) w fun c6d o7 =>
 opK Tryd.prog E (xU (Instr.storeAt 99 x2 c6d)) o7 fun _z_13 o8 =>
 xcell Tryd.prog 99 x2 o8 fun h0R =>
 R h0R o8)
def d6O (x1 _x2 x3 x5 : Value) (w : World) (next3 : List Value → World → Prop) (j2 : List Value → World → Prop) (_R : Value → World → Prop) (E : Pan) : Prop :=
 opK Tryd.prog E (xV (Instr.fieldAt 25 x1 1)) w fun f0I a5b =>
 opK Tryd.prog E (xV (Instr.loadAt 23 f0I)) a5b fun f0J a9Q =>
 opK Tryd.prog E (xBuiltin .len #[23] 3 [false] [f0J]) a9Q fun f0K a8F =>
 opK Tryd.prog E (xBin .lss 3 (.tmp 20) (.tmp 23) x5 f0K) a8F fun c1k a9N =>
 opK Tryd.prog E (gsem (asB c1k) true (xV (Instr.fieldAt 99 x3 2))) a9N fun f0L a7U =>
 opK Tryd.prog E (gsem (asB c1k) true (xV (Instr.loadAt 3 f0L))) a7U fun f0M b0P =>
 opK Tryd.prog E (gsem (asB c1k) true (xBin .eql 3 (.tmp 27) (.const (Value.int .i64 0)) f0M (Value.int .i64 0))) b0P fun f0N f0O =>
 opK Tryd.prog E (xPick c1k f0N (Value.bool false)) f0O fun f0P d9z =>
 xcond f0P
 (opK Tryd.prog E (xV (Instr.fieldAt 25 x1 1)) d9z fun f0Q a8G =>
 opK Tryd.prog E (xV (Instr.loadAt 23 f0Q)) a8G fun f0R f0S =>
 opK Tryd.prog E (xV (Instr.indexAt 23 f0R x5)) f0S fun f0T d1T =>
 opK Tryd.prog E (xV (Instr.loadAt 88 f0T)) d1T fun f0U c2W =>
 opK Tryd.prog E (xCall (Value.func (.func 92) #[] #[]) [x3, f0U, (Value.int .i64 1)]) c2W fun _t37_42 b7h =>
 opK Tryd.prog E (xBin .add 3 (.tmp 30) (.const (Value.int .i64 1)) x5 (Value.int .i64 1)) b7h fun f0V b3X =>
 next3 [f0V] b3X)
 (j2 [] d9z)
def c6i (x1 x2 x3 : Value) (w : World) (R : Value → World → Prop) (E : Pan) : Prop :=
 ∀ _τ : Fr, (xcut (fun _ a5M => c6h x2 x3 a5M R E) fun j2 =>
 xloop [5] [(Value.int .i64 0)] w fun τ_46 a9R next3 =>
 d6O x1 x2 x3 (τ_46 5) a9R next3 j2 R E)
def d6P (x1 _x2 x3 x4 : Value) (w : World) (next4 : List Value → World → Prop) (j1 : List Value → World → Prop) (_R : Value → World → Prop) (E : Pan) : Prop :=
 opK Tryd.prog E (xV (Instr.fieldAt 25 x1 0)) w fun g5Z b7i =>
 opK Tryd.prog E (xV (Instr.loadAt 22 g5Z)) b7i fun g6a d1U =>
 opK Tryd.prog E (xBuiltin .len #[22] 3 [false] [g6a]) d1U fun f0W c6j =>
 opK Tryd.prog E (xBin .lss 3 (.tmp 7) (.tmp 10) x4 f0W) c6j fun c1l b9E =>
 opK Tryd.prog E (gsem (asB c1l) true (xV (Instr.fieldAt 99 x3 2))) b9E fun f0X b5o =>
 opK Tryd.prog E (gsem (asB c1l) true (xV (Instr.loadAt 3 f0X))) b5o fun f0Y b5p =>
 opK Tryd.prog E (gsem (asB c1l) true (xBin .eql 3 (.tmp 14) (.const (Value.int .i64 0)) f0Y (Value.int .i64 0))) b5p fun f0Z c2X =>
 opK Tryd.prog E (xPick c1l f0Z (Value.bool false)) c2X fun f1a b7j =>
 xcond f1a
 (opK Tryd.prog E (xCall (Value.func (.func 91) #[] #[]) [x3, (Value.int .i64 1)]) b7j fun _t19_66 a6K =>
 opK Tryd.prog E (xBin .add 3 (.tmp 17) (.const (Value.int .i64 1)) x4 (Value.int .i64 1)) a6K fun f1b b5q =>
 next4 [f1b] b5q)
 (j1 [] b7j)
def F63 (x0 : Value) (w : World) (R : Value → World → Prop) (E : Pan) : Prop :=
 opK Tryd.prog E (xV (Instr.box 25 x0)) w fun t7 w_2 =>
 opK Tryd.prog E (xV (Instr.alloc 99 true (.tuple #[]))) w_2 fun f1c w_4 =>
 opK Tryd.prog E (xV (Instr.build 99 #[])) w_4 fun a5N w_6 =>
 opK Tryd.prog E (xV (Instr.alloc 99 true (.tuple #[]))) w_6 fun b9F w_8 =>
 opK Tryd.prog E (xU (Instr.storeAt 99 b9F a5N)) w_8 fun _z_9 o2 =>
 xcut (fun _ b2a => c6i t7 f1c b9F b2a R E) fun j1 =>
 xloop [4] [(Value.int .i64 0)] o2 fun τ_70 d9A next4 =>
 d6P t7 f1c b9F (τ_70 4) d9A next4 j1 R E
noncomputable def c63 : Code := Tryd.f63.body.getD .skip
def h63 : Hint := (.seq .none (.seq .none (.cut [] (.seq .none (.block (.loop [4] (.seq (.seq .none (.cond .none .none)) (.seq (.block .none) .none))))) (.cut [] (.seq .none (.block (.loop [5] (.seq (.seq .none (.cond .none .none)) (.seq (.block .none) .none))))) (.seq .none .none)))))
theorem f1d (x0 : Value) (w : World) (R : Value → World → Prop) (E : Pan) : F63 x0 w R E = callX Tryd.prog [.cell 2 99] c63 h63 [x0] w R E := by kernel_rfl
theorem f1e {x0 : Value} {w : World} {R : Value → World → Prop} {E : Pan} (h : F63 x0 w R E) : Cv Tryd.prog 63 #[x0] w R E := by
 refine i6 (args := [x0]) (c := c63) (h := h63) (rs := [.cell 2 99]) Tryd.func63 (by kernel_rfl) (by kernel_rfl) (Nat.le_of_ble_eq_true (by kernel_rfl)) (by kernel_rfl) (by kernel_rfl) (by kernel_rfl) ?_
 rw [← f1d]
 exact h
def F66 (x0 : Value) (w : World) (R : Value → World → Prop) (E : Pan) : Prop :=
 opK Tryd.prog E (xV (Instr.box 25 x0)) w fun t7 w_2 =>
 dX w_2 fun w_3 =>
 qP Tryd.prog (xV (Instr.fieldAt 25 t7 0)) fun c2Y =>
 qP Tryd.prog (xV (Instr.fieldAt 25 t7 1)) fun a5N =>
 qL Tryd.prog w_3 (blk c2Y) (xV (Instr.loadAt 22 c2Y)) fun h0S =>
 qL Tryd.prog w_3 (blk a5N) (xV (Instr.loadAt 23 a5N)) fun a9S =>
 opK Tryd.prog E (xCall (Value.func (.func 95) #[] #[]) [h0S, (Value.func (.func 96) #[] #[])]) w_3 fun d9B w_9 =>
 keepX [(blk a5N)] w_3 w_9 (opK Tryd.prog E (xCall (Value.func (.func 97) #[] #[]) [a9S, (Value.func (.func 98) #[] #[])]) w_9 fun d1V a1j =>
 keepX [] w_9 a1j (opK Tryd.prog E (xV (Instr.buildSlice 172 2 #[(0, d9B), (1, d1V)])) a1j fun d1S a0b =>
 keepX [] a1j a0b (opK Tryd.prog E (xCall (Value.func (.func 94) #[] #[]) [d1S]) a0b fun f1f a6u =>
 keepX [] a0b a6u (opK Tryd.prog E (xCall (Value.func (.func 57) #[] #[]) [f1f]) a6u fun f1g a5M =>
 keepX [] a6u a5M (R f1g a5M)))))
noncomputable def c66 : Code := Tryd.f66.body.getD .skip
def h66 : Hint := (.seq .none (.seq (.reg [(0, 8, 2), (1, 16, 8), (2, 32, 16), (0, 64, 2), (8, 128, 64), (20, 256, 128), (36, 512, 288), (96, 1024, 512), (128, 2048, 1024), (511, 4, 2048)] [18, 16, 16, 18, 2, 0, 0, 0, 0, 18] (.early 0 (.early 3 (.load 1 (.load 4 (.step 2 (.step 5 (.step 6 (.step 7 (.step 8 (.early 9 .done))))))))))) .none))
theorem f1h (x0 : Value) (w : World) (R : Value → World → Prop) (E : Pan) : F66 x0 w R E = callX Tryd.prog [.tmp 2] c66 h66 [x0] w R E := by kernel_rfl
theorem f1i {x0 : Value} {w : World} {R : Value → World → Prop} {E : Pan} (h : F66 x0 w R E) : Cv Tryd.prog 66 #[x0] w R E := by
 refine i6 (args := [x0]) (c := c66) (h := h66) (rs := [.tmp 2]) Tryd.func66 (by kernel_rfl) (by kernel_rfl) (Nat.le_of_ble_eq_true (by kernel_rfl)) (by kernel_rfl) (by kernel_rfl) (by kernel_rfl) ?_
 rw [← f1h]
 exact h
def c6k (w : World) (R : Value → World → Prop) (_E : Pan) : Prop :=
 ∀ _τ : Fr, (R (Value.bool true) w)
def d6Q (x1 x2 x3 x9 x10 x11 : Value) (w : World) (next2 : List Value → World → Prop) (j1 : List Value → World → Prop) (R : Value → World → Prop) (E : Pan) : Prop :=
 opK Tryd.prog E (xBin .lss 3 (.tmp 11) (.tmp 10) x11 x10) w fun b1k w_6 =>
 xcond b1k
 (opK Tryd.prog E (xV (Instr.indexAt 97 x9 x11)) w_6 fun b5r w_8 =>
 opK Tryd.prog E (xV (Instr.loadAt 141 b5r)) w_8 fun a7j o2 =>
 dX o2 fun a1j =>
 qL Tryd.prog a1j (blk x2) (xV (Instr.loadAt 93 x2)) fun f1j =>
 opK Tryd.prog E (xCall (Value.func (.func 90) #[] #[]) [f1j, a7j, x1]) a1j fun a5v o8 =>
 keepX [] a1j o8 (qP Tryd.prog (xV (Op.unary .not a5v)) fun a6m =>
 qP Tryd.prog (gsem (asB a6m) false (xBin .add 3 (.tmp 24) (.const (Value.int .i64 1)) (gval (asB a6m) false x1) (Value.int .i64 1))) fun f1k =>
 qL Tryd.prog o8 (blk x3) (gsem (asB a6m) false (xV (Instr.loadAt 139 x3))) fun f1l =>
 opK Tryd.prog E (gsem (asB a6m) false (xInvoke (gval (asB a6m) false a7j) "gnomon/tree.parts" [])) o8 fun f1m a5b =>
 keepX [(blk x3)] o8 a5b (opK Tryd.prog E (gsem (asB a6m) false (xCall f1l [f1m, f1k])) a5b fun f1n a9Q =>
 keepX [] a5b a9Q (qP Tryd.prog (gsem (asB a6m) false (xV (Op.unary .not f1n))) fun f1o =>
 qP Tryd.prog (xPick a6m (Value.bool true) f1o) fun a2T =>
 xcond a2T
 (R (Value.bool false) a9Q)
 (opK Tryd.prog E (xBin .add 3 (.tmp 11) (.const (Value.int .i64 1)) x11 (Value.int .i64 1)) a9Q fun f1p a9N =>
 next2 [f1p] a9N)))))
 (j1 [] w_6)
def F89 (x0 x1 x2 x3 : Value) (w : World) (R : Value → World → Prop) (E : Pan) : Prop :=
 xcut (fun _ w_2 => c6k w_2 R E) fun j1 =>
 opK Tryd.prog E (xBuiltin .len #[97] 3 [false] [x0]) w fun b1j w_4 =>
 xloop [11] [(Value.int .i64 0)] w_4 fun τ_26 a7U next2 =>
 d6Q x1 x2 x3 x0 b1j (τ_26 11) a7U next2 j1 R E
noncomputable def c89 : Code := Tryd.f89.body.getD .skip
def h89 : Hint := (.seq .none (.cut [] (.seq .none (.block (.loop [11] (.seq .none (.seq (.cond .none .none) (.seq (.block (.seq .none (.seq (.reg [(0, 32768, 4), (0, 65536, 256), (0, 131072, 2), (7, 262144, 229376), (8, 524288, 262144), (24, 1048576, 524288), (32, 2097152, 1048584), (32, 4194304, 1048832), (160, 8388608, 5242880), (32, 16777216, 1048578), (544, 33554432, 17825792), (1376, 67108864, 45088768), (2080, 134217728, 68157440), (4128, 268435456, 135266304)] [64, 65, 65, 0, 65, 65, 1, 65, 64, 65, 65, 0, 65, 65] (.early 1 (.early 2 (.load 0 (.step 3 (.early 4 (.early 5 (.early 7 (.early 9 (.early 10 (.load 6 (.step 8 (.step 11 (.early 12 (.early 13 .done))))))))))))))) (.cond (.seq .none .none) .none)))) .none)))))) (.seq .none .none)))
theorem f1q (x0 x1 x2 x3 : Value) (w : World) (R : Value → World → Prop) (E : Pan) : F89 x0 x1 x2 x3 w R E = callX Tryd.prog [.tmp 6] c89 h89 [x0, x1, x2, x3] w R E := by kernel_rfl
theorem f1r {x0 x1 x2 x3 : Value} {w : World} {R : Value → World → Prop} {E : Pan} (h : F89 x0 x1 x2 x3 w R E) : Cv Tryd.prog 89 #[x0, x1, x2, x3] w R E := by
 refine i6 (args := [x0, x1, x2, x3]) (c := c89) (h := h89) (rs := [.tmp 6]) Tryd.func89 (by kernel_rfl) (by kernel_rfl) (Nat.le_of_ble_eq_true (by kernel_rfl)) (by kernel_rfl) (by kernel_rfl) (by kernel_rfl) ?_
 rw [← f1q]
 exact h
def c6l (w : World) (R : Value → World → Prop) (_E : Pan) : Prop :=
 ∀ _τ : Fr, (R (Value.bool true) w)
def F90 (x0 x1 x2 : Value) (w : World) (R : Value → World → Prop) (E : Pan) : Prop :=
 opK Tryd.prog E (xNil x0) w fun a7k w_2 =>
 opK Tryd.prog E (xV (Instr.fieldAt 92 a7k 0)) w_2 fun b1l w_4 =>
 opK Tryd.prog E (xV (Instr.loadAt 3 b1l)) w_4 fun b1k w_6 =>
 opK Tryd.prog E (xBin .add 3 (.tmp 12) (.const (Value.int .i64 1)) b1k (Value.int .i64 1)) w_6 fun b5r w_8 =>
 opK Tryd.prog E (xNil x0) w_8 fun a7j o2 =>
 opK Tryd.prog E (xV (Instr.fieldAt 92 a7j 0)) o2 fun b2b o7 =>
 opK Tryd.prog E (xU (Instr.storeAt 3 b2b b5r)) o7 fun _z_13 o8 =>
 opK Tryd.prog E (xNil x0) o8 fun b2c p9 =>
 opK Tryd.prog E (xV (Instr.fieldAt 92 b2c 0)) p9 fun b7k r5 =>
 opK Tryd.prog E (xV (Instr.loadAt 3 b7k)) r5 fun c6m p7 =>
 opK Tryd.prog E (xBin .gtr 3 (.tmp 19) (.const (Value.int .i64 4096)) c6m (Value.int .i64 4096)) p7 fun c5W t1 =>
 xcond c5W
 (opK Tryd.prog E (xNil x0) t1 fun c6a t8 =>
 opK Tryd.prog E (xV (Instr.fieldAt 92 c6a 2)) t8 fun f1s v2 =>
 opK Tryd.prog E (xU (Instr.storeAt 34 f1s (Value.int .i64 33))) v2 fun _z_27 y7 =>
 R (Value.bool false) y7)
 (opK Tryd.prog E (xBin .gtr 3 (.tmp 24) (.const (Value.int .i64 64)) x2 (Value.int .i64 64)) t1 fun f1t A7 =>
 xcond f1t
 (opK Tryd.prog E (xNil x0) A7 fun c6n A4 =>
 opK Tryd.prog E (xV (Instr.fieldAt 92 c6n 2)) A4 fun c6o A8 =>
 opK Tryd.prog E (xU (Instr.storeAt 34 c6o (Value.int .i64 32))) A8 fun _z_35 C9 =>
 R (Value.bool false) C9)
 (opK Tryd.prog E (xNil x0) A7 fun f1u C0 =>
 opK Tryd.prog E (xV (Instr.fieldAt 92 f1u 1)) C0 fun f1v D3 =>
 opK Tryd.prog E (xV (Instr.loadAt 3 f1v)) D3 fun f1w E9 =>
 opK Tryd.prog E (xBuiltin .max #[3, 3] 3 [false, false] [f1w, x2]) E9 fun c6p E4 =>
 opK Tryd.prog E (xNil x0) E4 fun f1x K8 =>
 opK Tryd.prog E (xV (Instr.fieldAt 92 f1x 1)) K8 fun f1y J7 =>
 opK Tryd.prog E (xU (Instr.storeAt 3 f1y c6p)) J7 fun _z_49 G8 =>
 opK Tryd.prog E (xNil x0) G8 fun f1z K5 =>
 opK Tryd.prog E (xV (Instr.fieldAt 92 f1z 3)) K5 fun f1A M3 =>
 opK Tryd.prog E (xV (Instr.loadAt 4 f1A)) M3 fun c1m M7 =>
 opK Tryd.prog E (gsem (asB c1m) false (xInvoke (gval (asB c1m) false x1) "gnomon/tree.form" [])) M7 fun f1B M8 =>
 opK Tryd.prog E (gsem (asB c1m) false (xV (Op.unary .not f1B))) M8 fun f1C P8 =>
 opK Tryd.prog E (xPick c1m (Value.bool true) f1C) P8 fun f1D T9 =>
 opK Tryd.prog E (xNil x0) T9 fun f1E Q2 =>
 opK Tryd.prog E (xV (Instr.fieldAt 92 f1E 3)) Q2 fun f1F U0 =>
 opK Tryd.prog E (xU (Instr.storeAt 4 f1F f1D)) U0 fun _z_67 a0d =>
 xcut (fun _ N1 => c6l N1 R E) fun j1 =>
 opK Tryd.prog E (xCall (Value.func (.func 114) #[] #[]) [x1]) a0d fun d6R W0 =>
 opK Tryd.prog E (xV (Instr.extract d6R 0)) W0 fun b7l a0e =>
 opK Tryd.prog E (xV (Instr.extract d6R 1)) a0e fun f1G Z7 =>
 xcond f1G
 (opK Tryd.prog E (xNil x0) Z7 fun f1H W8 =>
 opK Tryd.prog E (xV (Instr.fieldAt 92 f1H 4)) W8 fun f1I a2v =>
 opK Tryd.prog E (xV (Instr.loadAt 4 f1I)) a2v fun b2d a2U =>
 opK Tryd.prog E (gsem (asB b2d) false (xCall (Value.func (.func 115) #[] #[]) [(gval (asB b2d) false b7l)])) a2U fun f1J a3l =>
 opK Tryd.prog E (gsem (asB b2d) false (xV (Op.unary .not f1J))) a3l fun f1K a3m =>
 opK Tryd.prog E (xPick b2d (Value.bool true) f1K) a3m fun f1L a2e =>
 opK Tryd.prog E (xNil x0) a2e fun f1M a4B =>
 opK Tryd.prog E (xV (Instr.fieldAt 92 f1M 4)) a4B fun f1N a4C =>
 opK Tryd.prog E (xU (Instr.storeAt 4 f1N f1L)) a4C fun _z_93 a4e =>
 opK Tryd.prog E (xNil x0) a4e fun f1O a2V =>
 opK Tryd.prog E (xV (Instr.fieldAt 92 f1O 5)) a2V fun f1P a4D =>
 opK Tryd.prog E (xV (Instr.loadAt 47 f1P)) a4D fun f1Q a2i =>
 opK Tryd.prog E (xCall (Value.func (.func 116) #[] #[]) [f1Q, b7l]) a2i fun e4Y a1G =>
 opK Tryd.prog E (xV (Op.unary .not e4Y)) a1G fun e4Z a3d =>
 xcond e4Z
 (opK Tryd.prog E (xNil x0) a3d fun e5a a0Z =>
 opK Tryd.prog E (xV (Instr.fieldAt 92 e5a 5)) a0Z fun e5b a4Q =>
 opK Tryd.prog E (xV (Instr.loadAt 47 e5b)) a4Q fun e5c a4p =>
 opK Tryd.prog E (xV (Instr.buildSlice 47 1 #[(0, b7l)])) a4p fun e5d a4q =>
 opK Tryd.prog E (xBuiltin .append #[47, 47] 47 [false, false] [e5c, e5d]) a4q fun e5e a2j =>
 opK Tryd.prog E (xNil x0) a2j fun e5f a3e =>
 opK Tryd.prog E (xV (Instr.fieldAt 92 e5f 5)) a3e fun e5g a5h =>
 opK Tryd.prog E (xU (Instr.storeAt 47 e5g e5e)) a5h fun _z_119 a3f =>
 j1 [] a3f)
 (j1 [] a3d))
 (j1 [] Z7)))
noncomputable def c90 : Code := Tryd.f90.body.getD .skip
def h90 : Hint := (.seq .none (.seq (.seq .none (.seq .none (.cond (.seq .none (.seq .none .none)) .none))) (.seq (.seq .none (.cond (.seq .none (.seq .none .none)) .none)) (.seq .none (.seq .none (.cut [] (.seq .none (.seq .none (.cond (.seq .none (.seq .none (.cond .none .none))) .none))) (.seq .none .none)))))))
theorem f1R (x0 x1 x2 : Value) (w : World) (R : Value → World → Prop) (E : Pan) : F90 x0 x1 x2 w R E = callX Tryd.prog [.tmp 6] c90 h90 [x0, x1, x2] w R E := by kernel_rfl
theorem f1S {x0 x1 x2 : Value} {w : World} {R : Value → World → Prop} {E : Pan} (h : F90 x0 x1 x2 w R E) : Cv Tryd.prog 90 #[x0, x1, x2] w R E := by
 refine i6 (args := [x0, x1, x2]) (c := c90) (h := h90) (rs := [.tmp 6]) Tryd.func90 (by kernel_rfl) (by kernel_rfl) (Nat.le_of_ble_eq_true (by kernel_rfl)) (by kernel_rfl) (by kernel_rfl) (by kernel_rfl) ?_
 rw [← f1R]
 exact h
def F91 (x0 x1 : Value) (w : World) (R : Value → World → Prop) (E : Pan) : Prop :=
 opK Tryd.prog E (xNil x0) w fun b0O w_2 =>
 opK Tryd.prog E (xV (Instr.fieldAt 99 b0O 2)) w_2 fun a9O w_4 =>
 opK Tryd.prog E (xV (Instr.loadAt 3 a9O)) w_4 fun d9C w_6 =>
 opK Tryd.prog E (xBin .neq 3 (.tmp 8) (.const (Value.int .i64 0)) d9C (Value.int .i64 0)) w_6 fun h0T w_8 =>
 xcond h0T
 (R (Value.bool false) w_8)
 (opK Tryd.prog E (xNil x0) w_8 fun g6b o2 =>
 opK Tryd.prog E (xV (Instr.fieldAt 99 g6b 0)) o2 fun c1n o7 =>
 opK Tryd.prog E (xV (Instr.loadAt 3 c1n)) o7 fun f1T o8 =>
 opK Tryd.prog E (xBin .eql 3 (.tmp 13) (.const (Value.int .i64 4096)) f1T (Value.int .i64 4096)) o8 fun f1U p9 =>
 xcond f1U
 (opK Tryd.prog E (xNil x0) p9 fun c6q r5 =>
 opK Tryd.prog E (xV (Instr.fieldAt 99 c6q 2)) r5 fun c5V p7 =>
 opK Tryd.prog E (xU (Instr.storeAt 3 c5V (Value.int .i64 33))) p7 fun _z_21 t1 =>
 R (Value.bool false) t1)
 (opK Tryd.prog E (xBin .gtr 3 (.tmp 18) (.const (Value.int .i64 64)) x1 (Value.int .i64 64)) p9 fun b7m t8 =>
 xcond b7m
 (opK Tryd.prog E (xNil x0) t8 fun b7n v2 =>
 opK Tryd.prog E (xV (Instr.fieldAt 99 b7n 2)) v2 fun b7o y7 =>
 opK Tryd.prog E (xU (Instr.storeAt 3 b7o (Value.int .i64 32))) y7 fun _z_29 A7 =>
 R (Value.bool false) A7)
 (opK Tryd.prog E (xNil x0) t8 fun c6r A4 =>
 opK Tryd.prog E (xV (Instr.fieldAt 99 c6r 0)) A4 fun c6s A8 =>
 opK Tryd.prog E (xV (Instr.loadAt 3 c6s)) A8 fun f1V C9 =>
 opK Tryd.prog E (xBin .add 3 (.tmp 26) (.const (Value.int .i64 1)) f1V (Value.int .i64 1)) C9 fun c6t C0 =>
 opK Tryd.prog E (xNil x0) C0 fun b2e D3 =>
 opK Tryd.prog E (xV (Instr.fieldAt 99 b2e 0)) D3 fun f1W E9 =>
 opK Tryd.prog E (xU (Instr.storeAt 3 f1W c6t)) E9 fun _z_43 E4 =>
 opK Tryd.prog E (xNil x0) E4 fun c6u K8 =>
 opK Tryd.prog E (xV (Instr.fieldAt 99 c6u 1)) K8 fun c6v J7 =>
 opK Tryd.prog E (xV (Instr.loadAt 3 c6v)) J7 fun c6w G8 =>
 opK Tryd.prog E (xBuiltin .max #[3, 3] 3 [false, false] [c6w, x1]) G8 fun f1X K5 =>
 opK Tryd.prog E (xNil x0) K5 fun f1Y M3 =>
 opK Tryd.prog E (xV (Instr.fieldAt 99 f1Y 1)) M3 fun f1Z M7 =>
 opK Tryd.prog E (xU (Instr.storeAt 3 f1Z f1X)) M7 fun _z_57 M8 =>
 R (Value.bool true) M8)))
noncomputable def c91 : Code := Tryd.f91.body.getD .skip
def h91 : Hint := (.seq .none (.seq (.seq .none (.cond (.seq .none .none) .none)) (.seq (.seq .none (.cond (.seq .none (.seq .none .none)) .none)) (.seq (.seq .none (.cond (.seq .none (.seq .none .none)) .none)) (.seq .none (.seq .none (.seq .none .none)))))))
theorem f2a (x0 x1 : Value) (w : World) (R : Value → World → Prop) (E : Pan) : F91 x0 x1 w R E = callX Tryd.prog [.tmp 4] c91 h91 [x0, x1] w R E := by kernel_rfl
theorem f2b {x0 x1 : Value} {w : World} {R : Value → World → Prop} {E : Pan} (h : F91 x0 x1 w R E) : Cv Tryd.prog 91 #[x0, x1] w R E := by
 refine i6 (args := [x0, x1]) (c := c91) (h := h91) (rs := [.tmp 4]) Tryd.func91 (by kernel_rfl) (by kernel_rfl) (Nat.le_of_ble_eq_true (by kernel_rfl)) (by kernel_rfl) (by kernel_rfl) (by kernel_rfl) ?_
 rw [← f2a]
 exact h
def d6S (x0 x2 x4 x9 : Value) (w : World) (next4 : List Value → World → Prop) (R : Value → World → Prop) (E : Pan) : Prop :=
 opK Tryd.prog E (xV (Instr.fieldAt 88 x4 5)) w fun g6c w_8 =>
 opK Tryd.prog E (xV (Instr.loadAt 23 g6c)) w_8 fun g6d o2 =>
 opK Tryd.prog E (xBuiltin .len #[23] 3 [false] [g6d]) o2 fun f2c o7 =>
 opK Tryd.prog E (xBin .lss 3 (.tmp 83) (.tmp 86) x9 f2c) o7 fun b4x o8 =>
 opK Tryd.prog E (gsem (asB b4x) true (xNil (gval (asB b4x) true x0))) o8 fun f2d p9 =>
 opK Tryd.prog E (gsem (asB b4x) true (xV (Instr.fieldAt 99 f2d 2))) p9 fun f2e r5 =>
 opK Tryd.prog E (gsem (asB b4x) true (xV (Instr.loadAt 3 f2e))) r5 fun f2f p7 =>
 opK Tryd.prog E (gsem (asB b4x) true (xBin .eql 3 (.tmp 92) (.const (Value.int .i64 0)) f2f (Value.int .i64 0))) p7 fun f2g t1 =>
 opK Tryd.prog E (xPick b4x f2g (Value.bool false)) t1 fun f2h t8 =>
 xcond f2h
 (opK Tryd.prog E (xV (Instr.fieldAt 88 x4 5)) t8 fun f2i v2 =>
 opK Tryd.prog E (xV (Instr.loadAt 23 f2i)) v2 fun f2j y7 =>
 opK Tryd.prog E (xV (Instr.indexAt 23 f2j x9)) y7 fun e5h A7 =>
 opK Tryd.prog E (xV (Instr.loadAt 88 e5h)) A7 fun e5i A4 =>
 opK Tryd.prog E (xBin .add 3 (.tmp 103) (.const (Value.int .i64 1)) x2 (Value.int .i64 1)) A4 fun e5j A8 =>
 opK Tryd.prog E (xCall (Value.func (.func 92) #[] #[]) [x0, e5i, e5j]) A8 fun _t105_35 C9 =>
 opK Tryd.prog E (xBin .add 3 (.tmp 95) (.const (Value.int .i64 1)) x9 (Value.int .i64 1)) C9 fun f2k C0 =>
 next4 [f2k] C0)
 (R (Value.tuple #[]) t8)
def c6x (x0 x2 x4 : Value) (w : World) (R : Value → World → Prop) (E : Pan) : Prop :=
 ∀ _τ : Fr, (xloop [9] [(Value.int .i64 0)] w fun τ_39 D3 next4 =>
 d6S x0 x2 x4 (τ_39 9) D3 next4 R E)
def d6T (x0 x2 x4 x8 : Value) (w : World) (next5 : List Value → World → Prop) (j3 : List Value → World → Prop) (_R : Value → World → Prop) (E : Pan) : Prop :=
 opK Tryd.prog E (xV (Instr.fieldAt 88 x4 4)) w fun f2l E4 =>
 opK Tryd.prog E (xV (Instr.loadAt 23 f2l)) E4 fun f2m K8 =>
 opK Tryd.prog E (xBuiltin .len #[23] 3 [false] [f2m]) K8 fun f2n J7 =>
 opK Tryd.prog E (xBin .lss 3 (.tmp 60) (.tmp 63) x8 f2n) J7 fun b4y G8 =>
 opK Tryd.prog E (gsem (asB b4y) true (xNil (gval (asB b4y) true x0))) G8 fun c6y K5 =>
 opK Tryd.prog E (gsem (asB b4y) true (xV (Instr.fieldAt 99 c6y 2))) K5 fun f2o M3 =>
 opK Tryd.prog E (gsem (asB b4y) true (xV (Instr.loadAt 3 f2o))) M3 fun f2p M7 =>
 opK Tryd.prog E (gsem (asB b4y) true (xBin .eql 3 (.tmp 69) (.const (Value.int .i64 0)) f2p (Value.int .i64 0))) M7 fun f2q M8 =>
 opK Tryd.prog E (xPick b4y f2q (Value.bool false)) M8 fun f2r P8 =>
 xcond f2r
 (opK Tryd.prog E (xV (Instr.fieldAt 88 x4 4)) P8 fun f2s T9 =>
 opK Tryd.prog E (xV (Instr.loadAt 23 f2s)) T9 fun f2t Q2 =>
 opK Tryd.prog E (xV (Instr.indexAt 23 f2t x8)) Q2 fun f2u U0 =>
 opK Tryd.prog E (xV (Instr.loadAt 88 f2u)) U0 fun f2v a0d =>
 opK Tryd.prog E (xBin .add 3 (.tmp 80) (.const (Value.int .i64 1)) x2 (Value.int .i64 1)) a0d fun f2w N1 =>
 opK Tryd.prog E (xCall (Value.func (.func 92) #[] #[]) [x0, f2v, f2w]) N1 fun _t82_71 W0 =>
 opK Tryd.prog E (xBin .add 3 (.tmp 72) (.const (Value.int .i64 1)) x8 (Value.int .i64 1)) W0 fun f2x a0e =>
 next5 [f2x] a0e)
 (j3 [] P8)
def c6z (x0 x2 x4 : Value) (w : World) (R : Value → World → Prop) (E : Pan) : Prop :=
 ∀ _τ : Fr, (xcut (fun _ E9 => c6x x0 x2 x4 E9 R E) fun j3 =>
 xloop [8] [(Value.int .i64 0)] w fun τ_75 Z7 next5 =>
 d6T x0 x2 x4 (τ_75 8) Z7 next5 j3 R E)
def d6U (x0 x2 x4 x7 : Value) (w : World) (next6 : List Value → World → Prop) (j2 : List Value → World → Prop) (_R : Value → World → Prop) (E : Pan) : Prop :=
 opK Tryd.prog E (xV (Instr.fieldAt 88 x4 2)) w fun f2y a2v =>
 opK Tryd.prog E (xV (Instr.loadAt 28 f2y)) a2v fun f2z a2U =>
 opK Tryd.prog E (xBuiltin .len #[28] 3 [false] [f2z]) a2U fun f2A a3l =>
 opK Tryd.prog E (xBin .lss 3 (.tmp 37) (.tmp 40) x7 f2A) a3l fun b4z a3m =>
 opK Tryd.prog E (gsem (asB b4z) true (xNil (gval (asB b4z) true x0))) a3m fun f2B a2e =>
 opK Tryd.prog E (gsem (asB b4z) true (xV (Instr.fieldAt 99 f2B 2))) a2e fun f2C a4B =>
 opK Tryd.prog E (gsem (asB b4z) true (xV (Instr.loadAt 3 f2C))) a4B fun f2D a4C =>
 opK Tryd.prog E (gsem (asB b4z) true (xBin .eql 3 (.tmp 46) (.const (Value.int .i64 0)) f2D (Value.int .i64 0))) a4C fun f2E a4e =>
 opK Tryd.prog E (xPick b4z f2E (Value.bool false)) a4e fun f2F a2V =>
 xcond f2F
 (opK Tryd.prog E (xV (Instr.fieldAt 88 x4 2)) a2V fun c6A a4D =>
 opK Tryd.prog E (xV (Instr.loadAt 28 c6A)) a4D fun f2G a2i =>
 opK Tryd.prog E (xV (Instr.indexAt 28 f2G x7)) a2i fun b4A a1G =>
 opK Tryd.prog E (xV (Instr.loadAt 30 b4A)) a1G fun e5k a3d =>
 opK Tryd.prog E (xBin .add 3 (.tmp 57) (.const (Value.int .i64 1)) x2 (Value.int .i64 1)) a3d fun e5l a0Z =>
 opK Tryd.prog E (xCall (Value.func (.func 58) #[] #[]) [x0, e5k, e5l]) a0Z fun _t59_107 a4Q =>
 opK Tryd.prog E (xBin .add 3 (.tmp 49) (.const (Value.int .i64 1)) x7 (Value.int .i64 1)) a4Q fun e5m a4p =>
 next6 [e5m] a4p)
 (j2 [] a2V)
def c6B (x0 x2 x4 : Value) (w : World) (R : Value → World → Prop) (E : Pan) : Prop :=
 ∀ _τ : Fr, (xcut (fun _ W8 => c6z x0 x2 x4 W8 R E) fun j2 =>
 xloop [7] [(Value.int .i64 0)] w fun τ_111 a4q next6 =>
 d6U x0 x2 x4 (τ_111 7) a4q next6 j2 R E)
def d6V (x0 x2 x4 x6 : Value) (w : World) (next7 : List Value → World → Prop) (j1 : List Value → World → Prop) (_R : Value → World → Prop) (E : Pan) : Prop :=
 opK Tryd.prog E (xV (Instr.fieldAt 88 x4 3)) w fun e5n a3e =>
 opK Tryd.prog E (xV (Instr.loadAt 31 e5n)) a3e fun e5o a5h =>
 opK Tryd.prog E (xBuiltin .len #[31] 3 [false] [e5o]) a5h fun e5p a3f =>
 opK Tryd.prog E (xBin .lss 3 (.tmp 14) (.tmp 17) x6 e5p) a3f fun b1N a5O =>
 opK Tryd.prog E (gsem (asB b1N) true (xNil (gval (asB b1N) true x0))) a5O fun e5q a8H =>
 opK Tryd.prog E (gsem (asB b1N) true (xV (Instr.fieldAt 99 e5q 2))) a8H fun e5r a7O =>
 opK Tryd.prog E (gsem (asB b1N) true (xV (Instr.loadAt 3 e5r))) a7O fun e5s b1m =>
 opK Tryd.prog E (gsem (asB b1N) true (xBin .eql 3 (.tmp 23) (.const (Value.int .i64 0)) e5s (Value.int .i64 0))) b1m fun e5t b0u =>
 opK Tryd.prog E (xPick b1N e5t (Value.bool false)) b0u fun e5u a8I =>
 xcond e5u
 (opK Tryd.prog E (xV (Instr.fieldAt 88 x4 3)) a8I fun e5v a8J =>
 opK Tryd.prog E (xV (Instr.loadAt 31 e5v)) a8J fun e5w b0v =>
 opK Tryd.prog E (xV (Instr.indexAt 31 e5w x6)) b0v fun e5x b5s =>
 opK Tryd.prog E (xV (Instr.loadAt 33 e5x)) b5s fun e5y b5t =>
 opK Tryd.prog E (xBin .add 3 (.tmp 34) (.const (Value.int .i64 1)) x2 (Value.int .i64 1)) b5t fun e5z b5u =>
 opK Tryd.prog E (xCall (Value.func (.func 61) #[] #[]) [x0, e5y, e5z]) b5u fun _t36_143 b3G =>
 opK Tryd.prog E (xBin .add 3 (.tmp 26) (.const (Value.int .i64 1)) x6 (Value.int .i64 1)) b3G fun e5A b0w =>
 next7 [e5A] b0w)
 (j1 [] a8I)
def F92 (x0 x1 x2 : Value) (w : World) (R : Value → World → Prop) (E : Pan) : Prop :=
 opK Tryd.prog E (xV (Instr.box 88 x1)) w fun a9P w_2 =>
 opK Tryd.prog E (xCall (Value.func (.func 91) #[] #[]) [x0, x2]) w_2 fun b5v w_4 =>
 opK Tryd.prog E (xV (Op.unary .not b5v)) w_4 fun b5w w_6 =>
 xcond b5w
 (R (Value.tuple #[]) w_6)
 (xcut (fun _ a2j => c6B x0 x2 a9P a2j R E) fun j1 =>
 xloop [6] [(Value.int .i64 0)] w_6 fun τ_147 b5x next7 =>
 d6V x0 x2 a9P (τ_147 6) b5x next7 j1 R E)
noncomputable def c92 : Code := Tryd.f92.body.getD .skip
def h92 : Hint := (.seq .none (.seq (.seq .none (.cond .none .none)) (.cut [] (.seq .none (.block (.loop [6] (.seq (.seq .none (.cond .none .none)) (.seq (.block .none) .none))))) (.cut [] (.seq .none (.block (.loop [7] (.seq (.seq .none (.cond .none .none)) (.seq (.block .none) .none))))) (.cut [] (.seq .none (.block (.loop [8] (.seq (.seq .none (.cond .none .none)) (.seq (.block .none) .none))))) (.seq .none (.block (.loop [9] (.seq (.seq .none (.cond .none .none)) (.seq (.block .none) .none))))))))))
theorem f2H (x0 x1 x2 : Value) (w : World) (R : Value → World → Prop) (E : Pan) : F92 x0 x1 x2 w R E = callX Tryd.prog [] c92 h92 [x0, x1, x2] w R E := by kernel_rfl
theorem f2I {x0 x1 x2 : Value} {w : World} {R : Value → World → Prop} {E : Pan} (h : F92 x0 x1 x2 w R E) : Cv Tryd.prog 92 #[x0, x1, x2] w R E := by
 refine i6 (args := [x0, x1, x2]) (c := c92) (h := h92) (rs := []) Tryd.func92 (by kernel_rfl) (by kernel_rfl) (Nat.le_of_ble_eq_true (by kernel_rfl)) (by kernel_rfl) (by kernel_rfl) (by kernel_rfl) ?_
 rw [← f2H]
 exact h
def c6C (x6 : Value) (w : World) (R : Value → World → Prop) (_E : Pan) : Prop :=
 ∀ _τ : Fr, (R x6 w)
def d6W (x6 x25 x26 x27 : Value) (w : World) (next3 : List Value → World → Prop) (j2 : List Value → World → Prop) (_R : Value → World → Prop) (E : Pan) : Prop :=
 opK Tryd.prog E (xBin .lss 3 (.tmp 27) (.tmp 26) x27 x26) w fun g6e w_8 =>
 xcond g6e
 (opK Tryd.prog E (xV (Instr.indexAt 172 x25 x27)) w_8 fun g6f o2 =>
 opK Tryd.prog E (xV (Instr.loadAt 97 g6f)) o2 fun f2J o7 =>
 opK Tryd.prog E (xBuiltin .append #[97, 97] 97 [false, false] [x6, f2J]) o7 fun c6D o8 =>
 opK Tryd.prog E (xBin .add 3 (.tmp 27) (.const (Value.int .i64 1)) x27 (Value.int .i64 1)) o8 fun c6E p9 =>
 next3 [c6D, c6E] p9)
 (j2 [x6] w_8)
def c6F (x0 x3 : Value) (w : World) (R : Value → World → Prop) (E : Pan) : Prop :=
 ∀ _τ : Fr, (opK Tryd.prog E (xCall (Value.func (.func 120) #[] #[]) [(Value.slice none 0 0), x3]) w fun g6g w_2 =>
 xcut (fun l_3 w_4 => c6C (nth l_3 0) w_4 R E) fun j2 =>
 opK Tryd.prog E (xBuiltin .len #[172] 3 [false] [x0]) w_2 fun d1W w_6 =>
 xloop [6, 27] [g6g, (Value.int .i64 0)] w_6 fun τ_17 r5 next3 =>
 d6W (τ_17 6) x0 d1W (τ_17 27) r5 next3 j2 R E)
def c6G (_x0 x3 _x9 _x10 x11 : Value) (w : World) (next4 : List Value → World → Prop) (_R : Value → World → Prop) (E : Pan) : Prop :=
 ∀ _τ : Fr, (opK Tryd.prog E (xBin .add 3 (.tmp 11) (.const (Value.int .i64 1)) x11 (Value.int .i64 1)) w fun f2K v2 =>
 next4 [x3, f2K] v2)
def d6X (x0 x3 x9 x10 x11 : Value) (w : World) (next4 : List Value → World → Prop) (j1 : List Value → World → Prop) (R : Value → World → Prop) (E : Pan) : Prop :=
 opK Tryd.prog E (xBin .lss 3 (.tmp 11) (.tmp 10) x11 x10) w fun f2L t8 =>
 xcond f2L
 (xcut (fun b9G y7 => c6G x0 (nth b9G 0) x9 x10 x11 y7 next4 R E) fun j5 =>
 opK Tryd.prog E (xV (Instr.indexAt 172 x9 x11)) t8 fun f2M A7 =>
 opK Tryd.prog E (xV (Instr.loadAt 97 f2M)) A7 fun f2N A4 =>
 opK Tryd.prog E (xBuiltin .len #[97] 3 [false] [f2N]) A4 fun c6H A8 =>
 opK Tryd.prog E (xBin .add 3 (.tmp 15) (.tmp 17) x3 c6H) A8 fun b7p C9 =>
 opK Tryd.prog E (xBin .lss 3 (.tmp 19) (.const (Value.int .i64 0)) b7p (Value.int .i64 0)) C9 fun f2O C0 =>
 xcond f2O
 (opK Tryd.prog E (xV (Instr.makeInterface 9 (Value.string ⟨#[108, 101, 110, 32, 111, 117, 116, 32, 111, 102, 32, 114, 97, 110, 103, 101]⟩))) C0 fun f2P D3 =>
 opK Tryd.prog E (xV (Instr.panic f2P)) D3 fun _z_41 E9 =>
 j5 [b7p] E9)
 (j5 [b7p] C0))
 (j1 [x3] t8)
def F94 (x0 : Value) (w : World) (R : Value → World → Prop) (E : Pan) : Prop :=
 xcut (fun d9D p7 => c6F x0 (nth d9D 0) p7 R E) fun j1 =>
 opK Tryd.prog E (xBuiltin .len #[172] 3 [false] [x0]) w fun f2Q t1 =>
 xloop [3, 11] [(Value.int .i64 0), (Value.int .i64 0)] t1 fun τ_43 E4 next4 =>
 d6X x0 (τ_43 3) x0 f2Q (τ_43 11) E4 next4 j1 R E
noncomputable def c94 : Code := Tryd.f94.body.getD .skip
def h94 : Hint := (.seq .none (.seq .none (.cut [3] (.seq .none (.block (.loop [3, 11] (.seq .none (.seq (.cond .none .none) (.cut [3] (.block (.seq .none (.seq .none (.seq .none (.cond .none .none))))) .none)))))) (.seq .none (.cut [6] (.seq .none (.block (.loop [6, 27] (.seq .none (.seq (.cond .none .none) (.seq (.block (.seq .none .none)) .none)))))) (.seq .none .none))))))
theorem f2R (x0 : Value) (w : World) (R : Value → World → Prop) (E : Pan) : F94 x0 w R E = callX Tryd.prog [.tmp 2] c94 h94 [x0] w R E := by kernel_rfl
theorem f2S {x0 : Value} {w : World} {R : Value → World → Prop} {E : Pan} (h : F94 x0 w R E) : Cv Tryd.prog 94 #[x0] w R E := by
 refine i6 (args := [x0]) (c := c94) (h := h94) (rs := [.tmp 2]) Tryd.func94 (by kernel_rfl) (by kernel_rfl) (Nat.le_of_ble_eq_true (by kernel_rfl)) (by kernel_rfl) (by kernel_rfl) (by kernel_rfl) ?_
 rw [← f2R]
 exact h
def c6I (x5 : Value) (w : World) (R : Value → World → Prop) (_E : Pan) : Prop :=
 ∀ _τ : Fr, (R x5 w)
def d6Y (x1 x5 x8 x9 x10 : Value) (w : World) (next2 : List Value → World → Prop) (j1 : List Value → World → Prop) (_R : Value → World → Prop) (E : Pan) : Prop :=
 opK Tryd.prog E (xBin .lss 3 (.tmp 10) (.tmp 9) x10 x9) w fun a6A w_6 =>
 xcond a6A
 (opK Tryd.prog E (xV (Instr.indexAt 22 x8 x10)) w_6 fun a3b w_8 =>
 opK Tryd.prog E (xV (Instr.loadAt 67 a3b)) w_8 fun a2O o2 =>
 opK Tryd.prog E (xV (Instr.alloc 67 true (.tuple #[]))) o2 fun a5L o7 =>
 opK Tryd.prog E (xU (Instr.storeAt 67 a5L a2O)) o7 fun _z_13 o8 =>
 opK Tryd.prog E (xV (Instr.loadAt 67 a5L)) o8 fun a6L p9 =>
 opK Tryd.prog E (xCall x1 [a6L]) p9 fun a6M r5 =>
 opK Tryd.prog E (xV (Instr.buildSlice 97 1 #[(0, a6M)])) r5 fun a6N p7 =>
 opK Tryd.prog E (xBuiltin .append #[97, 97] 97 [false, false] [x5, a6N]) p7 fun a6O t1 =>
 opK Tryd.prog E (xBin .add 3 (.tmp 10) (.const (Value.int .i64 1)) x10 (Value.int .i64 1)) t1 fun a6P t8 =>
 next2 [a6O, a6P] t8)
 (j1 [x5] w_6)
def F95 (x0 x1 : Value) (w : World) (R : Value → World → Prop) (E : Pan) : Prop :=
 xcut (fun l_1 w_2 => c6I (nth l_1 0) w_2 R E) fun j1 =>
 opK Tryd.prog E (xBuiltin .len #[22] 3 [false] [x0]) w fun a5a w_4 =>
 xloop [5, 10] [(Value.slice none 0 0), (Value.int .i64 0)] w_4 fun τ_25 v2 next2 =>
 d6Y x1 (τ_25 5) x0 a5a (τ_25 10) v2 next2 j1 R E
noncomputable def c95 : Code := Tryd.f95.body.getD .skip
def h95 : Hint := (.seq .none (.seq .none (.cut [5] (.seq .none (.block (.loop [5, 10] (.seq .none (.seq (.cond .none .none) (.seq (.block (.seq .none .none)) .none)))))) (.seq .none .none))))
theorem f2T (x0 x1 : Value) (w : World) (R : Value → World → Prop) (E : Pan) : F95 x0 x1 w R E = callX Tryd.prog [.tmp 4] c95 h95 [x0, x1] w R E := by kernel_rfl
theorem f2U {x0 x1 : Value} {w : World} {R : Value → World → Prop} {E : Pan} (h : F95 x0 x1 w R E) : Cv Tryd.prog 95 #[x0, x1] w R E := by
 refine i6 (args := [x0, x1]) (c := c95) (h := h95) (rs := [.tmp 4]) Tryd.func95 (by kernel_rfl) (by kernel_rfl) (Nat.le_of_ble_eq_true (by kernel_rfl)) (by kernel_rfl) (by kernel_rfl) (by kernel_rfl) ?_
 rw [← f2T]
 exact h
def F96 (x0 : Value) (w : World) (R : Value → World → Prop) (E : Pan) : Prop :=
 opK Tryd.prog E (xV (Instr.box 67 x0)) w fun t7 w_2 =>
 opK Tryd.prog E (xV (Instr.loadAt 67 t7)) w_2 fun T8 w_4 =>
 opK Tryd.prog E (xV (Instr.build 175 #[(0, T8)])) w_4 fun a3k w_6 =>
 opK Tryd.prog E (xV (Instr.makeInterface 175 a3k)) w_6 fun a5K w_8 =>
 R a5K w_8
noncomputable def c96 : Code := Tryd.f96.body.getD .skip
def h96 : Hint := (.seq .none (.seq .none .none))
theorem f2V (x0 : Value) (w : World) (R : Value → World → Prop) (E : Pan) : F96 x0 w R E = callX Tryd.prog [.tmp 2] c96 h96 [x0] w R E := by kernel_rfl
theorem f2W {x0 : Value} {w : World} {R : Value → World → Prop} {E : Pan} (h : F96 x0 w R E) : Cv Tryd.prog 96 #[x0] w R E := by
 refine i6 (args := [x0]) (c := c96) (h := h96) (rs := [.tmp 2]) Tryd.func96 (by kernel_rfl) (by kernel_rfl) (Nat.le_of_ble_eq_true (by kernel_rfl)) (by kernel_rfl) (by kernel_rfl) (by kernel_rfl) ?_
 rw [← f2V]
 exact h
def c6J (x5 : Value) (w : World) (R : Value → World → Prop) (_E : Pan) : Prop :=
 ∀ _τ : Fr, (R x5 w)
def d6Z (x1 x5 x8 x9 x10 : Value) (w : World) (next2 : List Value → World → Prop) (j1 : List Value → World → Prop) (_R : Value → World → Prop) (E : Pan) : Prop :=
 opK Tryd.prog E (xBin .lss 3 (.tmp 10) (.tmp 9) x10 x9) w fun a6A w_6 =>
 xcond a6A
 (opK Tryd.prog E (xV (Instr.indexAt 23 x8 x10)) w_6 fun a3b w_8 =>
 opK Tryd.prog E (xV (Instr.loadAt 88 a3b)) w_8 fun a2O o2 =>
 opK Tryd.prog E (xV (Instr.alloc 88 true (.tuple #[]))) o2 fun a5L o7 =>
 opK Tryd.prog E (xU (Instr.storeAt 88 a5L a2O)) o7 fun _z_13 o8 =>
 opK Tryd.prog E (xV (Instr.loadAt 88 a5L)) o8 fun a6L p9 =>
 opK Tryd.prog E (xCall x1 [a6L]) p9 fun a6M r5 =>
 opK Tryd.prog E (xV (Instr.buildSlice 97 1 #[(0, a6M)])) r5 fun a6N p7 =>
 opK Tryd.prog E (xBuiltin .append #[97, 97] 97 [false, false] [x5, a6N]) p7 fun a6O t1 =>
 opK Tryd.prog E (xBin .add 3 (.tmp 10) (.const (Value.int .i64 1)) x10 (Value.int .i64 1)) t1 fun a6P t8 =>
 next2 [a6O, a6P] t8)
 (j1 [x5] w_6)
def F97 (x0 x1 : Value) (w : World) (R : Value → World → Prop) (E : Pan) : Prop :=
 xcut (fun l_1 w_2 => c6J (nth l_1 0) w_2 R E) fun j1 =>
 opK Tryd.prog E (xBuiltin .len #[23] 3 [false] [x0]) w fun a5a w_4 =>
 xloop [5, 10] [(Value.slice none 0 0), (Value.int .i64 0)] w_4 fun τ_25 v2 next2 =>
 d6Z x1 (τ_25 5) x0 a5a (τ_25 10) v2 next2 j1 R E
noncomputable def c97 : Code := Tryd.f97.body.getD .skip
def h97 : Hint := (.seq .none (.seq .none (.cut [5] (.seq .none (.block (.loop [5, 10] (.seq .none (.seq (.cond .none .none) (.seq (.block (.seq .none .none)) .none)))))) (.seq .none .none))))
theorem f2X (x0 x1 : Value) (w : World) (R : Value → World → Prop) (E : Pan) : F97 x0 x1 w R E = callX Tryd.prog [.tmp 4] c97 h97 [x0, x1] w R E := by kernel_rfl
theorem f2Y {x0 x1 : Value} {w : World} {R : Value → World → Prop} {E : Pan} (h : F97 x0 x1 w R E) : Cv Tryd.prog 97 #[x0, x1] w R E := by
 refine i6 (args := [x0, x1]) (c := c97) (h := h97) (rs := [.tmp 4]) Tryd.func97 (by kernel_rfl) (by kernel_rfl) (Nat.le_of_ble_eq_true (by kernel_rfl)) (by kernel_rfl) (by kernel_rfl) (by kernel_rfl) ?_
 rw [← f2X]
 exact h
def F98 (x0 : Value) (w : World) (R : Value → World → Prop) (E : Pan) : Prop :=
 opK Tryd.prog E (xV (Instr.box 88 x0)) w fun t7 w_2 =>
 opK Tryd.prog E (xV (Instr.loadAt 88 t7)) w_2 fun T8 w_4 =>
 opK Tryd.prog E (xV (Instr.build 177 #[(0, T8)])) w_4 fun a3k w_6 =>
 opK Tryd.prog E (xV (Instr.makeInterface 177 a3k)) w_6 fun a5K w_8 =>
 R a5K w_8
noncomputable def c98 : Code := Tryd.f98.body.getD .skip
def h98 : Hint := (.seq .none (.seq .none .none))
theorem f2Z (x0 : Value) (w : World) (R : Value → World → Prop) (E : Pan) : F98 x0 w R E = callX Tryd.prog [.tmp 2] c98 h98 [x0] w R E := by kernel_rfl
theorem f3a {x0 : Value} {w : World} {R : Value → World → Prop} {E : Pan} (h : F98 x0 w R E) : Cv Tryd.prog 98 #[x0] w R E := by
 refine i6 (args := [x0]) (c := c98) (h := h98) (rs := [.tmp 2]) Tryd.func98 (by kernel_rfl) (by kernel_rfl) (Nat.le_of_ble_eq_true (by kernel_rfl)) (by kernel_rfl) (by kernel_rfl) (by kernel_rfl) ?_
 rw [← f2Z]
 exact h
def d1X (x0 : Value) (w : World) (R : Value → World → Prop) (E : Pan) : Prop :=
 opK Tryd.prog E (xV (Instr.typeAssert x0 141 175 true)) w fun f3b w_2 =>
 opK Tryd.prog E (xV (Instr.extract f3b 1)) w_2 fun a5a w_4 =>
 opK Tryd.prog E (xV (Instr.extract f3b 0)) w_4 fun a2P w_6 =>
 xcond a5a
 (opK Tryd.prog E (xV (Instr.alloc 175 true (.tuple #[]))) w_6 fun f3c w_8 =>
 opK Tryd.prog E (xU (Instr.storeAt 175 f3c a2P)) w_8 fun _z_9 o2 =>
 opK Tryd.prog E (xV (Instr.fieldAt 175 f3c 0)) o2 fun b7e o7 =>
 opK Tryd.prog E (xV (Instr.fieldAt 67 b7e 0)) o7 fun c6K o8 =>
 opK Tryd.prog E (xV (Instr.loadAt 9 c6K)) o8 fun c1o p9 =>
 R (Value.tuple #[c1o, (Value.bool true)]) p9)
 (opK Tryd.prog E (xV (Instr.typeAssert x0 141 177 true)) w_6 fun a6J r5 =>
 opK Tryd.prog E (xV (Instr.extract a6J 1)) r5 fun c6L p7 =>
 opK Tryd.prog E (xV (Instr.extract a6J 0)) p7 fun c6M t1 =>
 xcond c6L
 (opK Tryd.prog E (xV (Instr.alloc 177 true (.tuple #[]))) t1 fun c5a t8 =>
 opK Tryd.prog E (xU (Instr.storeAt 177 c5a c6M)) t8 fun _z_25 v2 =>
 dX v2 fun a7U =>
 qP Tryd.prog (xV (Instr.fieldAt 177 c5a 0)) fun f3d =>
 qP Tryd.prog (xV (Instr.fieldAt 88 f3d 1)) fun c1h =>
 qP Tryd.prog (xV (Instr.fieldAt 177 c5a 0)) fun f3e =>
 qP Tryd.prog (xV (Instr.fieldAt 88 f3e 0)) fun b4B =>
 qL Tryd.prog a7U (blk c1h) (xV (Instr.loadAt 9 c1h)) fun f3f =>
 qL Tryd.prog a7U (blk b4B) (xV (Instr.loadAt 3 b4B)) fun f3g =>
 qP Tryd.prog (xBin .eql 3 (.tmp 22) (.const (Value.int .i64 1)) f3g (Value.int .i64 1)) fun b7q =>
 qP Tryd.prog (gsem (asB b7q) false (xV (Instr.fieldAt 177 c5a 0))) fun f3h =>
 qP Tryd.prog (gsem (asB b7q) false (xV (Instr.fieldAt 88 f3h 0))) fun d7a =>
 qL Tryd.prog a7U (blk d7a) (gsem (asB b7q) false (xV (Instr.loadAt 3 d7a))) fun c6t =>
 qP Tryd.prog (gsem (asB b7q) false (xBin .eql 3 (.tmp 27) (.const (Value.int .i64 2)) c6t (Value.int .i64 2))) fun f3i =>
 qP Tryd.prog (xPick b7q (Value.bool true) f3i) fun f3j =>
 R (Value.tuple #[f3f, f3j]) a7U)
 (opK Tryd.prog E (xV (Instr.typeAssert x0 141 96 true)) t1 fun d7b c2W =>
 opK Tryd.prog E (xV (Instr.extract d7b 1)) c2W fun c1p b7h =>
 opK Tryd.prog E (xV (Instr.extract d7b 0)) b7h fun f3k b3X =>
 xcond c1p
 (opK Tryd.prog E (xV (Instr.alloc 96 true (.tuple #[]))) b3X fun c5b a9R =>
 opK Tryd.prog E (xU (Instr.storeAt 96 c5b f3k)) a9R fun _z_48 b2a =>
 dX b2a fun G8 =>
 qP Tryd.prog (xV (Instr.fieldAt 96 c5b 0)) fun f3l =>
 qP Tryd.prog (xV (Instr.fieldAt 30 f3l 2)) fun d7c =>
 qP Tryd.prog (xV (Instr.fieldAt 96 c5b 0)) fun c6N =>
 qP Tryd.prog (xV (Instr.fieldAt 30 c6N 0)) fun d7d =>
 qL Tryd.prog G8 (blk d7c) (xV (Instr.loadAt 9 d7c)) fun f3m =>
 qL Tryd.prog G8 (blk d7d) (xV (Instr.loadAt 3 d7d)) fun f3n =>
 qP Tryd.prog (xBin .eql 3 (.tmp 38) (.const (Value.int .i64 2)) f3n (Value.int .i64 2)) fun b7r =>
 qP Tryd.prog (gsem (asB b7r) false (xV (Instr.fieldAt 96 c5b 0))) fun f3o =>
 qP Tryd.prog (gsem (asB b7r) false (xV (Instr.fieldAt 30 f3o 0))) fun d7e =>
 qL Tryd.prog G8 (blk d7e) (gsem (asB b7r) false (xV (Instr.loadAt 3 d7e))) fun f3p =>
 qP Tryd.prog (gsem (asB b7r) false (xBin .eql 3 (.tmp 43) (.const (Value.int .i64 4)) f3p (Value.int .i64 4))) fun f3q =>
 qP Tryd.prog (xPick b7r (Value.bool true) f3q) fun f3r =>
 R (Value.tuple #[f3m, f3r]) G8)
 (R (Value.tuple #[(Value.string ⟨#[]⟩), (Value.bool false)]) b3X)))
noncomputable def f3s : Code := Tryd.f114.body.getD .skip
def f3t : Hint := (.seq .none (.seq (.seq .none (.block (.seq .none (.cond (.seq .none (.seq .none .none)) (.seq .none (.cond (.seq .none (.seq (.reg [(0, 131072, 32), (1, 262144, 131072), (2, 524288, 262144), (0, 1048576, 32), (8, 2097152, 1048576), (16, 4194304, 2097152), (32, 8388608, 4194304), (64, 16777216, 8388608), (128, 33554432, 16777248), (384, 67108864, 50331648), (640, 134217728, 83886080), (1152, 268435456, 150994944), (2176, 536870912, 285212672), (135, 4, 524288), (16383, 8, 536870912)] [1060, 1060, 1056, 1060, 1060, 1028, 1060, 1060, 1060, 1060, 36, 1060, 1060, 1060, 1060] (.early 0 (.early 1 (.early 3 (.early 4 (.load 2 (.load 5 (.early 6 (.early 7 (.early 8 (.early 9 (.early 13 (.load 10 (.early 11 (.early 12 (.early 14 .done)))))))))))))))) .none)) (.seq .none (.cond (.seq .none (.seq (.reg [(0, 8589934592, 64), (1, 17179869184, 8589934592), (2, 34359738368, 17179869184), (0, 68719476736, 64), (8, 137438953472, 68719476736), (16, 274877906944, 137438953472), (32, 549755813888, 274877906944), (64, 1099511627776, 549755813888), (128, 2199023255552, 1099511627840), (384, 4398046511104, 3298534883328), (640, 8796093022208, 5497558138880), (1152, 17592186044416, 9895604649984), (2176, 35184372088832, 18691697672192), (135, 4, 34359738368), (16383, 8, 35184372088832)] [1060, 1060, 1056, 1060, 1060, 1028, 1060, 1060, 1060, 1060, 36, 1060, 1060, 1060, 1060] (.early 0 (.early 1 (.early 3 (.early 4 (.load 2 (.load 5 (.early 6 (.early 7 (.early 8 (.early 9 (.early 13 (.load 10 (.early 11 (.early 12 (.early 14 .done)))))))))))))))) .none)) .none)))))))) (.seq .none .none)))
theorem e5B (x0 : Value) (w : World) (R : Value → World → Prop) (E : Pan) : d1X x0 w R E = callX Tryd.prog [.tmp 2, .tmp 3] f3s f3t [x0] w R E := by kernel_rfl
theorem e5C {x0 : Value} {w : World} {R : Value → World → Prop} {E : Pan} (h : d1X x0 w R E) : Cv Tryd.prog 114 #[x0] w R E := by
 refine i6 (args := [x0]) (c := f3s) (h := f3t) (rs := [.tmp 2, .tmp 3]) Tryd.func114 (by kernel_rfl) (by kernel_rfl) (Nat.le_of_ble_eq_true (by kernel_rfl)) (by kernel_rfl) (by kernel_rfl) (by kernel_rfl) ?_
 rw [← e5B]
 exact h
def c2Z (w : World) (R : Value → World → Prop) (_E : Pan) : Prop :=
 ∀ _τ : Fr, (R (Value.bool true) w)
def d0N (x21 : Value) (w : World) (next2 : List Value → World → Prop) (j1 : List Value → World → Prop) (R : Value → World → Prop) (E : Pan) : Prop :=
 opK Tryd.prog E (xV (Instr.next x21 true 0)) w fun a7H t1 =>
 opK Tryd.prog E (xV (Instr.extract a7H 0)) t1 fun b7s t8 =>
 xcond b7s
 (opK Tryd.prog E (xV (Instr.extract a7H 1)) t8 fun f3u v2 =>
 opK Tryd.prog E (xV (Instr.extract a7H 2)) v2 fun d7f y7 =>
 opK Tryd.prog E (xCall (Value.func (.func 125) #[] #[]) [d7f]) y7 fun c6O A7 =>
 opK Tryd.prog E (xV (Op.unary .not c6O)) A7 fun b0E A4 =>
 opK Tryd.prog E (gsem (asB b0E) false (xBin .eql 3 (.tmp 30) (.const (Value.int .i64 0)) (gval (asB b0E) false f3u) (Value.int .i64 0))) A4 fun c1q A8 =>
 opK Tryd.prog E (gsem (asB (gval (asB b0E) false c1q)) true (xCall (Value.func (.func 126) #[] #[]) [(gval (asB (gval (asB b0E) false c1q)) true d7f)])) A8 fun f3v C9 =>
 opK Tryd.prog E (gsem (asB (gval (asB b0E) false c1q)) true (xBin .neq 3 (.tmp 34) (.const (Value.int .i64 3)) f3v (Value.int .i64 3))) C9 fun f3w C0 =>
 opK Tryd.prog E (gsem (asB b0E) false (xPick (gval (asB b0E) false c1q) f3w (Value.bool false))) C0 fun f3x D3 =>
 opK Tryd.prog E (xPick b0E (Value.bool true) f3x) D3 fun f3y E9 =>
 xcond f3y
 (R (Value.bool false) E9)
 (next2 [] E9))
 (j1 [] t8)
def d1Y (x0 : Value) (w : World) (R : Value → World → Prop) (E : Pan) : Prop :=
 opK Tryd.prog E (xBin .eql 9 (.tmp 5) (.const (Value.string ⟨#[]⟩)) x0 (Value.string ⟨#[]⟩)) w fun b0O w_2 =>
 opK Tryd.prog E (gsem (asB b0O) false (xCall (Value.func (.func 122) #[] #[]) [(gval (asB b0O) false x0)])) w_2 fun a5a w_4 =>
 opK Tryd.prog E (gsem (asB b0O) false (xV (Op.unary .not a5a))) w_4 fun a2P w_6 =>
 opK Tryd.prog E (xPick b0O (Value.bool true) a2P) w_6 fun c1r w_8 =>
 opK Tryd.prog E (gsem (asB c1r) false (xCall (Value.func (.func 123) #[] #[]) [(gval (asB c1r) false x0)])) w_8 fun a7j o2 =>
 opK Tryd.prog E (xPick c1r (Value.bool true) a7j) o2 fun b2b o7 =>
 opK Tryd.prog E (gsem (asB b2b) false (xCall (Value.func (.func 124) #[] #[]) [(gval (asB b2b) false x0)])) o7 fun a5v o8 =>
 opK Tryd.prog E (xPick b2b (Value.bool true) a5v) o8 fun a6m p9 =>
 xcond a6m
 (R (Value.bool false) p9)
 (xcut (fun _ r5 => c2Z r5 R E) fun j1 =>
 opK Tryd.prog E (xV (Instr.range 9 x0)) p9 fun b2f p7 =>
 xloop [] [] p7 fun _ E4 next2 =>
 d0N b2f E4 next2 j1 R E)
noncomputable def f3z : Code := Tryd.f115.body.getD .skip
def f3A : Hint := (.seq .none (.seq (.seq .none (.cond (.seq .none .none) .none)) (.cut [] (.seq .none (.block (.loop [] (.seq .none (.seq (.cond .none .none) (.block (.seq .none (.seq .none (.cond (.seq .none .none) .none))))))))) (.seq .none .none))))
theorem e5D (x0 : Value) (w : World) (R : Value → World → Prop) (E : Pan) : d1Y x0 w R E = callX Tryd.prog [.tmp 2] f3z f3A [x0] w R E := by kernel_rfl
theorem e5E {x0 : Value} {w : World} {R : Value → World → Prop} {E : Pan} (h : d1Y x0 w R E) : Cv Tryd.prog 115 #[x0] w R E := by
 refine i6 (args := [x0]) (c := f3z) (h := f3A) (rs := [.tmp 2]) Tryd.func115 (by kernel_rfl) (by kernel_rfl) (Nat.le_of_ble_eq_true (by kernel_rfl)) (by kernel_rfl) (by kernel_rfl) (by kernel_rfl) ?_
 rw [← e5D]
 exact h
def d1Z (x0 x1 : Value) (w : World) (R : Value → World → Prop) (E : Pan) : Prop :=
 opK Tryd.prog E (xCall (Value.func (.func 127) #[] #[]) [x0, x1]) w fun b5y w_2 =>
 opK Tryd.prog E (xBin .geq 3 (.tmp 7) (.const (Value.int .i64 0)) b5y (Value.int .i64 0)) w_2 fun b7t w_4 =>
 R b7t w_4
noncomputable def f3B : Code := Tryd.f116.body.getD .skip
def f3C : Hint := (.seq .none (.seq .none .none))
theorem e5F (x0 x1 : Value) (w : World) (R : Value → World → Prop) (E : Pan) : d1Z x0 x1 w R E = callX Tryd.prog [.tmp 4] f3B f3C [x0, x1] w R E := by kernel_rfl
theorem e5G {x0 x1 : Value} {w : World} {R : Value → World → Prop} {E : Pan} (h : d1Z x0 x1 w R E) : Cv Tryd.prog 116 #[x0, x1] w R E := by
 refine i6 (args := [x0, x1]) (c := f3B) (h := f3C) (rs := [.tmp 4]) Tryd.func116 (by kernel_rfl) (by kernel_rfl) (Nat.le_of_ble_eq_true (by kernel_rfl)) (by kernel_rfl) (by kernel_rfl) (by kernel_rfl) ?_
 rw [← e5F]
 exact h
def c3a (x0 : Value) (w : World) (R : Value → World → Prop) (_E : Pan) : Prop :=
 ∀ _τ : Fr, (R x0 w)
def d0O (x0 x1 : Value) (w : World) (R : Value → World → Prop) (E : Pan) : Prop :=
 ∀ _τ : Fr, (xcut (fun l_1 w_2 => c3a (nth l_1 0) w_2 R E) fun j2 =>
 opK Tryd.prog E (xBuiltin .cap #[97] 3 [false] [x0]) w fun b1j w_4 =>
 opK Tryd.prog E (xBuiltin .len #[97] 3 [false] [x0]) w_4 fun b1k w_6 =>
 opK Tryd.prog E (xBin .sub 3 (.tmp 10) (.tmp 12) b1j b1k) w_6 fun b5r w_8 =>
 opK Tryd.prog E (xBin .sub 3 (.tmp 8) (.tmp 13) x1 b5r) w_8 fun a7j o2 =>
 opK Tryd.prog E (xBin .gtr 3 (.tmp 15) (.const (Value.int .i64 0)) a7j (Value.int .i64 0)) o2 fun a1H o7 =>
 xcond a1H
 (opK Tryd.prog E (xBuiltin .cap #[97] 3 [false] [x0]) o7 fun f3D o8 =>
 opK Tryd.prog E (xV (Instr.sliceAt 97 x0 none (some f3D) none)) o8 fun b7u p9 =>
 opK Tryd.prog E (xBuiltin .append #[97, 3] 97 [false, false] [b7u, a7j]) p9 fun b7v r5 =>
 opK Tryd.prog E (xBuiltin .len #[97] 3 [false] [x0]) r5 fun b7w p7 =>
 opK Tryd.prog E (xV (Instr.sliceAt 97 b7v none (some b7w) none)) p7 fun c6P t1 =>
 j2 [c6P] t1)
 (j2 [x0] o7))
def d9E (x0 x1 : Value) (w : World) (R : Value → World → Prop) (E : Pan) : Prop :=
 xcut (fun _ t8 => d0O x0 x1 t8 R E) fun j1 =>
 opK Tryd.prog E (xBin .lss 3 (.tmp 5) (.const (Value.int .i64 0)) x1 (Value.int .i64 0)) w fun g6h v2 =>
 xcond g6h
 (opK Tryd.prog E (xV (Instr.makeInterface 9 (Value.string ⟨#[99, 97, 110, 110, 111, 116, 32, 98, 101, 32, 110, 101, 103, 97, 116, 105, 118, 101]⟩))) v2 fun c1s y7 =>
 opK Tryd.prog E (xV (Instr.panic c1s)) y7 fun _z_29 A7 =>
 j1 [] A7)
 (j1 [] v2)
noncomputable def f3E : Code := Tryd.f120.body.getD .skip
def f3F : Hint := (.seq .none (.cut [] (.seq .none (.cond .none .none)) (.cut [0] (.seq .none (.seq .none (.cond .none .none))) (.seq .none .none))))
theorem e5H (x0 x1 : Value) (w : World) (R : Value → World → Prop) (E : Pan) : d9E x0 x1 w R E = callX Tryd.prog [.tmp 4] f3E f3F [x0, x1] w R E := by kernel_rfl
theorem e5I {x0 x1 : Value} {w : World} {R : Value → World → Prop} {E : Pan} (h : d9E x0 x1 w R E) : Cv Tryd.prog 120 #[x0, x1] w R E := by
 refine i6 (args := [x0, x1]) (c := f3E) (h := f3F) (rs := [.tmp 4]) Tryd.func120 (by kernel_rfl) (by kernel_rfl) (Nat.le_of_ble_eq_true (by kernel_rfl)) (by kernel_rfl) (by kernel_rfl) (by kernel_rfl) ?_
 rw [← e5H]
 exact h
def d2a (x0 : Value) (w : World) (R : Value → World → Prop) (E : Pan) : Prop :=
 opK Tryd.prog E (xCall (Value.func (.func 130) #[] #[]) [x0]) w fun a9P w_2 =>
 opK Tryd.prog E (xBin .gtr 3 (.tmp 4) (.const (Value.int .i64 32)) a9P (Value.int .i64 32)) w_2 fun b2g w_4 =>
 R b2g w_4
noncomputable def f3G : Code := Tryd.f123.body.getD .skip
def f3H : Hint := (.seq .none (.seq .none .none))
theorem e5J (x0 : Value) (w : World) (R : Value → World → Prop) (E : Pan) : d2a x0 w R E = callX Tryd.prog [.tmp 2] f3G f3H [x0] w R E := by kernel_rfl
theorem e5K {x0 : Value} {w : World} {R : Value → World → Prop} {E : Pan} (h : d2a x0 w R E) : Cv Tryd.prog 123 #[x0] w R E := by
 refine i6 (args := [x0]) (c := f3G) (h := f3H) (rs := [.tmp 2]) Tryd.func123 (by kernel_rfl) (by kernel_rfl) (Nat.le_of_ble_eq_true (by kernel_rfl)) (by kernel_rfl) (by kernel_rfl) (by kernel_rfl) ?_
 rw [← e5J]
 exact h
def c3b (x4 : Value) (w : World) (R : Value → World → Prop) (_E : Pan) : Prop :=
 ∀ _τ : Fr, (xcond x4
 (R (Value.bool true) w)
 (R (Value.bool false) w))
def d2b (x0 : Value) (w : World) (R : Value → World → Prop) (E : Pan) : Prop :=
 xcut (fun l_1 w_2 => c3b (nth l_1 0) w_2 R E) fun j1 =>
 opK Tryd.prog E (xBin .eql 9 (.tmp 3) (.const (Value.string ⟨#[118, 97, 114]⟩)) x0 (Value.string ⟨#[118, 97, 114]⟩)) w fun b2g w_4 =>
 xcond b2g
 (j1 [b2g] w_4)
 (opK Tryd.prog E (xBin .eql 9 (.tmp 3) (.const (Value.string ⟨#[97, 114, 114, 97, 121]⟩)) x0 (Value.string ⟨#[97, 114, 114, 97, 121]⟩)) w_4 fun a5N w_6 =>
 xcond a5N
 (j1 [a5N] w_6)
 (opK Tryd.prog E (xBin .eql 9 (.tmp 3) (.const (Value.string ⟨#[105, 102]⟩)) x0 (Value.string ⟨#[105, 102]⟩)) w_6 fun a9S w_8 =>
 xcond a9S
 (j1 [a9S] w_8)
 (opK Tryd.prog E (xBin .eql 9 (.tmp 3) (.const (Value.string ⟨#[101, 108, 115, 101]⟩)) x0 (Value.string ⟨#[101, 108, 115, 101]⟩)) w_8 fun a7w o2 =>
 xcond a7w
 (j1 [a7w] o2)
 (opK Tryd.prog E (xBin .eql 9 (.tmp 3) (.const (Value.string ⟨#[119, 104, 105, 108, 101]⟩)) x0 (Value.string ⟨#[119, 104, 105, 108, 101]⟩)) o2 fun a7l o7 =>
 xcond a7l
 (j1 [a7l] o7)
 (opK Tryd.prog E (xBin .eql 9 (.tmp 3) (.const (Value.string ⟨#[97, 115, 115, 101, 114, 116]⟩)) x0 (Value.string ⟨#[97, 115, 115, 101, 114, 116]⟩)) o7 fun a8K o8 =>
 xcond a8K
 (j1 [a8K] o8)
 (opK Tryd.prog E (xBin .eql 9 (.tmp 3) (.const (Value.string ⟨#[97, 115, 115, 117, 109, 101]⟩)) x0 (Value.string ⟨#[97, 115, 115, 117, 109, 101]⟩)) o8 fun a8L p9 =>
 xcond a8L
 (j1 [a8L] p9)
 (opK Tryd.prog E (xBin .eql 9 (.tmp 3) (.const (Value.string ⟨#[115, 107, 105, 112]⟩)) x0 (Value.string ⟨#[115, 107, 105, 112]⟩)) p9 fun a6Q r5 =>
 xcond a6Q
 (j1 [a6Q] r5)
 (opK Tryd.prog E (xBin .eql 9 (.tmp 3) (.const (Value.string ⟨#[105, 110, 112, 117, 116]⟩)) x0 (Value.string ⟨#[105, 110, 112, 117, 116]⟩)) r5 fun a6R p7 =>
 xcond a6R
 (j1 [a6R] p7)
 (opK Tryd.prog E (xBin .eql 9 (.tmp 3) (.const (Value.string ⟨#[116, 114, 117, 101]⟩)) x0 (Value.string ⟨#[116, 114, 117, 101]⟩)) p7 fun b2h t1 =>
 xcond b2h
 (j1 [b2h] t1)
 (opK Tryd.prog E (xBin .eql 9 (.tmp 3) (.const (Value.string ⟨#[102, 97, 108, 115, 101]⟩)) x0 (Value.string ⟨#[102, 97, 108, 115, 101]⟩)) t1 fun c6Q t8 =>
 j1 [c6Q] t8))))))))))
noncomputable def f3I : Code := Tryd.f124.body.getD .skip
def f3J : Hint := (.seq .none (.seq (.seq .none (.block (.cut [4] (.seq .none (.cond .none (.seq .none (.cond .none (.seq .none (.cond .none (.seq .none (.cond .none (.seq .none (.cond .none (.seq .none (.cond .none (.seq .none (.cond .none (.seq .none (.cond .none (.seq .none (.cond .none (.seq .none (.cond .none .none)))))))))))))))))))) (.cond (.seq .none .none) .none)))) (.seq .none .none)))
theorem e5L (x0 : Value) (w : World) (R : Value → World → Prop) (E : Pan) : d2b x0 w R E = callX Tryd.prog [.tmp 2] f3I f3J [x0] w R E := by kernel_rfl
theorem e5M {x0 : Value} {w : World} {R : Value → World → Prop} {E : Pan} (h : d2b x0 w R E) : Cv Tryd.prog 124 #[x0] w R E := by
 refine i6 (args := [x0]) (c := f3I) (h := f3J) (rs := [.tmp 2]) Tryd.func124 (by kernel_rfl) (by kernel_rfl) (Nat.le_of_ble_eq_true (by kernel_rfl)) (by kernel_rfl) (by kernel_rfl) (by kernel_rfl) ?_
 rw [← e5L]
 exact h
def d2c (x0 : Value) (w : World) (R : Value → World → Prop) (E : Pan) : Prop :=
 opK Tryd.prog E (xCall (Value.func (.func 126) #[] #[]) [x0]) w fun f3K w_2 =>
 opK Tryd.prog E (xBin .eql 3 (.tmp 6) (.const (Value.int .i64 3)) f3K (Value.int .i64 3)) w_2 fun a9O w_4 =>
 opK Tryd.prog E (gsem (asB a9O) false (xBin .eql 3 (.tmp 9) (.const (Value.int .i64 4)) (gval (asB a9O) false f3K) (Value.int .i64 4))) w_4 fun a2P w_6 =>
 opK Tryd.prog E (xPick a9O (Value.bool true) a2P) w_6 fun c1r w_8 =>
 R c1r w_8
noncomputable def f3L : Code := Tryd.f125.body.getD .skip
def f3M : Hint := (.seq .none (.seq .none (.seq .none .none)))
theorem e5N (x0 : Value) (w : World) (R : Value → World → Prop) (E : Pan) : d2c x0 w R E = callX Tryd.prog [.tmp 2] f3L f3M [x0] w R E := by kernel_rfl
theorem e5O {x0 : Value} {w : World} {R : Value → World → Prop} {E : Pan} (h : d2c x0 w R E) : Cv Tryd.prog 125 #[x0] w R E := by
 refine i6 (args := [x0]) (c := f3L) (h := f3M) (rs := [.tmp 2]) Tryd.func125 (by kernel_rfl) (by kernel_rfl) (Nat.le_of_ble_eq_true (by kernel_rfl)) (by kernel_rfl) (by kernel_rfl) (by kernel_rfl) ?_
 rw [← e5N]
 exact h
def c3c (x39 : Value) (w : World) (R : Value → World → Prop) (_E : Pan) : Prop :=
 ∀ _τ : Fr, (xcond x39
 (R (Value.int .i64 3) w)
 (R (Value.int .i64 6) w))
def c3d (x1 x31 : Value) (w : World) (R : Value → World → Prop) (E : Pan) : Prop :=
 ∀ _τ : Fr, (xcond x31
 (R (Value.int .i64 6) w)
 (opK Tryd.prog E (xV (Instr.makeFunc (.func 131) #[] #[x1])) w fun b8C w_8 =>
 opK Tryd.prog E (xCall b8C [(Value.int .i32 48), (Value.int .i32 57)]) w_8 fun g6i o2 =>
 xcond g6i
 (R (Value.int .i64 4) o2)
 (xcut (fun b7x o7 => c3c (nth b7x 0) o7 R E) fun j4 =>
 opK Tryd.prog E (xV (Instr.loadAt 21 x1)) o2 fun f3N o8 =>
 opK Tryd.prog E (xBin .eql 21 (.tmp 40) (.const (Value.int .i32 95)) f3N (Value.int .i32 95)) o8 fun d7g p9 =>
 xcond d7g
 (j4 [d7g] p9)
 (opK Tryd.prog E (xCall b8C [(Value.int .i32 97), (Value.int .i32 122)]) p9 fun c1i r5 =>
 xcond c1i
 (j4 [c1i] r5)
 (opK Tryd.prog E (xCall b8C [(Value.int .i32 65), (Value.int .i32 90)]) r5 fun d7h p7 =>
 xcond d7h
 (j4 [d7h] p7)
 (opK Tryd.prog E (xCall b8C [(Value.int .i32 192), (Value.int .i32 591)]) p7 fun d7i t1 =>
 xcond d7i
 (j4 [d7i] t1)
 (opK Tryd.prog E (xCall b8C [(Value.int .i32 913), (Value.int .i32 969)]) t1 fun d7j t8 =>
 xcond d7j
 (j4 [d7j] t8)
 (opK Tryd.prog E (xCall b8C [(Value.int .i32 1040), (Value.int .i32 1103)]) t8 fun f3O v2 =>
 j4 [f3O] v2))))))))
def c3e (x1 x4 x11 : Value) (w : World) (R : Value → World → Prop) (E : Pan) : Prop :=
 ∀ _τ : Fr, (xcond x11
 (R (Value.int .i64 5) w)
 (xcut (fun b9G y7 => c3d x1 (nth b9G 0) y7 R E) fun j3 =>
 opK Tryd.prog E (xBin .eql 21 (.tmp 4) (.const (Value.int .i32 215)) x4 (Value.int .i32 215)) w fun b2i A7 =>
 xcond b2i
 (j3 [b2i] A7)
 (opK Tryd.prog E (xBin .eql 21 (.tmp 4) (.const (Value.int .i32 247)) x4 (Value.int .i32 247)) A7 fun d7k A4 =>
 xcond d7k
 (j3 [d7k] A4)
 (opK Tryd.prog E (xBin .eql 21 (.tmp 4) (.const (Value.int .i32 930)) x4 (Value.int .i32 930)) A4 fun f3P A8 =>
 j3 [f3P] A8))))
def c3f (x1 x4 x5 : Value) (w : World) (R : Value → World → Prop) (E : Pan) : Prop :=
 ∀ _τ : Fr, (xcond x5
 (R (Value.int .i64 1) w)
 (opK Tryd.prog E (xBin .eql 21 (.tmp 4) (.const (Value.int .i32 10)) x4 (Value.int .i32 10)) w fun a2P w_6 =>
 xcond a2P
 (R (Value.int .i64 2) w_6)
 (xcut (fun b7y C9 => c3e x1 x4 (nth b7y 0) C9 R E) fun j2 =>
 opK Tryd.prog E (xBin .eql 21 (.tmp 4) (.const (Value.int .i32 59)) x4 (Value.int .i32 59)) w_6 fun d7l C0 =>
 xcond d7l
 (j2 [d7l] C0)
 (opK Tryd.prog E (xBin .eql 21 (.tmp 4) (.const (Value.int .i32 44)) x4 (Value.int .i32 44)) C0 fun d7m D3 =>
 xcond d7m
 (j2 [d7m] D3)
 (opK Tryd.prog E (xBin .eql 21 (.tmp 4) (.const (Value.int .i32 123)) x4 (Value.int .i32 123)) D3 fun d7n E9 =>
 xcond d7n
 (j2 [d7n] E9)
 (opK Tryd.prog E (xBin .eql 21 (.tmp 4) (.const (Value.int .i32 125)) x4 (Value.int .i32 125)) E9 fun c1t E4 =>
 xcond c1t
 (j2 [c1t] E4)
 (opK Tryd.prog E (xBin .eql 21 (.tmp 4) (.const (Value.int .i32 40)) x4 (Value.int .i32 40)) E4 fun b4C K8 =>
 xcond b4C
 (j2 [b4C] K8)
 (opK Tryd.prog E (xBin .eql 21 (.tmp 4) (.const (Value.int .i32 41)) x4 (Value.int .i32 41)) K8 fun c1u J7 =>
 xcond c1u
 (j2 [c1u] J7)
 (opK Tryd.prog E (xBin .eql 21 (.tmp 4) (.const (Value.int .i32 91)) x4 (Value.int .i32 91)) J7 fun b4D G8 =>
 xcond b4D
 (j2 [b4D] G8)
 (opK Tryd.prog E (xBin .eql 21 (.tmp 4) (.const (Value.int .i32 93)) x4 (Value.int .i32 93)) G8 fun b4t K5 =>
 xcond b4t
 (j2 [b4t] K5)
 (opK Tryd.prog E (xBin .eql 21 (.tmp 4) (.const (Value.int .i32 61)) x4 (Value.int .i32 61)) K5 fun b4u M3 =>
 xcond b4u
 (j2 [b4u] M3)
 (opK Tryd.prog E (xBin .eql 21 (.tmp 4) (.const (Value.int .i32 33)) x4 (Value.int .i32 33)) M3 fun b4v M7 =>
 xcond b4v
 (j2 [b4v] M7)
 (opK Tryd.prog E (xBin .eql 21 (.tmp 4) (.const (Value.int .i32 60)) x4 (Value.int .i32 60)) M7 fun b4w M8 =>
 xcond b4w
 (j2 [b4w] M8)
 (opK Tryd.prog E (xBin .eql 21 (.tmp 4) (.const (Value.int .i32 62)) x4 (Value.int .i32 62)) M8 fun c1j P8 =>
 xcond c1j
 (j2 [c1j] P8)
 (opK Tryd.prog E (xBin .eql 21 (.tmp 4) (.const (Value.int .i32 43)) x4 (Value.int .i32 43)) P8 fun d7o T9 =>
 xcond d7o
 (j2 [d7o] T9)
 (opK Tryd.prog E (xBin .eql 21 (.tmp 4) (.const (Value.int .i32 45)) x4 (Value.int .i32 45)) T9 fun d7p Q2 =>
 xcond d7p
 (j2 [d7p] Q2)
 (opK Tryd.prog E (xBin .eql 21 (.tmp 4) (.const (Value.int .i32 42)) x4 (Value.int .i32 42)) Q2 fun d7q U0 =>
 xcond d7q
 (j2 [d7q] U0)
 (opK Tryd.prog E (xBin .eql 21 (.tmp 4) (.const (Value.int .i32 47)) x4 (Value.int .i32 47)) U0 fun d7r a0d =>
 xcond d7r
 (j2 [d7r] a0d)
 (opK Tryd.prog E (xBin .eql 21 (.tmp 4) (.const (Value.int .i32 37)) x4 (Value.int .i32 37)) a0d fun d7s N1 =>
 xcond d7s
 (j2 [d7s] N1)
 (opK Tryd.prog E (xBin .eql 21 (.tmp 4) (.const (Value.int .i32 38)) x4 (Value.int .i32 38)) N1 fun d7t W0 =>
 xcond d7t
 (j2 [d7t] W0)
 (opK Tryd.prog E (xBin .eql 21 (.tmp 4) (.const (Value.int .i32 124)) x4 (Value.int .i32 124)) W0 fun c6R a0e =>
 j2 [c6R] a0e)))))))))))))))))))))
def d2d (x0 : Value) (w : World) (R : Value → World → Prop) (E : Pan) : Prop :=
 opK Tryd.prog E (xV (Instr.box 21 x0)) w fun t7 w_2 =>
 opK Tryd.prog E (xV (Instr.loadAt 21 t7)) w_2 fun b3Y w_4 =>
 xcut (fun h0U Z7 => c3f t7 b3Y (nth h0U 0) Z7 R E) fun j1 =>
 opK Tryd.prog E (xBin .eql 21 (.tmp 4) (.const (Value.int .i32 32)) b3Y (Value.int .i32 32)) w_4 fun e3G W8 =>
 xcond e3G
 (j1 [e3G] W8)
 (opK Tryd.prog E (xBin .eql 21 (.tmp 4) (.const (Value.int .i32 9)) b3Y (Value.int .i32 9)) W8 fun e3H a2v =>
 xcond e3H
 (j1 [e3H] a2v)
 (opK Tryd.prog E (xBin .eql 21 (.tmp 4) (.const (Value.int .i32 13)) b3Y (Value.int .i32 13)) a2v fun g6j a2U =>
 j1 [g6j] a2U))
noncomputable def f3Q : Code := Tryd.f126.body.getD .skip
def f3R : Hint := (.seq .none (.seq (.seq .none (.block (.cut [5] (.seq .none (.cond .none (.seq .none (.cond .none .none)))) (.cond (.seq .none .none) (.seq .none (.cond (.seq .none .none) (.cut [11] (.seq .none (.cond .none (.seq .none (.cond .none (.seq .none (.cond .none (.seq .none (.cond .none (.seq .none (.cond .none (.seq .none (.cond .none (.seq .none (.cond .none (.seq .none (.cond .none (.seq .none (.cond .none (.seq .none (.cond .none (.seq .none (.cond .none (.seq .none (.cond .none (.seq .none (.cond .none (.seq .none (.cond .none (.seq .none (.cond .none (.seq .none (.cond .none (.seq .none (.cond .none (.seq .none (.cond .none .none)))))))))))))))))))))))))))))))))))) (.cond (.seq .none .none) (.cut [31] (.seq .none (.cond .none (.seq .none (.cond .none .none)))) (.cond (.seq .none .none) .none)))))))))) (.seq .none (.seq (.block (.seq .none (.cond (.seq .none .none) (.cut [39] (.seq .none (.cond .none (.seq .none (.cond .none (.seq .none (.cond .none (.seq .none (.cond .none (.seq .none (.cond .none .none)))))))))) (.cond (.seq .none .none) .none))))) (.seq .none .none)))))
theorem e5P (x0 : Value) (w : World) (R : Value → World → Prop) (E : Pan) : d2d x0 w R E = callX Tryd.prog [.tmp 2] f3Q f3R [x0] w R E := by kernel_rfl
theorem e5Q {x0 : Value} {w : World} {R : Value → World → Prop} {E : Pan} (h : d2d x0 w R E) : Cv Tryd.prog 126 #[x0] w R E := by
 refine i6 (args := [x0]) (c := f3Q) (h := f3R) (rs := [.tmp 2]) Tryd.func126 (by kernel_rfl) (by kernel_rfl) (Nat.le_of_ble_eq_true (by kernel_rfl)) (by kernel_rfl) (by kernel_rfl) (by kernel_rfl) ?_
 rw [← e5P]
 exact h
def c3g (w : World) (R : Value → World → Prop) (_E : Pan) : Prop :=
 ∀ _τ : Fr, (R (Value.int .i64 (-1)) w)
def d0P (x0 x1 x7 x8 : Value) (w : World) (next2 : List Value → World → Prop) (j1 : List Value → World → Prop) (R : Value → World → Prop) (E : Pan) : Prop :=
 opK Tryd.prog E (xBin .lss 3 (.tmp 8) (.tmp 7) x8 x7) w fun b9H w_6 =>
 xcond b9H
 (opK Tryd.prog E (xV (Instr.indexAt 47 x0 x8)) w_6 fun b1n w_8 =>
 opK Tryd.prog E (xV (Instr.loadAt 9 b1n)) w_8 fun b0x o2 =>
 opK Tryd.prog E (xBin .eql 9 (.tmp 11) (.tmp 15) x1 b0x) o2 fun a1H o7 =>
 xcond a1H
 (R x8 o7)
 (opK Tryd.prog E (xBin .add 3 (.tmp 8) (.const (Value.int .i64 1)) x8 (Value.int .i64 1)) o7 fun a5v o8 =>
 next2 [a5v] o8))
 (j1 [] w_6)
def d2e (x0 x1 : Value) (w : World) (R : Value → World → Prop) (E : Pan) : Prop :=
 xcut (fun _ w_2 => c3g w_2 R E) fun j1 =>
 opK Tryd.prog E (xBuiltin .len #[47] 3 [false] [x0]) w fun a9O w_4 =>
 xloop [8] [(Value.int .i64 0)] w_4 fun τ_15 p9 next2 =>
 d0P x0 x1 a9O (τ_15 8) p9 next2 j1 R E
noncomputable def f3S : Code := Tryd.f127.body.getD .skip
def f3T : Hint := (.seq .none (.cut [] (.seq .none (.block (.loop [8] (.seq .none (.seq (.cond .none .none) (.seq (.block (.seq .none (.seq .none (.cond (.seq .none .none) .none)))) .none)))))) (.seq .none .none)))
theorem e5R (x0 x1 : Value) (w : World) (R : Value → World → Prop) (E : Pan) : d2e x0 x1 w R E = callX Tryd.prog [.tmp 4] f3S f3T [x0, x1] w R E := by kernel_rfl
theorem e5S {x0 x1 : Value} {w : World} {R : Value → World → Prop} {E : Pan} (h : d2e x0 x1 w R E) : Cv Tryd.prog 127 #[x0, x1] w R E := by
 refine i6 (args := [x0, x1]) (c := f3S) (h := f3T) (rs := [.tmp 4]) Tryd.func127 (by kernel_rfl) (by kernel_rfl) (Nat.le_of_ble_eq_true (by kernel_rfl)) (by kernel_rfl) (by kernel_rfl) (by kernel_rfl) ?_
 rw [← e5R]
 exact h
def c3h (x2 : Value) (w : World) (R : Value → World → Prop) (_E : Pan) : Prop :=
 ∀ _τ : Fr, (R x2 w)
def d0Q (x2 x4 : Value) (w : World) (next2 : List Value → World → Prop) (j1 : List Value → World → Prop) (_R : Value → World → Prop) (E : Pan) : Prop :=
 opK Tryd.prog E (xV (Instr.next x4 true 0)) w fun c3i w_6 =>
 opK Tryd.prog E (xV (Instr.extract c3i 0)) w_6 fun c6S w_8 =>
 xcond c6S
 (opK Tryd.prog E (xBin .add 3 (.tmp 7) (.const (Value.int .i64 1)) x2 (Value.int .i64 1)) w_8 fun a7w o2 =>
 next2 [a7w] o2)
 (j1 [x2] w_8)
def d2f (x0 : Value) (w : World) (R : Value → World → Prop) (E : Pan) : Prop :=
 xcut (fun l_1 w_2 => c3h (nth l_1 0) w_2 R E) fun j1 =>
 opK Tryd.prog E (xV (Instr.range 9 x0)) w fun b3Y w_4 =>
 xloop [2] [(Value.int .i64 0)] w_4 fun τ_11 o7 next2 =>
 d0Q (τ_11 2) b3Y o7 next2 j1 R E
noncomputable def f3U : Code := Tryd.f130.body.getD .skip
def f3V : Hint := (.seq .none (.cut [2] (.seq .none (.block (.loop [2] (.seq .none (.seq (.cond .none .none) (.block .none)))))) (.seq .none .none)))
theorem e5T (x0 : Value) (w : World) (R : Value → World → Prop) (E : Pan) : d2f x0 w R E = callX Tryd.prog [.tmp 2] f3U f3V [x0] w R E := by kernel_rfl
theorem e5U {x0 : Value} {w : World} {R : Value → World → Prop} {E : Pan} (h : d2f x0 w R E) : Cv Tryd.prog 130 #[x0] w R E := by
 refine i6 (args := [x0]) (c := f3U) (h := f3V) (rs := [.tmp 2]) Tryd.func130 (by kernel_rfl) (by kernel_rfl) (Nat.le_of_ble_eq_true (by kernel_rfl)) (by kernel_rfl) (by kernel_rfl) (by kernel_rfl) ?_
 rw [← e5T]
 exact h
def d2g (x0 x1 x2 : Value) (w : World) (R : Value → World → Prop) (E : Pan) : Prop :=
 opK Tryd.prog E (xV (Instr.loadAt 21 x2)) w fun b5y w_2 =>
 opK Tryd.prog E (xBin .leq 21 (.tmp 6) (.tmp 7) x0 b5y) w_2 fun b7t w_4 =>
 opK Tryd.prog E (gsem (asB b7t) true (xV (Instr.loadAt 21 x2))) w_4 fun a2P w_6 =>
 opK Tryd.prog E (gsem (asB b7t) true (xBin .leq 21 (.tmp 10) (.tmp 11) a2P (gval (asB b7t) true x1))) w_6 fun a3b w_8 =>
 opK Tryd.prog E (xPick b7t a3b (Value.bool false)) w_8 fun a2O o2 =>
 R a2O o2
noncomputable def f3W : Code := Tryd.f131.body.getD .skip
def f3X : Hint := (.seq .none (.seq .none .none))
theorem e5V (x0 x1 x2 : Value) (w : World) (R : Value → World → Prop) (E : Pan) : d2g x0 x1 x2 w R E = callX Tryd.prog [.tmp 5] f3W f3X [x0, x1, x2] w R E := by kernel_rfl
theorem e5W {x0 x1 x2 : Value} {w : World} {R : Value → World → Prop} {E : Pan} (h : d2g x0 x1 x2 w R E) : Cv Tryd.prog 131 #[x0, x1, x2] w R E := by
 refine i6 (args := [x0, x1, x2]) (c := f3W) (h := f3X) (rs := [.tmp 5]) Tryd.func131 (by kernel_rfl) (by kernel_rfl) (Nat.le_of_ble_eq_true (by kernel_rfl)) (by kernel_rfl) (by kernel_rfl) (by kernel_rfl) ?_
 rw [← e5V]
 exact h
def c3j (x3 x59 : Value) (w : World) (R : Value → World → Prop) (E : Pan) : Prop :=
 ∀ _τ : Fr, (xcond x59
 (opK Tryd.prog E (xBin .eql 3 (.tmp 65) (.const (Value.int .i64 2)) x3 (Value.int .i64 2)) w fun f3Y W8 =>
 R f3Y W8)
 (R (Value.bool false) w))
def c3k (x3 x38 x54 : Value) (w : World) (R : Value → World → Prop) (E : Pan) : Prop :=
 ∀ _τ : Fr, (xcond x54
 (opK Tryd.prog E (xBin .eql 3 (.tmp 57) (.const (Value.int .i64 1)) x3 (Value.int .i64 1)) w fun f3Z Z7 =>
 R f3Z Z7)
 (xcut (fun a8M a2v => c3j x3 (nth a8M 0) a2v R E) fun j3 =>
 opK Tryd.prog E (xBin .eql 3 (.tmp 38) (.const (Value.int .i64 6)) x38 (Value.int .i64 6)) w fun b2d a2U =>
 xcond b2d
 (j3 [b2d] a2U)
 (opK Tryd.prog E (xBin .eql 3 (.tmp 38) (.const (Value.int .i64 7)) x38 (Value.int .i64 7)) a2U fun d7u a3l =>
 xcond d7u
 (j3 [d7u] a3l)
 (opK Tryd.prog E (xBin .eql 3 (.tmp 38) (.const (Value.int .i64 8)) x38 (Value.int .i64 8)) a3l fun d7v a3m =>
 xcond d7v
 (j3 [d7v] a3m)
 (opK Tryd.prog E (xBin .eql 3 (.tmp 38) (.const (Value.int .i64 9)) x38 (Value.int .i64 9)) a3m fun d7w a2e =>
 xcond d7w
 (j3 [d7w] a2e)
 (opK Tryd.prog E (xBin .eql 3 (.tmp 38) (.const (Value.int .i64 10)) x38 (Value.int .i64 10)) a2e fun f4a a4B =>
 j3 [f4a] a4B))))))
def c3l (x3 x38 x49 : Value) (w : World) (R : Value → World → Prop) (E : Pan) : Prop :=
 ∀ _τ : Fr, (xcond x49
 (opK Tryd.prog E (xBin .eql 3 (.tmp 52) (.const (Value.int .i64 0)) x3 (Value.int .i64 0)) w fun b7l a0e =>
 R b7l a0e)
 (xcut (fun h0V a4C => c3k x3 x38 (nth h0V 0) a4C R E) fun j2 =>
 opK Tryd.prog E (xBin .eql 3 (.tmp 38) (.const (Value.int .i64 4)) x38 (Value.int .i64 4)) w fun d7x a4e =>
 xcond d7x
 (j2 [d7x] a4e)
 (opK Tryd.prog E (xBin .eql 3 (.tmp 38) (.const (Value.int .i64 5)) x38 (Value.int .i64 5)) a4e fun f4b a2V =>
 j2 [f4b] a2V)))
def d2h (x0 : Value) (w : World) (R : Value → World → Prop) (E : Pan) : Prop :=
 opK Tryd.prog E (xV (Instr.box 96 x0)) w fun t7 w_2 =>
 opK Tryd.prog E (xV (Instr.fieldAt 96 t7 0)) w_2 fun d9F w_4 =>
 opK Tryd.prog E (xV (Instr.fieldAt 30 d9F 3)) w_4 fun c6T w_6 =>
 opK Tryd.prog E (xV (Instr.loadAt 28 c6T)) w_6 fun b2j w_8 =>
 opK Tryd.prog E (xBuiltin .len #[28] 3 [false] [b2j]) w_8 fun b7z o2 =>
 opK Tryd.prog E (xV (Instr.loadAt 96 t7)) o2 fun b7e o7 =>
 opK Tryd.prog E (xV (Instr.makeInterface 96 b7e)) o7 fun c6K o8 =>
 opK Tryd.prog E (xCall (Value.func (.func 114) #[] #[]) [c6K]) o8 fun c1o p9 =>
 opK Tryd.prog E (xV (Instr.extract c1o 0)) p9 fun _t14_17 r5 =>
 opK Tryd.prog E (xV (Instr.extract c1o 1)) r5 fun c6L p7 =>
 opK Tryd.prog E (xV (Instr.fieldAt 96 t7 0)) p7 fun c6M t1 =>
 opK Tryd.prog E (xV (Instr.fieldAt 30 c6M 0)) t1 fun f4c t8 =>
 opK Tryd.prog E (xV (Instr.loadAt 3 f4c)) t8 fun f4d v2 =>
 opK Tryd.prog E (xBin .neq 3 (.tmp 18) (.const (Value.int .i64 1)) f4d (Value.int .i64 1)) v2 fun b7A y7 =>
 opK Tryd.prog E (gsem (asB b7A) true (xV (Instr.fieldAt 96 t7 0))) y7 fun f4e A7 =>
 opK Tryd.prog E (gsem (asB b7A) true (xV (Instr.fieldAt 30 f4e 1))) A7 fun f4f A4 =>
 opK Tryd.prog E (gsem (asB b7A) true (xV (Instr.loadAt 2 f4f))) A4 fun b7B A8 =>
 opK Tryd.prog E (gsem (asB b7A) true (xBin .neq 2 (.tmp 23) (.const (Value.int .i64 0)) b7B (Value.int .i64 0))) A8 fun b7C C9 =>
 opK Tryd.prog E (xPick b7A b7C (Value.bool false)) C9 fun a5w C0 =>
 opK Tryd.prog E (gsem (asB a5w) false (xV (Op.unary .not (gval (asB a5w) false c6L)))) C0 fun b2e D3 =>
 opK Tryd.prog E (gsem (asB (gval (asB a5w) false b2e)) true (xV (Instr.fieldAt 96 t7 0))) D3 fun f4g E9 =>
 opK Tryd.prog E (gsem (asB (gval (asB a5w) false b2e)) true (xV (Instr.fieldAt 30 f4g 2))) E9 fun f4h E4 =>
 opK Tryd.prog E (gsem (asB (gval (asB a5w) false b2e)) true (xV (Instr.loadAt 9 f4h))) E4 fun c6u K8 =>
 opK Tryd.prog E (gsem (asB (gval (asB a5w) false b2e)) true (xBin .neq 9 (.tmp 32) (.const (Value.string ⟨#[]⟩)) c6u (Value.string ⟨#[]⟩))) K8 fun c6v J7 =>
 opK Tryd.prog E (gsem (asB a5w) false (xPick (gval (asB a5w) false b2e) c6v (Value.bool false))) J7 fun c6w G8 =>
 opK Tryd.prog E (xPick a5w (Value.bool true) c6w) G8 fun f4i K5 =>
 xcond f4i
 (R (Value.bool false) K5)
 (opK Tryd.prog E (xV (Instr.fieldAt 96 t7 0)) K5 fun c6N M3 =>
 opK Tryd.prog E (xV (Instr.fieldAt 30 c6N 0)) M3 fun f4j M7 =>
 opK Tryd.prog E (xV (Instr.loadAt 3 f4j)) M7 fun c1v M8 =>
 opK Tryd.prog E (xBin .eql 3 (.tmp 38) (.const (Value.int .i64 1)) c1v (Value.int .i64 1)) M8 fun f4k P8 =>
 xcond f4k
 (opK Tryd.prog E (xV (Instr.fieldAt 96 t7 0)) P8 fun f4l T9 =>
 opK Tryd.prog E (xV (Instr.fieldAt 30 f4l 1)) T9 fun f4m Q2 =>
 opK Tryd.prog E (xV (Instr.loadAt 2 f4m)) Q2 fun f4n U0 =>
 opK Tryd.prog E (xBin .geq 2 (.tmp 43) (.const (Value.int .i64 0)) f4n (Value.int .i64 0)) U0 fun c6U a0d =>
 opK Tryd.prog E (gsem (asB c6U) true (xBin .eql 3 (.tmp 46) (.const (Value.int .i64 0)) (gval (asB c6U) true b7z) (Value.int .i64 0))) a0d fun c6V N1 =>
 opK Tryd.prog E (xPick c6U c6V (Value.bool false)) N1 fun c6W W0 =>
 R c6W W0)
 (xcut (fun f4o a4D => c3l b7z c1v (nth f4o 0) a4D R E) fun j1 =>
 opK Tryd.prog E (xBin .eql 3 (.tmp 38) (.const (Value.int .i64 2)) c1v (Value.int .i64 2)) P8 fun d7y a2i =>
 xcond d7y
 (j1 [d7y] a2i)
 (opK Tryd.prog E (xBin .eql 3 (.tmp 38) (.const (Value.int .i64 3)) c1v (Value.int .i64 3)) a2i fun e5X a1G =>
 j1 [e5X] a1G)))
noncomputable def f4p : Code := Tryd.f148.body.getD .skip
def f4q : Hint := (.seq .none (.seq .none (.seq .none (.seq (.seq .none (.cond (.seq .none .none) .none)) (.seq (.seq .none (.block (.seq .none (.cond (.seq .none .none) (.cut [49] (.seq .none (.cond .none .none)) (.cond (.seq .none .none) (.cut [54] (.seq .none (.cond .none .none)) (.cond (.seq .none .none) (.cut [59] (.seq .none (.cond .none (.seq .none (.cond .none (.seq .none (.cond .none (.seq .none (.cond .none .none)))))))) (.cond (.seq .none .none) .none)))))))))) (.seq .none .none))))))
theorem e5Y (x0 : Value) (w : World) (R : Value → World → Prop) (E : Pan) : d2h x0 w R E = callX Tryd.prog [.tmp 2] f4p f4q [x0] w R E := by kernel_rfl
theorem e5Z {x0 : Value} {w : World} {R : Value → World → Prop} {E : Pan} (h : d2h x0 w R E) : Cv Tryd.prog 148 #[x0] w R E := by
 refine i6 (args := [x0]) (c := f4p) (h := f4q) (rs := [.tmp 2]) Tryd.func148 (by kernel_rfl) (by kernel_rfl) (Nat.le_of_ble_eq_true (by kernel_rfl)) (by kernel_rfl) (by kernel_rfl) (by kernel_rfl) ?_
 rw [← e5Y]
 exact h
def d2i (x0 : Value) (w : World) (R : Value → World → Prop) (E : Pan) : Prop :=
 opK Tryd.prog E (xV (Instr.box 96 x0)) w fun t7 w_2 =>
 opK Tryd.prog E (xV (Instr.fieldAt 96 t7 0)) w_2 fun T8 w_4 =>
 opK Tryd.prog E (xV (Instr.fieldAt 30 T8 3)) w_4 fun a3k w_6 =>
 opK Tryd.prog E (xV (Instr.loadAt 28 a3k)) w_6 fun a5K w_8 =>
 opK Tryd.prog E (xCall (Value.func (.func 150) #[] #[]) [a5K, (Value.func (.func 151) #[] #[])]) w_8 fun b1Y o2 =>
 R b1Y o2
noncomputable def f4r : Code := Tryd.f149.body.getD .skip
def f4s : Hint := (.seq .none (.seq .none .none))
theorem e6a (x0 : Value) (w : World) (R : Value → World → Prop) (E : Pan) : d2i x0 w R E = callX Tryd.prog [.tmp 2] f4r f4s [x0] w R E := by kernel_rfl
theorem e6b {x0 : Value} {w : World} {R : Value → World → Prop} {E : Pan} (h : d2i x0 w R E) : Cv Tryd.prog 149 #[x0] w R E := by
 refine i6 (args := [x0]) (c := f4r) (h := f4s) (rs := [.tmp 2]) Tryd.func149 (by kernel_rfl) (by kernel_rfl) (Nat.le_of_ble_eq_true (by kernel_rfl)) (by kernel_rfl) (by kernel_rfl) (by kernel_rfl) ?_
 rw [← e6a]
 exact h
def c3m (x5 : Value) (w : World) (R : Value → World → Prop) (_E : Pan) : Prop :=
 ∀ _τ : Fr, (R x5 w)
def d0R (x1 x5 x8 x9 x10 : Value) (w : World) (next2 : List Value → World → Prop) (j1 : List Value → World → Prop) (_R : Value → World → Prop) (E : Pan) : Prop :=
 opK Tryd.prog E (xBin .lss 3 (.tmp 10) (.tmp 9) x10 x9) w fun a6A w_6 =>
 xcond a6A
 (opK Tryd.prog E (xV (Instr.indexAt 28 x8 x10)) w_6 fun a3b w_8 =>
 opK Tryd.prog E (xV (Instr.loadAt 30 a3b)) w_8 fun a2O o2 =>
 opK Tryd.prog E (xV (Instr.alloc 30 true (.tuple #[]))) o2 fun a5L o7 =>
 opK Tryd.prog E (xU (Instr.storeAt 30 a5L a2O)) o7 fun _z_13 o8 =>
 opK Tryd.prog E (xV (Instr.loadAt 30 a5L)) o8 fun a6L p9 =>
 opK Tryd.prog E (xCall x1 [a6L]) p9 fun a6M r5 =>
 opK Tryd.prog E (xV (Instr.buildSlice 97 1 #[(0, a6M)])) r5 fun a6N p7 =>
 opK Tryd.prog E (xBuiltin .append #[97, 97] 97 [false, false] [x5, a6N]) p7 fun a6O t1 =>
 opK Tryd.prog E (xBin .add 3 (.tmp 10) (.const (Value.int .i64 1)) x10 (Value.int .i64 1)) t1 fun a6P t8 =>
 next2 [a6O, a6P] t8)
 (j1 [x5] w_6)
def d2j (x0 x1 : Value) (w : World) (R : Value → World → Prop) (E : Pan) : Prop :=
 xcut (fun l_1 w_2 => c3m (nth l_1 0) w_2 R E) fun j1 =>
 opK Tryd.prog E (xBuiltin .len #[28] 3 [false] [x0]) w fun a5a w_4 =>
 xloop [5, 10] [(Value.slice none 0 0), (Value.int .i64 0)] w_4 fun τ_25 v2 next2 =>
 d0R x1 (τ_25 5) x0 a5a (τ_25 10) v2 next2 j1 R E
noncomputable def f4t : Code := Tryd.f150.body.getD .skip
def f4u : Hint := (.seq .none (.seq .none (.cut [5] (.seq .none (.block (.loop [5, 10] (.seq .none (.seq (.cond .none .none) (.seq (.block (.seq .none .none)) .none)))))) (.seq .none .none))))
theorem e6c (x0 x1 : Value) (w : World) (R : Value → World → Prop) (E : Pan) : d2j x0 x1 w R E = callX Tryd.prog [.tmp 4] f4t f4u [x0, x1] w R E := by kernel_rfl
theorem e6d {x0 x1 : Value} {w : World} {R : Value → World → Prop} {E : Pan} (h : d2j x0 x1 w R E) : Cv Tryd.prog 150 #[x0, x1] w R E := by
 refine i6 (args := [x0, x1]) (c := f4t) (h := f4u) (rs := [.tmp 4]) Tryd.func150 (by kernel_rfl) (by kernel_rfl) (Nat.le_of_ble_eq_true (by kernel_rfl)) (by kernel_rfl) (by kernel_rfl) (by kernel_rfl) ?_
 rw [← e6c]
 exact h
def d2k (x0 : Value) (w : World) (R : Value → World → Prop) (E : Pan) : Prop :=
 opK Tryd.prog E (xV (Instr.box 30 x0)) w fun t7 w_2 =>
 opK Tryd.prog E (xV (Instr.loadAt 30 t7)) w_2 fun T8 w_4 =>
 opK Tryd.prog E (xV (Instr.build 96 #[(0, T8)])) w_4 fun a3k w_6 =>
 opK Tryd.prog E (xV (Instr.makeInterface 96 a3k)) w_6 fun a5K w_8 =>
 R a5K w_8
noncomputable def f4v : Code := Tryd.f151.body.getD .skip
def f4w : Hint := (.seq .none (.seq .none .none))
theorem e6e (x0 : Value) (w : World) (R : Value → World → Prop) (E : Pan) : d2k x0 w R E = callX Tryd.prog [.tmp 2] f4v f4w [x0] w R E := by kernel_rfl
theorem e6f {x0 : Value} {w : World} {R : Value → World → Prop} {E : Pan} (h : d2k x0 w R E) : Cv Tryd.prog 151 #[x0] w R E := by
 refine i6 (args := [x0]) (c := f4v) (h := f4w) (rs := [.tmp 2]) Tryd.func151 (by kernel_rfl) (by kernel_rfl) (Nat.le_of_ble_eq_true (by kernel_rfl)) (by kernel_rfl) (by kernel_rfl) (by kernel_rfl) ?_
 rw [← e6e]
 exact h
def c3n (x3 x50 : Value) (w : World) (R : Value → World → Prop) (E : Pan) : Prop :=
 ∀ _τ : Fr, (xcond x50
 (opK Tryd.prog E (xV (Instr.loadAt 209 x3)) w fun f4x a2e =>
 opK Tryd.prog E (xV (Instr.build 209 #[(0, (Value.int .i64 0)), (1, (Value.int .i64 2))])) a2e fun f4y a4B =>
 opK Tryd.prog E (xBin .eql 209 (.tmp 53) (.tmp 54) f4x f4y) a4B fun f4z a4C =>
 R f4z a4C)
 (R (Value.bool false) w))
def c3o (x3 x38 x39 : Value) (w : World) (R : Value → World → Prop) (E : Pan) : Prop :=
 ∀ _τ : Fr, (xcond x39
 (opK Tryd.prog E (xV (Instr.loadAt 209 x3)) w fun f4A a0e =>
 opK Tryd.prog E (xV (Instr.build 209 #[])) a0e fun f4B Z7 =>
 opK Tryd.prog E (xBin .eql 209 (.tmp 42) (.tmp 43) f4A f4B) Z7 fun f4C W8 =>
 R f4C W8)
 (opK Tryd.prog E (xBin .eql 3 (.tmp 38) (.const (Value.int .i64 4)) x38 (Value.int .i64 4)) w fun f4D a2v =>
 xcond f4D
 (opK Tryd.prog E (xV (Instr.loadAt 209 x3)) a2v fun f4E a2U =>
 opK Tryd.prog E (xV (Instr.build 209 #[(0, (Value.int .i64 0)), (1, (Value.int .i64 1))])) a2U fun f4F a3l =>
 opK Tryd.prog E (xBin .eql 209 (.tmp 47) (.tmp 48) f4E f4F) a3l fun f4G a3m =>
 R f4G a3m)
 (xcut (fun c6X a4e => c3n x3 (nth c6X 0) a4e R E) fun j2 =>
 opK Tryd.prog E (xBin .eql 3 (.tmp 38) (.const (Value.int .i64 5)) x38 (Value.int .i64 5)) a2v fun d7z a2V =>
 xcond d7z
 (j2 [d7z] a2V)
 (opK Tryd.prog E (xBin .eql 3 (.tmp 38) (.const (Value.int .i64 6)) x38 (Value.int .i64 6)) a2V fun c6A a4D =>
 j2 [c6A] a4D))))
def d2l (x0 : Value) (w : World) (R : Value → World → Prop) (E : Pan) : Prop :=
 opK Tryd.prog E (xV (Instr.box 106 x0)) w fun t7 w_2 =>
 opK Tryd.prog E (xV (Instr.fieldAt 106 t7 0)) w_2 fun b3Y w_4 =>
 opK Tryd.prog E (xV (Instr.fieldAt 33 b3Y 2)) w_4 fun c3i w_6 =>
 opK Tryd.prog E (xV (Instr.loadAt 28 c3i)) w_6 fun c6S w_8 =>
 opK Tryd.prog E (xBuiltin .len #[28] 3 [false] [c6S]) w_8 fun d9G o2 =>
 opK Tryd.prog E (xV (Instr.fieldAt 106 t7 0)) o2 fun c1g o7 =>
 opK Tryd.prog E (xV (Instr.fieldAt 33 c1g 3)) o7 fun c1w o8 =>
 opK Tryd.prog E (xV (Instr.loadAt 31 c1w)) o8 fun c6Y p9 =>
 opK Tryd.prog E (xBuiltin .len #[31] 3 [false] [c6Y]) p9 fun c6Z r5 =>
 opK Tryd.prog E (xV (Instr.build 209 #[(0, d9G), (1, c6Z)])) r5 fun c7a p7 =>
 opK Tryd.prog E (xV (Instr.alloc 209 true (.tuple #[]))) p7 fun d2m t1 =>
 opK Tryd.prog E (xU (Instr.storeAt 209 d2m c7a)) t1 fun _z_23 t8 =>
 opK Tryd.prog E (xV (Instr.fieldAt 106 t7 0)) t8 fun f4H v2 =>
 opK Tryd.prog E (xV (Instr.fieldAt 33 f4H 0)) v2 fun f4I y7 =>
 opK Tryd.prog E (xV (Instr.loadAt 3 f4I)) y7 fun f4J A7 =>
 opK Tryd.prog E (xBin .eql 3 (.tmp 15) (.const (Value.int .i64 3)) f4J (Value.int .i64 3)) A7 fun f4K A4 =>
 xcond f4K
 (opK Tryd.prog E (xV (Instr.fieldAt 106 t7 0)) A4 fun c6H A8 =>
 opK Tryd.prog E (xV (Instr.fieldAt 33 c6H 1)) A8 fun b7p C9 =>
 opK Tryd.prog E (xV (Instr.loadAt 3 b7p)) C9 fun f4L C0 =>
 opK Tryd.prog E (xBin .geq 3 (.tmp 19) (.const (Value.int .i64 1)) f4L (Value.int .i64 1)) C0 fun b7D D3 =>
 opK Tryd.prog E (gsem (asB b7D) true (xV (Instr.fieldAt 106 t7 0))) D3 fun f4M E9 =>
 opK Tryd.prog E (gsem (asB b7D) true (xV (Instr.fieldAt 33 f4M 1))) E9 fun f4N E4 =>
 opK Tryd.prog E (gsem (asB b7D) true (xV (Instr.loadAt 3 f4N))) E4 fun f4O K8 =>
 opK Tryd.prog E (gsem (asB b7D) true (xBin .leq 3 (.tmp 24) (.const (Value.int .i64 6)) f4O (Value.int .i64 6))) K8 fun f4P J7 =>
 opK Tryd.prog E (xPick b7D f4P (Value.bool false)) J7 fun c1x G8 =>
 opK Tryd.prog E (gsem (asB c1x) true (xV (Instr.loadAt 209 d2m))) G8 fun b7E K5 =>
 opK Tryd.prog E (gsem (asB c1x) true (xV (Instr.build 209 #[(0, (Value.int .i64 2)), (1, (Value.int .i64 0))]))) K5 fun f4Q M3 =>
 opK Tryd.prog E (gsem (asB c1x) true (xBin .eql 209 (.tmp 28) (.tmp 29) b7E f4Q)) M3 fun f4R M7 =>
 opK Tryd.prog E (xPick c1x f4R (Value.bool false)) M7 fun f4S M8 =>
 R f4S M8)
 (opK Tryd.prog E (xV (Instr.fieldAt 106 t7 0)) A4 fun c7b P8 =>
 opK Tryd.prog E (xV (Instr.fieldAt 33 c7b 1)) P8 fun b4E T9 =>
 opK Tryd.prog E (xV (Instr.loadAt 3 b4E)) T9 fun b7F Q2 =>
 opK Tryd.prog E (xBin .neq 3 (.tmp 34) (.const (Value.int .i64 0)) b7F (Value.int .i64 0)) Q2 fun f4T U0 =>
 xcond f4T
 (R (Value.bool false) U0)
 (opK Tryd.prog E (xV (Instr.fieldAt 106 t7 0)) U0 fun f4U a0d =>
 opK Tryd.prog E (xV (Instr.fieldAt 33 f4U 0)) a0d fun f4V N1 =>
 opK Tryd.prog E (xV (Instr.loadAt 3 f4V)) N1 fun c7c W0 =>
 xcut (fun d9H a2i => c3o d2m c7c (nth d9H 0) a2i R E) fun j1 =>
 opK Tryd.prog E (xBin .eql 3 (.tmp 38) (.const (Value.int .i64 1)) c7c (Value.int .i64 1)) W0 fun d0S a1G =>
 xcond d0S
 (j1 [d0S] a1G)
 (opK Tryd.prog E (xBin .eql 3 (.tmp 38) (.const (Value.int .i64 2)) c7c (Value.int .i64 2)) a1G fun e6g a3d =>
 j1 [e6g] a3d)))
noncomputable def f4W : Code := Tryd.f152.body.getD .skip
def f4X : Hint := (.seq .none (.seq .none (.seq (.seq .none (.cond (.seq .none .none) .none)) (.seq (.seq .none (.cond (.seq .none .none) .none)) (.seq (.seq .none (.block (.cut [39] (.seq .none (.cond .none .none)) (.cond (.seq .none .none) (.seq .none (.cond (.seq .none .none) (.cut [50] (.seq .none (.cond .none .none)) (.cond (.seq .none .none) .none)))))))) (.seq .none .none))))))
theorem e6h (x0 : Value) (w : World) (R : Value → World → Prop) (E : Pan) : d2l x0 w R E = callX Tryd.prog [.tmp 2] f4W f4X [x0] w R E := by kernel_rfl
theorem e6i {x0 : Value} {w : World} {R : Value → World → Prop} {E : Pan} (h : d2l x0 w R E) : Cv Tryd.prog 152 #[x0] w R E := by
 refine i6 (args := [x0]) (c := f4W) (h := f4X) (rs := [.tmp 2]) Tryd.func152 (by kernel_rfl) (by kernel_rfl) (Nat.le_of_ble_eq_true (by kernel_rfl)) (by kernel_rfl) (by kernel_rfl) (by kernel_rfl) ?_
 rw [← e6h]
 exact h
def d2n (x0 : Value) (w : World) (R : Value → World → Prop) (E : Pan) : Prop :=
 opK Tryd.prog E (xV (Instr.box 106 x0)) w fun t7 w_2 =>
 dX w_2 fun w_3 =>
 qP Tryd.prog (xV (Instr.fieldAt 106 t7 0)) fun c2Y =>
 qP Tryd.prog (xV (Instr.fieldAt 33 c2Y 2)) fun a3k =>
 qP Tryd.prog (xV (Instr.fieldAt 106 t7 0)) fun d9I =>
 qP Tryd.prog (xV (Instr.fieldAt 33 d9I 3)) fun b2j =>
 qL Tryd.prog w_3 (blk a3k) (xV (Instr.loadAt 28 a3k)) fun d9B =>
 qL Tryd.prog w_3 (blk b2j) (xV (Instr.loadAt 31 b2j)) fun b7z =>
 opK Tryd.prog E (xCall (Value.func (.func 150) #[] #[]) [d9B, (Value.func (.func 151) #[] #[])]) w_3 fun g6k a1j =>
 keepX [(blk b2j)] w_3 a1j (opK Tryd.prog E (xCall (Value.func (.func 154) #[] #[]) [b7z, (Value.func (.func 155) #[] #[])]) a1j fun c7d a0b =>
 keepX [] a1j a0b (opK Tryd.prog E (xV (Instr.buildSlice 172 2 #[(0, g6k), (1, c7d)])) a0b fun c7e a6u =>
 keepX [] a0b a6u (opK Tryd.prog E (xCall (Value.func (.func 94) #[] #[]) [c7e]) a6u fun f4Y a5M =>
 keepX [] a6u a5M (R f4Y a5M))))
noncomputable def f4Z : Code := Tryd.f153.body.getD .skip
def f5a : Hint := (.seq .none (.seq (.reg [(0, 8, 2), (1, 16, 8), (2, 32, 16), (4, 64, 32), (0, 128, 2), (16, 256, 128), (32, 512, 256), (72, 1024, 512), (136, 2048, 1088), (384, 4096, 2048), (1023, 4, 4096)] [68, 68, 64, 64, 68, 68, 4, 0, 0, 0, 68] (.early 0 (.early 1 (.early 4 (.early 5 (.load 2 (.load 6 (.step 3 (.step 7 (.step 8 (.step 9 (.early 10 .done)))))))))))) .none))
theorem e6j (x0 : Value) (w : World) (R : Value → World → Prop) (E : Pan) : d2n x0 w R E = callX Tryd.prog [.tmp 2] f4Z f5a [x0] w R E := by kernel_rfl
theorem e6k {x0 : Value} {w : World} {R : Value → World → Prop} {E : Pan} (h : d2n x0 w R E) : Cv Tryd.prog 153 #[x0] w R E := by
 refine i6 (args := [x0]) (c := f4Z) (h := f5a) (rs := [.tmp 2]) Tryd.func153 (by kernel_rfl) (by kernel_rfl) (Nat.le_of_ble_eq_true (by kernel_rfl)) (by kernel_rfl) (by kernel_rfl) (by kernel_rfl) ?_
 rw [← e6j]
 exact h
end Go.Proofs.YthldnpmfelniiaaDoor
