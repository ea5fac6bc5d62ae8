/- The second reading of some of the program's functions, printed by gen2.py off the code; each is held against the code by the kernel. -/
import Derived.Test.YthldnpmfelniiaaDoorProg
import Derived.Test.YthldnpmfelniiaaDoorzWK0
import Derived.KernelRfl
namespace Go.Proofs.YthldnpmfelniiaaDoor
open Go.RowKit
set_option maxRecDepth 100000
def F4 (x0 x1 : Value) (w : World) (R : Value → World → Prop) (E : Pan) : Prop :=
 opK Tryd.prog E (xV (Instr.box 30 x0)) w fun a4A w_2 =>
 opK Tryd.prog E (xV (Instr.box 33 x1)) w_2 fun T8 w_4 =>
 dX w_4 fun w_5 =>
 opK Tryd.prog E (xCall (Value.func (.func 14) #[] #[]) []) w_5 fun a6I w_7 =>
 keepX [] w_5 w_7 (qL Tryd.prog w_7 (blk a4A) (gsem (asB a6I) true (xV (Instr.loadAt 30 a4A))) fun c5U =>
 qL Tryd.prog w_7 (blk a4A) (gsem (asB a6I) true (xV (Instr.loadAt 30 a4A))) fun b7z =>
 opK Tryd.prog E (gsem (asB a6I) true (xCall (Value.func (.func 17) #[] #[]) [c5U])) w_7 fun d1V a1j =>
 keepX [(blk a4A)] w_7 a1j (opK Tryd.prog E (gsem (asB a6I) true (xCall (Value.func (.func 18) #[] #[]) [b7z])) a1j fun c7d a0b =>
 keepX [] a1j a0b (qP Tryd.prog (gsem (asB a6I) true (xBin .eql 3 (.tmp 8) (.tmp 10) d1V c7d)) fun c7e =>
 qP Tryd.prog (xPick a6I c7e (Value.bool false)) fun a6n =>
 qL Tryd.prog a0b (blk T8) (gsem (asB a6n) true (xV (Instr.loadAt 33 T8))) fun f6H =>
 qL Tryd.prog a0b (blk T8) (gsem (asB a6n) true (xV (Instr.loadAt 33 T8))) fun c6q =>
 opK Tryd.prog E (gsem (asB a6n) true (xCall (Value.func (.func 19) #[] #[]) [f6H])) a0b fun f6I a5b =>
 keepX [(blk T8)] a0b a5b (opK Tryd.prog E (gsem (asB a6n) true (xCall (Value.func (.func 20) #[] #[]) [c6q])) a5b fun f6J a9Q =>
 keepX [] a5b a9Q (qP Tryd.prog (gsem (asB a6n) true (xBin .eql 3 (.tmp 15) (.tmp 17) f6I f6J)) fun b7f =>
 qP Tryd.prog (xPick a6n b7f (Value.bool false)) fun b7m =>
 R b7m a9Q)))))
noncomputable def c4 : Code := Tryd.f4.body.getD .skip
def h4 : Hint := (.seq .none (.seq (.reg [(0, 32, 0), (1, 64, 32), (2, 128, 68), (6, 256, 192), (2, 512, 68), (26, 1024, 576), (42, 2048, 1344), (66, 4096, 2112), (160, 8192, 4096), (256, 16384, 8200), (768, 32768, 24576), (256, 65536, 8200), (3328, 131072, 73728), (5376, 262144, 172032), (8448, 524288, 270336), (32767, 16, 524288)] [0, 2580, 2576, 16, 2564, 0, 2580, 2580, 2580, 2068, 2048, 532, 0, 2580, 2580, 2580] (.step 0 (.early 1 (.load 2 (.load 4 (.step 3 (.step 5 (.early 6 (.early 7 (.early 8 (.load 9 (.load 11 (.step 10 (.step 12 (.early 13 (.early 14 (.early 15 .done))))))))))))))))) .none))
def c8a (x4 : Value) (w : World) (R : Value → World → Prop) (E : Pan) : Prop :=
 ∀ _τ : Fr, (opK Tryd.prog E (xV (Instr.loadAt 102 x4)) w fun f6K y7 =>
 opK Tryd.prog E (xCall (Value.func (.func 60) #[] #[]) [f6K]) y7 fun f6L A7 =>
 R f6L A7)
def d7P (x1 x4 x6 : Value) (w : World) (next3 : List Value → World → Prop) (j2 : List Value → World → Prop) (_R : Value → World → Prop) (E : Pan) : Prop :=
 opK Tryd.prog E (xV (Instr.fieldAt 25 x1 1)) w fun c8b A8 =>
 opK Tryd.prog E (xV (Instr.loadAt 23 c8b)) A8 fun c8c C9 =>
 opK Tryd.prog E (xBuiltin .len #[23] 3 [false] [c8c]) C9 fun c8d C0 =>
 opK Tryd.prog E (xBin .lss 3 (.tmp 50) (.tmp 53) x6 c8d) C0 fun b8c D3 =>
 opK Tryd.prog E (gsem (asB b8c) true (xV (Instr.fieldAt 102 x4 0))) D3 fun f6M E9 =>
 opK Tryd.prog E (gsem (asB b8c) true (xV (Instr.loadAt 4 f6M))) E9 fun f6N E4 =>
 opK Tryd.prog E (xPick b8c f6N (Value.bool false)) E4 fun f6O K8 =>
 xcond f6O
 (opK Tryd.prog E (xV (Instr.fieldAt 25 x1 1)) K8 fun f6P J7 =>
 opK Tryd.prog E (xV (Instr.loadAt 23 f6P)) J7 fun f6Q G8 =>
 opK Tryd.prog E (xV (Instr.indexAt 23 f6Q x6)) G8 fun f6R K5 =>
 opK Tryd.prog E (xV (Instr.loadAt 88 f6R)) K5 fun f6S M3 =>
 opK Tryd.prog E (xCall (Value.func (.func 65) #[] #[]) [x4, f6S]) M3 fun _t66_55 M7 =>
 opK Tryd.prog E (xBin .add 3 (.tmp 59) (.const (Value.int .i64 1)) x6 (Value.int .i64 1)) M7 fun c8e M8 =>
 next3 [c8e] M8)
 (j2 [] K8)
def c8f (x1 x4 : Value) (w : World) (R : Value → World → Prop) (E : Pan) : Prop :=
 ∀ _τ : Fr, (xcut (fun _ A4 => c8a x4 A4 R E) fun j2 =>
 xloop [6] [(Value.int .i64 0)] w fun τ_59 P8 next3 =>
 d7P x1 x4 (τ_59 6) P8 next3 j2 R E)
def d7Q (x1 x4 x5 : Value) (w : World) (next4 : List Value → World → Prop) (j1 : List Value → World → Prop) (_R : Value → World → Prop) (E : Pan) : Prop :=
 opK Tryd.prog E (xV (Instr.fieldAt 25 x1 0)) w fun f6T Q2 =>
 opK Tryd.prog E (xV (Instr.loadAt 22 f6T)) Q2 fun f6U U0 =>
 opK Tryd.prog E (xBuiltin .len #[22] 3 [false] [f6U]) U0 fun f6V a0d =>
 opK Tryd.prog E (xBin .lss 3 (.tmp 15) (.tmp 18) x5 f6V) a0d fun f6W N1 =>
 xcond f6W
 (opK Tryd.prog E (xV (Instr.fieldAt 102 x4 0)) N1 fun f6X W0 =>
 opK Tryd.prog E (xV (Instr.loadAt 4 f6X)) W0 fun b0J a0e =>
 opK Tryd.prog E (gsem (asB b0J) true (xV (Instr.fieldAt 25 x1 0))) a0e fun f6Y Z7 =>
 opK Tryd.prog E (gsem (asB b0J) true (xV (Instr.loadAt 22 f6Y))) Z7 fun f6Z W8 =>
 opK Tryd.prog E (gsem (asB b0J) true (xV (Instr.indexAt 22 f6Z (gval (asB b0J) true x5)))) W8 fun f7a a2v =>
 opK Tryd.prog E (gsem (asB b0J) true (xV (Instr.fieldAt 67 f7a 1))) a2v fun f7b a2U =>
 opK Tryd.prog E (gsem (asB b0J) true (xV (Instr.loadAt 3 f7b))) a2U fun f7c a3l =>
 opK Tryd.prog E (gsem (asB b0J) true (xBin .geq 3 (.tmp 30) (.const (Value.int .i64 0)) f7c (Value.int .i64 0))) a3l fun f7d a3m =>
 opK Tryd.prog E (xPick b0J f7d (Value.bool false)) a3m fun b0K a2e =>
 opK Tryd.prog E (gsem (asB b0K) true (xV (Instr.fieldAt 25 x1 0))) a2e fun f7e a4B =>
 opK Tryd.prog E (gsem (asB b0K) true (xV (Instr.loadAt 22 f7e))) a4B fun f7f a4C =>
 opK Tryd.prog E (gsem (asB b0K) true (xV (Instr.indexAt 22 f7f (gval (asB b0K) true x5)))) a4C fun f7g a4e =>
 opK Tryd.prog E (gsem (asB b0K) true (xV (Instr.fieldAt 67 f7g 1))) a4e fun f7h a2V =>
 opK Tryd.prog E (gsem (asB b0K) true (xV (Instr.loadAt 3 f7h))) a2V fun f7i a4D =>
 opK Tryd.prog E (gsem (asB b0K) true (xBin .leq 3 (.tmp 39) (.const (Value.int .i64 2147483647)) f7i (Value.int .i64 2147483647))) a4D fun f7j a2i =>
 opK Tryd.prog E (xPick b0K f7j (Value.bool false)) a2i fun e7h a1G =>
 opK Tryd.prog E (xV (Instr.fieldAt 102 x4 0)) a1G fun e7i a3d =>
 opK Tryd.prog E (xU (Instr.storeAt 4 e7i e7h)) a3d fun _z_105 a0Z =>
 opK Tryd.prog E (xV (Instr.fieldAt 25 x1 0)) a0Z fun e7j a4Q =>
 opK Tryd.prog E (xV (Instr.loadAt 22 e7j)) a4Q fun e7k a4p =>
 opK Tryd.prog E (xV (Instr.indexAt 22 e7k x5)) a4p fun e7l a4q =>
 opK Tryd.prog E (xV (Instr.fieldAt 67 e7l 0)) a4q fun e7m a2j =>
 opK Tryd.prog E (xV (Instr.loadAt 9 e7m)) a2j fun e7n a3e =>
 opK Tryd.prog E (xCall (Value.func (.func 64) #[] #[]) [x4, e7n, (Value.bool true)]) a3e fun _t49_117 a5h =>
 opK Tryd.prog E (xBin .add 3 (.tmp 20) (.const (Value.int .i64 1)) x5 (Value.int .i64 1)) a5h fun e7o a3f =>
 next4 [e7o] a3f)
 (j1 [] N1)
def F23 (x0 : Value) (w : World) (R : Value → World → Prop) (E : Pan) : Prop :=
 opK Tryd.prog E (xV (Instr.box 25 x0)) w fun t7 w_2 =>
 opK Tryd.prog E (xV (Instr.loadAt 25 t7)) w_2 fun a9O w_4 =>
 opK Tryd.prog E (xCall (Value.func (.func 63) #[] #[]) [a9O]) w_4 fun d9C w_6 =>
 opK Tryd.prog E (xV (Instr.alloc 99 true (.tuple #[]))) w_6 fun b9F w_8 =>
 opK Tryd.prog E (xU (Instr.storeAt 99 b9F d9C)) w_8 fun _z_9 o2 =>
 opK Tryd.prog E (xV (Instr.fieldAt 99 b9F 2)) o2 fun a7l o7 =>
 opK Tryd.prog E (xV (Instr.loadAt 3 a7l)) o7 fun a8K o8 =>
 opK Tryd.prog E (xBin .neq 3 (.tmp 10) (.const (Value.int .i64 0)) a8K (Value.int .i64 0)) o8 fun a8L p9 =>
 xcond a8L
 (opK Tryd.prog E (xV (Instr.fieldAt 99 b9F 2)) p9 fun a6Q r5 =>
 opK Tryd.prog E (xV (Instr.loadAt 3 a6Q)) r5 fun a6R p7 =>
 R a6R p7)
 (opK Tryd.prog E (xV (Instr.build 102 #[(0, (Value.bool true)), (1, (Value.bool true))])) p9 fun b2h t1 =>
 opK Tryd.prog E (xV (Instr.alloc 102 true (.tuple #[]))) t1 fun d3D t8 =>
 opK Tryd.prog E (xU (Instr.storeAt 102 d3D b2h)) t8 fun _z_25 v2 =>
 xcut (fun _ T9 => c8f t7 d3D T9 R E) fun j1 =>
 xloop [5] [(Value.int .i64 0)] v2 fun τ_121 a5O next4 =>
 d7Q t7 d3D (τ_121 5) a5O next4 j1 R E)
noncomputable def c23 : Code := Tryd.f23.body.getD .skip
def h23 : Hint := (.seq .none (.seq .none (.seq (.seq .none (.cond (.seq .none .none) .none)) (.seq .none (.cut [] (.seq .none (.block (.loop [5] (.seq (.seq .none (.cond .none .none)) (.seq (.block (.seq .none .none)) .none))))) (.cut [] (.seq .none (.block (.loop [6] (.seq (.seq .none (.cond .none .none)) (.seq (.block .none) .none))))) (.seq .none .none)))))))
theorem f7k (x0 : Value) (w : World) (R : Value → World → Prop) (E : Pan) : F23 x0 w R E = callX Tryd.prog [.tmp 2] c23 h23 [x0] w R E := by kernel_rfl
theorem f7l {x0 : Value} {w : World} {R : Value → World → Prop} {E : Pan} (h : F23 x0 w R E) : Cv Tryd.prog 23 #[x0] w R E := by
 refine i6 (args := [x0]) (c := c23) (h := h23) (rs := [.tmp 2]) Tryd.func23 (by kernel_rfl) (by kernel_rfl) (Nat.le_of_ble_eq_true (by kernel_rfl)) (by kernel_rfl) (by kernel_rfl) (by kernel_rfl) ?_
 rw [← f7k]
 exact h
def d7R (x0 x3 x5 : Value) (w : World) (next2 : List Value → World → Prop) (R : Value → World → Prop) (E : Pan) : Prop :=
 opK Tryd.prog E (xV (Instr.fieldAt 30 x3 3)) w fun f7m N1 =>
 opK Tryd.prog E (xV (Instr.loadAt 28 f7m)) N1 fun c8g W0 =>
 opK Tryd.prog E (xBuiltin .len #[28] 3 [false] [c8g]) W0 fun c8h a0e =>
 opK Tryd.prog E (xBin .lss 3 (.tmp 65) (.tmp 68) x5 c8h) a0e fun b3a Z7 =>
 opK Tryd.prog E (gsem (asB b3a) true (xNil (gval (asB b3a) true x0))) Z7 fun f7n W8 =>
 opK Tryd.prog E (gsem (asB b3a) true (xV (Instr.fieldAt 102 f7n 0))) W8 fun f7o a2v =>
 opK Tryd.prog E (gsem (asB b3a) true (xV (Instr.loadAt 4 f7o))) a2v fun f7p a2U =>
 opK Tryd.prog E (xPick b3a f7p (Value.bool false)) a2U fun f7q a3l =>
 xcond f7q
 (opK Tryd.prog E (xV (Instr.fieldAt 30 x3 3)) a3l fun f7r a3m =>
 opK Tryd.prog E (xV (Instr.loadAt 28 f7r)) a3m fun f7s a2e =>
 opK Tryd.prog E (xV (Instr.indexAt 28 f7s x5)) a2e fun c8i a4B =>
 opK Tryd.prog E (xV (Instr.loadAt 30 c8i)) a4B fun c8j a4C =>
 opK Tryd.prog E (xCall (Value.func (.func 59) #[] #[]) [x0, c8j]) a4C fun _t84_93 a4e =>
 opK Tryd.prog E (xBin .add 3 (.tmp 76) (.const (Value.int .i64 1)) x5 (Value.int .i64 1)) a4e fun f7t a2V =>
 next2 [f7t] a2V)
 (R (Value.tuple #[]) a3l)
def c8k (x0 x3 x4 : Value) (w : World) (R : Value → World → Prop) (E : Pan) : Prop :=
 ∀ _τ : Fr, (opK Tryd.prog E (xV (Instr.fieldAt 30 x3 2)) w fun g6X w_4 =>
 opK Tryd.prog E (xV (Instr.loadAt 9 g6X)) w_4 fun d1W w_6 =>
 opK Tryd.prog E (xV (Instr.fieldAt 30 x3 0)) w_6 fun g6Y w_8 =>
 opK Tryd.prog E (xV (Instr.loadAt 3 g6Y)) w_8 fun g6Z o2 =>
 opK Tryd.prog E (xBin .eql 3 (.tmp 28) (.const (Value.int .i64 2)) g6Z (Value.int .i64 2)) o2 fun c1R o7 =>
 opK Tryd.prog E (gsem (asB c1R) false (xV (Instr.fieldAt 30 x3 0))) o7 fun c8l o8 =>
 opK Tryd.prog E (gsem (asB c1R) false (xV (Instr.loadAt 3 c8l))) o8 fun c8m p9 =>
 opK Tryd.prog E (gsem (asB c1R) false (xBin .eql 3 (.tmp 32) (.const (Value.int .i64 4)) c8m (Value.int .i64 4))) p9 fun f7u r5 =>
 opK Tryd.prog E (xPick c1R (Value.bool true) f7u) r5 fun f7v p7 =>
 opK Tryd.prog E (xCall (Value.func (.func 64) #[] #[]) [x0, d1W, f7v]) p7 fun _t35_21 t1 =>
 opK Tryd.prog E (xNil x0) t1 fun f7w t8 =>
 opK Tryd.prog E (xV (Instr.fieldAt 102 f7w 0)) t8 fun f7x v2 =>
 opK Tryd.prog E (xV (Instr.loadAt 4 f7x)) v2 fun b4O y7 =>
 opK Tryd.prog E (gsem (asB b4O) true (xV (Instr.fieldAt 30 x3 3))) y7 fun f7y A7 =>
 opK Tryd.prog E (gsem (asB b4O) true (xV (Instr.loadAt 28 f7y))) A7 fun f7z A4 =>
 opK Tryd.prog E (gsem (asB b4O) true (xBuiltin .len #[28] 3 [false] [f7z])) A4 fun f7A A8 =>
 opK Tryd.prog E (gsem (asB b4O) true (xBin .eql 3 (.tmp 44) (.tmp 45) f7A (gval (asB b4O) true x4))) A8 fun f7B C9 =>
 opK Tryd.prog E (xPick b4O f7B (Value.bool false)) C9 fun a4W C0 =>
 opK Tryd.prog E (gsem (asB a4W) true (xV (Instr.fieldAt 30 x3 1))) C0 fun f7C D3 =>
 opK Tryd.prog E (gsem (asB a4W) true (xV (Instr.loadAt 2 f7C))) D3 fun f7D E9 =>
 opK Tryd.prog E (gsem (asB a4W) true (xBin .eql 2 (.tmp 50) (.const (Value.int .i64 0)) f7D (Value.int .i64 0))) E9 fun a9k E4 =>
 opK Tryd.prog E (gsem (asB (gval (asB a4W) true a9k)) false (xV (Instr.fieldAt 30 x3 0))) E4 fun f7E K8 =>
 opK Tryd.prog E (gsem (asB (gval (asB a4W) true a9k)) false (xV (Instr.loadAt 3 f7E))) K8 fun f7F J7 =>
 opK Tryd.prog E (gsem (asB (gval (asB a4W) true a9k)) false (xBin .eql 3 (.tmp 54) (.const (Value.int .i64 1)) f7F (Value.int .i64 1))) J7 fun c1S G8 =>
 opK Tryd.prog E (gsem (asB (gval (asB (gval (asB a4W) true a9k)) false c1S)) true (xV (Instr.fieldAt 30 x3 1))) G8 fun f7G K5 =>
 opK Tryd.prog E (gsem (asB (gval (asB (gval (asB a4W) true a9k)) false c1S)) true (xV (Instr.loadAt 2 f7G))) K5 fun f7H M3 =>
 opK Tryd.prog E (gsem (asB (gval (asB (gval (asB a4W) true a9k)) false c1S)) true (xBin .gtr 2 (.tmp 58) (.const (Value.int .i64 0)) f7H (Value.int .i64 0))) M3 fun f7I M7 =>
 opK Tryd.prog E (gsem (asB (gval (asB a4W) true a9k)) false (xPick (gval (asB (gval (asB a4W) true a9k)) false c1S) f7I (Value.bool false))) M7 fun c8e M8 =>
 opK Tryd.prog E (gsem (asB a4W) true (xPick (gval (asB a4W) true a9k) (Value.bool true) c8e)) M8 fun f7J P8 =>
 opK Tryd.prog E (xPick a4W f7J (Value.bool false)) P8 fun f7K T9 =>
 opK Tryd.prog E (xNil x0) T9 fun f7L Q2 =>
 opK Tryd.prog E (xV (Instr.fieldAt 102 f7L 0)) Q2 fun f7M U0 =>
 opK Tryd.prog E (xU (Instr.storeAt 4 f7M f7K)) U0 fun _z_67 a0d =>
 xloop [5] [(Value.int .i64 0)] a0d fun τ_97 a4D next2 =>
 d7R x0 x3 (τ_97 5) a4D next2 R E)
def c8n (x0 _x3 x4 x18 : Value) (w : World) (j1 : List Value → World → Prop) (_R : Value → World → Prop) (E : Pan) : Prop :=
 ∀ _τ : Fr, (xcond x18
 (j1 [(Value.int .i64 2)] w)
 (opK Tryd.prog E (xNil x0) w fun f7N a0Z =>
 opK Tryd.prog E (xV (Instr.fieldAt 102 f7N 0)) a0Z fun e7p a4Q =>
 opK Tryd.prog E (xU (Instr.storeAt 4 e7p (Value.bool false))) a4Q fun _z_109 a4p =>
 j1 [x4] a4p))
def c8o (x0 x3 x4 x7 x15 : Value) (w : World) (j1 : List Value → World → Prop) (R : Value → World → Prop) (E : Pan) : Prop :=
 ∀ _τ : Fr, (xcond x15
 (j1 [(Value.int .i64 1)] w)
 (xcut (fun c1H a4q => c8n x0 x3 x4 (nth c1H 0) a4q j1 R E) fun j5 =>
 opK Tryd.prog E (xBin .eql 3 (.tmp 7) (.const (Value.int .i64 6)) x7 (Value.int .i64 6)) w fun d0X a2j =>
 xcond d0X
 (j5 [d0X] a2j)
 (opK Tryd.prog E (xBin .eql 3 (.tmp 7) (.const (Value.int .i64 7)) x7 (Value.int .i64 7)) a2j fun d0Y a3e =>
 xcond d0Y
 (j5 [d0Y] a3e)
 (opK Tryd.prog E (xBin .eql 3 (.tmp 7) (.const (Value.int .i64 8)) x7 (Value.int .i64 8)) a3e fun d0Z a5h =>
 xcond d0Z
 (j5 [d0Z] a5h)
 (opK Tryd.prog E (xBin .eql 3 (.tmp 7) (.const (Value.int .i64 9)) x7 (Value.int .i64 9)) a5h fun d1a a3f =>
 xcond d1a
 (j5 [d1a] a3f)
 (opK Tryd.prog E (xBin .eql 3 (.tmp 7) (.const (Value.int .i64 10)) x7 (Value.int .i64 10)) a3f fun e7q a5O =>
 j5 [e7q] a5O))))))
def c8p (x0 x3 x4 x7 x11 : Value) (w : World) (j1 : List Value → World → Prop) (R : Value → World → Prop) (E : Pan) : Prop :=
 ∀ _τ : Fr, (xcond x11
 (j1 [x4] w)
 (xcut (fun g7a a8H => c8o x0 x3 x4 x7 (nth g7a 0) a8H j1 R E) fun j4 =>
 opK Tryd.prog E (xBin .eql 3 (.tmp 7) (.const (Value.int .i64 4)) x7 (Value.int .i64 4)) w fun d1b a7O =>
 xcond d1b
 (j4 [d1b] a7O)
 (opK Tryd.prog E (xBin .eql 3 (.tmp 7) (.const (Value.int .i64 5)) x7 (Value.int .i64 5)) a7O fun e7r b1m =>
 j4 [e7r] b1m)))
def F59 (x0 x1 : Value) (w : World) (R : Value → World → Prop) (E : Pan) : Prop :=
 opK Tryd.prog E (xV (Instr.box 30 x1)) w fun a1U w_2 =>
 xcut (fun d9H a2i => c8k x0 a1U (nth d9H 0) a2i R E) fun j1 =>
 opK Tryd.prog E (xV (Instr.fieldAt 30 a1U 0)) w_2 fun f7O a1G =>
 opK Tryd.prog E (xV (Instr.loadAt 3 f7O)) a1G fun c1T a3d =>
 xcut (fun g7b b0u => c8p x0 a1U (Value.int .i64 0) c1T (nth g7b 0) b0u j1 R E) fun j3 =>
 opK Tryd.prog E (xBin .eql 3 (.tmp 7) (.const (Value.int .i64 1)) c1T (Value.int .i64 1)) a3d fun d1c a8I =>
 xcond d1c
 (j3 [d1c] a8I)
 (opK Tryd.prog E (xBin .eql 3 (.tmp 7) (.const (Value.int .i64 2)) c1T (Value.int .i64 2)) a8I fun d1d a8J =>
 xcond d1d
 (j3 [d1d] a8J)
 (opK Tryd.prog E (xBin .eql 3 (.tmp 7) (.const (Value.int .i64 3)) c1T (Value.int .i64 3)) a8J fun e7s b0v =>
 j3 [e7s] b0v))
noncomputable def c59 : Code := Tryd.f59.body.getD .skip
def h59 : Hint := (.seq .none (.seq .none (.cut [4] (.seq .none (.block (.cut [11] (.seq .none (.cond .none (.seq .none (.cond .none .none)))) (.cond .none (.cut [15] (.seq .none (.cond .none .none)) (.cond .none (.cut [18] (.seq .none (.cond .none (.seq .none (.cond .none (.seq .none (.cond .none (.seq .none (.cond .none .none)))))))) (.cond .none .none)))))))) (.seq .none (.seq .none (.seq .none (.block (.loop [5] (.seq (.seq .none (.cond .none .none)) (.seq (.block .none) .none))))))))))
theorem f7P (x0 x1 : Value) (w : World) (R : Value → World → Prop) (E : Pan) : F59 x0 x1 w R E = callX Tryd.prog [] c59 h59 [x0, x1] w R E := by kernel_rfl
theorem f7Q {x0 x1 : Value} {w : World} {R : Value → World → Prop} {E : Pan} (h : F59 x0 x1 w R E) : Cv Tryd.prog 59 #[x0, x1] w R E := by
 refine i6 (args := [x0, x1]) (c := c59) (h := h59) (rs := []) Tryd.func59 (by kernel_rfl) (by kernel_rfl) (Nat.le_of_ble_eq_true (by kernel_rfl)) (by kernel_rfl) (by kernel_rfl) (by kernel_rfl) ?_
 rw [← f7P]
 exact h
def F60 (x0 : Value) (w : World) (R : Value → World → Prop) (E : Pan) : Prop :=
 opK Tryd.prog E (xV (Instr.box 102 x0)) w fun t7 w_2 =>
 opK Tryd.prog E (xV (Instr.fieldAt 102 t7 0)) w_2 fun T8 w_4 =>
 opK Tryd.prog E (xV (Instr.loadAt 4 T8)) w_4 fun a3k w_6 =>
 opK Tryd.prog E (xV (Op.unary .not a3k)) w_6 fun a5K w_8 =>
 xcond a5K
 (R (Value.int .i64 30) w_8)
 (opK Tryd.prog E (xV (Instr.fieldAt 102 t7 1)) w_8 fun b1Y o2 =>
 opK Tryd.prog E (xV (Instr.loadAt 4 b1Y)) o2 fun a5L o7 =>
 opK Tryd.prog E (xV (Op.unary .not a5L)) o7 fun g7c o8 =>
 xcond g7c
 (R (Value.int .i64 31) o8)
 (R (Value.int .i64 0) o8))
noncomputable def c60 : Code := Tryd.f60.body.getD .skip
def h60 : Hint := (.seq .none (.seq (.seq .none (.cond (.seq .none .none) .none)) (.seq (.seq .none (.cond (.seq .none .none) .none)) (.seq .none .none))))
theorem f7R (x0 : Value) (w : World) (R : Value → World → Prop) (E : Pan) : F60 x0 w R E = callX Tryd.prog [.tmp 2] c60 h60 [x0] w R E := by kernel_rfl
theorem f7S {x0 : Value} {w : World} {R : Value → World → Prop} {E : Pan} (h : F60 x0 w R E) : Cv Tryd.prog 60 #[x0] w R E := by
 refine i6 (args := [x0]) (c := c60) (h := h60) (rs := [.tmp 2]) Tryd.func60 (by kernel_rfl) (by kernel_rfl) (Nat.le_of_ble_eq_true (by kernel_rfl)) (by kernel_rfl) (by kernel_rfl) (by kernel_rfl) ?_
 rw [← f7R]
 exact h
def d7S (x0 x3 x8 : Value) (w : World) (next4 : List Value → World → Prop) (R : Value → World → Prop) (E : Pan) : Prop :=
 opK Tryd.prog E (xV (Instr.fieldAt 33 x3 3)) w fun f7T E4 =>
 opK Tryd.prog E (xV (Instr.loadAt 31 f7T)) E4 fun f7U K8 =>
 opK Tryd.prog E (xBuiltin .len #[31] 3 [false] [f7U]) K8 fun f7V J7 =>
 opK Tryd.prog E (xBin .lss 3 (.tmp 82) (.tmp 85) x8 f7V) J7 fun b8d G8 =>
 opK Tryd.prog E (gsem (asB b8d) true (xNil (gval (asB b8d) true x0))) G8 fun f7W K5 =>
 opK Tryd.prog E (gsem (asB b8d) true (xV (Instr.fieldAt 102 f7W 0))) K5 fun f7X M3 =>
 opK Tryd.prog E (gsem (asB b8d) true (xV (Instr.loadAt 4 f7X))) M3 fun f7Y M7 =>
 opK Tryd.prog E (xPick b8d f7Y (Value.bool false)) M7 fun f7Z M8 =>
 xcond f7Z
 (opK Tryd.prog E (xV (Instr.fieldAt 33 x3 3)) M8 fun f8a P8 =>
 opK Tryd.prog E (xV (Instr.loadAt 31 f8a)) P8 fun f8b T9 =>
 opK Tryd.prog E (xV (Instr.indexAt 31 f8b x8)) T9 fun f8c Q2 =>
 opK Tryd.prog E (xV (Instr.loadAt 33 f8c)) Q2 fun e7t U0 =>
 opK Tryd.prog E (xCall (Value.func (.func 62) #[] #[]) [x0, e7t]) U0 fun _t101_67 a0d =>
 opK Tryd.prog E (xBin .add 3 (.tmp 93) (.const (Value.int .i64 1)) x8 (Value.int .i64 1)) a0d fun f8d N1 =>
 next4 [f8d] N1)
 (R (Value.tuple #[]) M8)
def c8q (x0 x3 : Value) (w : World) (R : Value → World → Prop) (E : Pan) : Prop :=
 ∀ _τ : Fr, (xloop [8] [(Value.int .i64 0)] w fun τ_71 W0 next4 =>
 d7S x0 x3 (τ_71 8) W0 next4 R E)
def d7T (x0 x3 x7 : Value) (w : World) (next5 : List Value → World → Prop) (j3 : List Value → World → Prop) (_R : Value → World → Prop) (E : Pan) : Prop :=
 opK Tryd.prog E (xV (Instr.fieldAt 33 x3 2)) w fun f8e Z7 =>
 opK Tryd.prog E (xV (Instr.loadAt 28 f8e)) Z7 fun f8f W8 =>
 opK Tryd.prog E (xBuiltin .len #[28] 3 [false] [f8f]) W8 fun f8g a2v =>
 opK Tryd.prog E (xBin .lss 3 (.tmp 62) (.tmp 65) x7 f8g) a2v fun b8e a2U =>
 opK Tryd.prog E (gsem (asB b8e) true (xNil (gval (asB b8e) true x0))) a2U fun f8h a3l =>
 opK Tryd.prog E (gsem (asB b8e) true (xV (Instr.fieldAt 102 f8h 0))) a3l fun f8i a3m =>
 opK Tryd.prog E (gsem (asB b8e) true (xV (Instr.loadAt 4 f8i))) a3m fun f8j a2e =>
 opK Tryd.prog E (xPick b8e f8j (Value.bool false)) a2e fun f8k a4B =>
 xcond f8k
 (opK Tryd.prog E (xV (Instr.fieldAt 33 x3 2)) a4B fun f8l a4C =>
 opK Tryd.prog E (xV (Instr.loadAt 28 f8l)) a4C fun f8m a4e =>
 opK Tryd.prog E (xV (Instr.indexAt 28 f8m x7)) a4e fun f8n a2V =>
 opK Tryd.prog E (xV (Instr.loadAt 30 f8n)) a2V fun f8o a4D =>
 opK Tryd.prog E (xCall (Value.func (.func 59) #[] #[]) [x0, f8o]) a4D fun _t81_99 a2i =>
 opK Tryd.prog E (xBin .add 3 (.tmp 73) (.const (Value.int .i64 1)) x7 (Value.int .i64 1)) a2i fun e7u a1G =>
 next5 [e7u] a1G)
 (j3 [] a4B)
def c8r (x0 x3 x4 x5 x6 : Value) (w : World) (R : Value → World → Prop) (E : Pan) : Prop :=
 ∀ _τ : Fr, (opK Tryd.prog E (xNil x0) w fun d3E o2 =>
 opK Tryd.prog E (xV (Instr.fieldAt 102 d3E 0)) o2 fun c8s o7 =>
 opK Tryd.prog E (xV (Instr.loadAt 4 c8s)) o7 fun c1U o8 =>
 opK Tryd.prog E (xPick c1U (gval (asB c1U) true x6) (Value.bool false)) o8 fun b4P p9 =>
 opK Tryd.prog E (gsem (asB b4P) true (xV (Instr.fieldAt 33 x3 2))) p9 fun f8p r5 =>
 opK Tryd.prog E (gsem (asB b4P) true (xV (Instr.loadAt 28 f8p))) r5 fun f8q p7 =>
 opK Tryd.prog E (gsem (asB b4P) true (xBuiltin .len #[28] 3 [false] [f8q])) p7 fun c8t t1 =>
 opK Tryd.prog E (gsem (asB b4P) true (xBin .eql 3 (.tmp 49) (.tmp 50) c8t (gval (asB b4P) true x4))) t1 fun f8r t8 =>
 opK Tryd.prog E (xPick b4P f8r (Value.bool false)) t8 fun b4Q v2 =>
 opK Tryd.prog E (gsem (asB b4Q) true (xV (Instr.fieldAt 33 x3 3))) v2 fun f8s y7 =>
 opK Tryd.prog E (gsem (asB b4Q) true (xV (Instr.loadAt 31 f8s))) y7 fun f8t A7 =>
 opK Tryd.prog E (gsem (asB b4Q) true (xBuiltin .len #[31] 3 [false] [f8t])) A7 fun f8u A4 =>
 opK Tryd.prog E (gsem (asB b4Q) true (xBin .eql 3 (.tmp 56) (.tmp 57) f8u (gval (asB b4Q) true x5))) A4 fun c1V A8 =>
 opK Tryd.prog E (xPick b4Q c1V (Value.bool false)) A8 fun c8u C9 =>
 opK Tryd.prog E (xNil x0) C9 fun f8v C0 =>
 opK Tryd.prog E (xV (Instr.fieldAt 102 f8v 0)) C0 fun f8w D3 =>
 opK Tryd.prog E (xU (Instr.storeAt 4 f8w c8u)) D3 fun _z_41 E9 =>
 xcut (fun _ a0e => c8q x0 x3 a0e R E) fun j3 =>
 xloop [7] [(Value.int .i64 0)] E9 fun τ_103 a3d next5 =>
 d7T x0 x3 (τ_103 7) a3d next5 j3 R E)
def c8v (x0 x3 x4 x5 : Value) (w : World) (R : Value → World → Prop) (E : Pan) : Prop :=
 ∀ _τ : Fr, (opK Tryd.prog E (xV (Instr.fieldAt 33 x3 1)) w fun g7d w_4 =>
 opK Tryd.prog E (xV (Instr.loadAt 3 g7d)) w_4 fun g7e w_6 =>
 opK Tryd.prog E (xBin .eql 3 (.tmp 25) (.const (Value.int .i64 0)) g7e (Value.int .i64 0)) w_6 fun g7f w_8 =>
 xcut (fun e3P a0Z => c8r x0 x3 x4 x5 (nth e3P 0) a0Z R E) fun j2 =>
 opK Tryd.prog E (xV (Instr.fieldAt 33 x3 0)) w_8 fun e7v a4Q =>
 opK Tryd.prog E (xV (Instr.loadAt 3 e7v)) a4Q fun e7w a4p =>
 opK Tryd.prog E (xBin .eql 3 (.tmp 28) (.const (Value.int .i64 3)) e7w (Value.int .i64 3)) a4p fun e7x a4q =>
 xcond e7x
 (opK Tryd.prog E (xV (Instr.fieldAt 33 x3 1)) a4q fun e7y a2j =>
 opK Tryd.prog E (xV (Instr.loadAt 3 e7y)) a2j fun e7z a3e =>
 opK Tryd.prog E (xBin .geq 3 (.tmp 31) (.const (Value.int .i64 1)) e7z (Value.int .i64 1)) a3e fun b8U a5h =>
 opK Tryd.prog E (gsem (asB b8U) true (xV (Instr.fieldAt 33 x3 1))) a5h fun e7A a3f =>
 opK Tryd.prog E (gsem (asB b8U) true (xV (Instr.loadAt 3 e7A))) a3f fun e7B a5O =>
 opK Tryd.prog E (gsem (asB b8U) true (xBin .leq 3 (.tmp 35) (.const (Value.int .i64 6)) e7B (Value.int .i64 6))) a5O fun e7C a8H =>
 opK Tryd.prog E (xPick b8U e7C (Value.bool false)) a8H fun e7D a7O =>
 j2 [e7D] a7O)
 (j2 [g7f] a4q))
def c8w (x0 _x3 x4 x5 x21 : Value) (w : World) (j1 : List Value → World → Prop) (_R : Value → World → Prop) (E : Pan) : Prop :=
 ∀ _τ : Fr, (xcond x21
 (j1 [x4, (Value.int .i64 2)] w)
 (opK Tryd.prog E (xNil x0) w fun e7E b5s =>
 opK Tryd.prog E (xV (Instr.fieldAt 102 e7E 0)) b5s fun e7F b5t =>
 opK Tryd.prog E (xU (Instr.storeAt 4 e7F (Value.bool false))) b5t fun _z_141 b5u =>
 j1 [x4, x5] b5u))
def c8x (x0 x3 x4 x5 x10 x14 : Value) (w : World) (j1 : List Value → World → Prop) (R : Value → World → Prop) (E : Pan) : Prop :=
 ∀ _τ : Fr, (xcond x14
 (j1 [x4, x5] w)
 (opK Tryd.prog E (xBin .eql 3 (.tmp 10) (.const (Value.int .i64 3)) x10 (Value.int .i64 3)) w fun e7G a8J =>
 xcond e7G
 (j1 [(Value.int .i64 2), x5] a8J)
 (opK Tryd.prog E (xBin .eql 3 (.tmp 10) (.const (Value.int .i64 4)) x10 (Value.int .i64 4)) a8J fun e7H b0v =>
 xcond e7H
 (j1 [x4, (Value.int .i64 1)] b0v)
 (xcut (fun g7g b3G => c8w x0 x3 x4 x5 (nth g7g 0) b3G j1 R E) fun j7 =>
 opK Tryd.prog E (xBin .eql 3 (.tmp 10) (.const (Value.int .i64 5)) x10 (Value.int .i64 5)) b0v fun d1e b0w =>
 xcond d1e
 (j7 [d1e] b0w)
 (opK Tryd.prog E (xBin .eql 3 (.tmp 10) (.const (Value.int .i64 6)) x10 (Value.int .i64 6)) b0w fun e7I b5x =>
 j7 [e7I] b5x)))))
def F62 (x0 x1 : Value) (w : World) (R : Value → World → Prop) (E : Pan) : Prop :=
 opK Tryd.prog E (xV (Instr.box 33 x1)) w fun a1U w_2 =>
 xcut (fun d3F b1m => c8v x0 a1U (nth d3F 0) (nth d3F.tail 0) b1m R E) fun j1 =>
 opK Tryd.prog E (xV (Instr.fieldAt 33 a1U 0)) w_2 fun f8x b0u =>
 opK Tryd.prog E (xV (Instr.loadAt 3 f8x)) b0u fun c3S a8I =>
 xcut (fun g7h c1y => c8x x0 a1U (Value.int .i64 0) (Value.int .i64 0) c3S (nth g7h 0) c1y j1 R E) fun j6 =>
 opK Tryd.prog E (xBin .eql 3 (.tmp 10) (.const (Value.int .i64 1)) c3S (Value.int .i64 1)) a8I fun d1f b8D =>
 xcond d1f
 (j6 [d1f] b8D)
 (opK Tryd.prog E (xBin .eql 3 (.tmp 10) (.const (Value.int .i64 2)) c3S (Value.int .i64 2)) b8D fun e7J c1C =>
 j6 [e7J] c1C)
noncomputable def c62 : Code := Tryd.f62.body.getD .skip
def h62 : Hint := (.seq .none (.seq .none (.cut [4, 5] (.seq .none (.block (.cut [14] (.seq .none (.cond .none .none)) (.cond .none (.seq .none (.cond .none (.seq .none (.cond .none (.cut [21] (.seq .none (.cond .none .none)) (.cond .none .none)))))))))) (.seq .none (.cut [6] (.seq .none (.cond .none .none)) (.seq .none (.cut [] (.seq .none (.block (.loop [7] (.seq (.seq .none (.cond .none .none)) (.seq (.block .none) .none))))) (.seq .none (.block (.loop [8] (.seq (.seq .none (.cond .none .none)) (.seq (.block .none) .none))))))))))))
theorem f8y (x0 x1 : Value) (w : World) (R : Value → World → Prop) (E : Pan) : F62 x0 x1 w R E = callX Tryd.prog [] c62 h62 [x0, x1] w R E := by kernel_rfl
theorem f8z {x0 x1 : Value} {w : World} {R : Value → World → Prop} {E : Pan} (h : F62 x0 x1 w R E) : Cv Tryd.prog 62 #[x0, x1] w R E := by
 refine i6 (args := [x0, x1]) (c := c62) (h := h62) (rs := []) Tryd.func62 (by kernel_rfl) (by kernel_rfl) (Nat.le_of_ble_eq_true (by kernel_rfl)) (by kernel_rfl) (by kernel_rfl) (by kernel_rfl) ?_
 rw [← f8y]
 exact h
def F64 (x0 x1 x2 : Value) (w : World) (R : Value → World → Prop) (E : Pan) : Prop :=
 opK Tryd.prog E (xV (Op.unary .not x2)) w fun b5y w_2 =>
 xcond b5y
 (opK Tryd.prog E (xNil x0) w_2 fun b1j w_4 =>
 opK Tryd.prog E (xV (Instr.fieldAt 102 b1j 0)) w_4 fun a6A w_6 =>
 opK Tryd.prog E (xV (Instr.loadAt 4 a6A)) w_6 fun a3b w_8 =>
 opK Tryd.prog E (gsem (asB a3b) true (xBin .eql 9 (.tmp 14) (.const (Value.string ⟨#[]⟩)) (gval (asB a3b) true x1) (Value.string ⟨#[]⟩))) w_8 fun b0x o2 =>
 opK Tryd.prog E (xPick a3b b0x (Value.bool false)) o2 fun a1H o7 =>
 opK Tryd.prog E (xNil x0) o7 fun c8y o8 =>
 opK Tryd.prog E (xV (Instr.fieldAt 102 c8y 0)) o8 fun b7g p9 =>
 opK Tryd.prog E (xU (Instr.storeAt 4 b7g a1H)) p9 fun _z_17 r5 =>
 R (Value.tuple #[]) r5)
 (opK Tryd.prog E (xNil x0) w_2 fun b2f p7 =>
 opK Tryd.prog E (xV (Instr.fieldAt 102 b2f 1)) p7 fun a7H t1 =>
 opK Tryd.prog E (xV (Instr.loadAt 4 a7H)) t1 fun b7s t8 =>
 opK Tryd.prog E (gsem (asB b7s) true (xCall (Value.func (.func 93) #[] #[]) [(gval (asB b7s) true x1)])) t8 fun c6b v2 =>
 opK Tryd.prog E (xPick b7s c6b (Value.bool false)) v2 fun c6c y7 =>
 opK Tryd.prog E (xNil x0) y7 fun f8A A7 =>
 opK Tryd.prog E (xV (Instr.fieldAt 102 f8A 1)) A7 fun c8z A4 =>
 opK Tryd.prog E (xU (Instr.storeAt 4 c8z c6c)) A4 fun _z_33 A8 =>
 R (Value.tuple #[]) A8)
noncomputable def c64 : Code := Tryd.f64.body.getD .skip
def h64 : Hint := (.seq (.seq .none (.cond (.seq .none .none) .none)) .none)
theorem f8B (x0 x1 x2 : Value) (w : World) (R : Value → World → Prop) (E : Pan) : F64 x0 x1 x2 w R E = callX Tryd.prog [] c64 h64 [x0, x1, x2] w R E := by kernel_rfl
theorem f8C {x0 x1 x2 : Value} {w : World} {R : Value → World → Prop} {E : Pan} (h : F64 x0 x1 x2 w R E) : Cv Tryd.prog 64 #[x0, x1, x2] w R E := by
 refine i6 (args := [x0, x1, x2]) (c := c64) (h := h64) (rs := []) Tryd.func64 (by kernel_rfl) (by kernel_rfl) (Nat.le_of_ble_eq_true (by kernel_rfl)) (by kernel_rfl) (by kernel_rfl) (by kernel_rfl) ?_
 rw [← f8B]
 exact h
def d7U (x0 x3 x9 : Value) (w : World) (next5 : List Value → World → Prop) (R : Value → World → Prop) (E : Pan) : Prop :=
 opK Tryd.prog E (xV (Instr.fieldAt 88 x3 5)) w fun e7K a2i =>
 opK Tryd.prog E (xV (Instr.loadAt 23 e7K)) a2i fun e0X a1G =>
 opK Tryd.prog E (xBuiltin .len #[23] 3 [false] [e0X]) a1G fun e0Y a3d =>
 opK Tryd.prog E (xBin .lss 3 (.tmp 146) (.tmp 149) x9 e0Y) a3d fun b3b a0Z =>
 opK Tryd.prog E (gsem (asB b3b) true (xNil (gval (asB b3b) true x0))) a0Z fun e0Z a4Q =>
 opK Tryd.prog E (gsem (asB b3b) true (xV (Instr.fieldAt 102 e0Z 0))) a4Q fun e1a a4p =>
 opK Tryd.prog E (gsem (asB b3b) true (xV (Instr.loadAt 4 e1a))) a4p fun e1b a4q =>
 opK Tryd.prog E (xPick b3b e1b (Value.bool false)) a4q fun e1c a2j =>
 xcond e1c
 (opK Tryd.prog E (xV (Instr.fieldAt 88 x3 5)) a2j fun e1d a3e =>
 opK Tryd.prog E (xV (Instr.loadAt 23 e1d)) a3e fun e1e a5h =>
 opK Tryd.prog E (xV (Instr.indexAt 23 e1e x9)) a5h fun e1f a3f =>
 opK Tryd.prog E (xV (Instr.loadAt 88 e1f)) a3f fun e1g a5O =>
 opK Tryd.prog E (xCall (Value.func (.func 65) #[] #[]) [x0, e1g]) a5O fun _t165_123 a8H =>
 opK Tryd.prog E (xBin .add 3 (.tmp 157) (.const (Value.int .i64 1)) x9 (Value.int .i64 1)) a8H fun e1h a7O =>
 next5 [e1h] a7O)
 (R (Value.tuple #[]) a2j)
def c8A (x0 x3 : Value) (w : World) (R : Value → World → Prop) (E : Pan) : Prop :=
 ∀ _τ : Fr, (xloop [9] [(Value.int .i64 0)] w fun τ_127 b1m next5 =>
 d7U x0 x3 (τ_127 9) b1m next5 R E)
def d7V (x0 x3 x8 : Value) (w : World) (next6 : List Value → World → Prop) (j4 : List Value → World → Prop) (_R : Value → World → Prop) (E : Pan) : Prop :=
 opK Tryd.prog E (xV (Instr.fieldAt 88 x3 4)) w fun e1i a8I =>
 opK Tryd.prog E (xV (Instr.loadAt 23 e1i)) a8I fun e1j a8J =>
 opK Tryd.prog E (xBuiltin .len #[23] 3 [false] [e1j]) a8J fun e1k b0v =>
 opK Tryd.prog E (xBin .lss 3 (.tmp 126) (.tmp 129) x8 e1k) b0v fun b3c b5s =>
 opK Tryd.prog E (gsem (asB b3c) true (xNil (gval (asB b3c) true x0))) b5s fun e1l b5t =>
 opK Tryd.prog E (gsem (asB b3c) true (xV (Instr.fieldAt 102 e1l 0))) b5t fun e1m b5u =>
 opK Tryd.prog E (gsem (asB b3c) true (xV (Instr.loadAt 4 e1m))) b5u fun e1n b3G =>
 opK Tryd.prog E (xPick b3c e1n (Value.bool false)) b3G fun e1o b0w =>
 xcond e1o
 (opK Tryd.prog E (xV (Instr.fieldAt 88 x3 4)) b0w fun e1p b5x =>
 opK Tryd.prog E (xV (Instr.loadAt 23 e1p)) b5x fun e1q c1y =>
 opK Tryd.prog E (xV (Instr.indexAt 23 e1q x8)) c1y fun e1r b8D =>
 opK Tryd.prog E (xV (Instr.loadAt 88 e1r)) b8D fun e1s c1C =>
 opK Tryd.prog E (xCall (Value.func (.func 65) #[] #[]) [x0, e1s]) c1C fun _t145_155 c5c =>
 opK Tryd.prog E (xBin .add 3 (.tmp 137) (.const (Value.int .i64 1)) x8 (Value.int .i64 1)) c5c fun e1t d2t =>
 next6 [e1t] d2t)
 (j4 [] b0w)
def c8B (x0 x3 : Value) (w : World) (R : Value → World → Prop) (E : Pan) : Prop :=
 ∀ _τ : Fr, (xcut (fun _ b0u => c8A x0 x3 b0u R E) fun j4 =>
 xloop [8] [(Value.int .i64 0)] w fun τ_159 g7i next6 =>
 d7V x0 x3 (τ_159 8) g7i next6 j4 R E)
def d7W (x0 x3 x7 : Value) (w : World) (next7 : List Value → World → Prop) (j3 : List Value → World → Prop) (_R : Value → World → Prop) (E : Pan) : Prop :=
 opK Tryd.prog E (xV (Instr.fieldAt 88 x3 2)) w fun e1u e3K =>
 opK Tryd.prog E (xV (Instr.loadAt 28 e1u)) e3K fun e1v g7j =>
 opK Tryd.prog E (xBuiltin .len #[28] 3 [false] [e1v]) g7j fun e1w g7k =>
 opK Tryd.prog E (xBin .lss 3 (.tmp 106) (.tmp 109) x7 e1w) g7k fun b3d g7l =>
 opK Tryd.prog E (gsem (asB b3d) true (xNil (gval (asB b3d) true x0))) g7l fun e1x g7m =>
 opK Tryd.prog E (gsem (asB b3d) true (xV (Instr.fieldAt 102 e1x 0))) g7m fun e1y g7n =>
 opK Tryd.prog E (gsem (asB b3d) true (xV (Instr.loadAt 4 e1y))) g7n fun e1z g7o =>
 opK Tryd.prog E (xPick b3d e1z (Value.bool false)) g7o fun e1A e3Q =>
 xcond e1A
 (opK Tryd.prog E (xV (Instr.fieldAt 88 x3 2)) e3Q fun e1B g7p =>
 opK Tryd.prog E (xV (Instr.loadAt 28 e1B)) g7p fun e1C g7q =>
 opK Tryd.prog E (xV (Instr.indexAt 28 e1C x7)) g7q fun e1D g7r =>
 opK Tryd.prog E (xV (Instr.loadAt 30 e1D)) g7r fun e1E g7s =>
 opK Tryd.prog E (xCall (Value.func (.func 59) #[] #[]) [x0, e1E]) g7s fun _t125_187 g7t =>
 opK Tryd.prog E (xBin .add 3 (.tmp 117) (.const (Value.int .i64 1)) x7 (Value.int .i64 1)) g7t fun e1F g7u =>
 next7 [e1F] g7u)
 (j3 [] e3Q)
def c8C (x0 x3 : Value) (w : World) (R : Value → World → Prop) (E : Pan) : Prop :=
 ∀ _τ : Fr, (xcut (fun _ g7v => c8B x0 x3 g7v R E) fun j3 =>
 xloop [7] [(Value.int .i64 0)] w fun τ_191 g7w next7 =>
 d7W x0 x3 (τ_191 7) g7w next7 j3 R E)
def d7X (x0 x3 x6 : Value) (w : World) (next8 : List Value → World → Prop) (j2 : List Value → World → Prop) (_R : Value → World → Prop) (E : Pan) : Prop :=
 opK Tryd.prog E (xV (Instr.fieldAt 88 x3 3)) w fun e7L g7x =>
 opK Tryd.prog E (xV (Instr.loadAt 31 e7L)) g7x fun e7M e3L =>
 opK Tryd.prog E (xBuiltin .len #[31] 3 [false] [e7M]) e3L fun e7N g7y =>
 opK Tryd.prog E (xBin .lss 3 (.tmp 86) (.tmp 89) x6 e7N) g7y fun b4R g7z =>
 opK Tryd.prog E (gsem (asB b4R) true (xNil (gval (asB b4R) true x0))) g7z fun e7O g7A =>
 opK Tryd.prog E (gsem (asB b4R) true (xV (Instr.fieldAt 102 e7O 0))) g7A fun e7P g7B =>
 opK Tryd.prog E (gsem (asB b4R) true (xV (Instr.loadAt 4 e7P))) g7B fun e7Q g7C =>
 opK Tryd.prog E (xPick b4R e7Q (Value.bool false)) g7C fun e7R e3R =>
 xcond e7R
 (opK Tryd.prog E (xV (Instr.fieldAt 88 x3 3)) e3R fun e1G g7D =>
 opK Tryd.prog E (xV (Instr.loadAt 31 e1G)) g7D fun e1H g7E =>
 opK Tryd.prog E (xV (Instr.indexAt 31 e1H x6)) g7E fun e1I g7F =>
 opK Tryd.prog E (xV (Instr.loadAt 33 e1I)) g7F fun e1J e3S =>
 opK Tryd.prog E (xCall (Value.func (.func 62) #[] #[]) [x0, e1J]) e3S fun _t105_219 g7G =>
 opK Tryd.prog E (xBin .add 3 (.tmp 97) (.const (Value.int .i64 1)) x6 (Value.int .i64 1)) g7G fun e7S g7H =>
 next8 [e7S] g7H)
 (j2 [] e3R)
def c8D (x0 x3 x4 x5 : Value) (w : World) (R : Value → World → Prop) (E : Pan) : Prop :=
 ∀ _τ : Fr, (opK Tryd.prog E (xV (Instr.fieldAt 88 x3 1)) w fun g7I w_4 =>
 opK Tryd.prog E (xV (Instr.loadAt 9 g7I)) w_4 fun g7J w_6 =>
 opK Tryd.prog E (xV (Instr.fieldAt 88 x3 0)) w_6 fun g7K w_8 =>
 opK Tryd.prog E (xV (Instr.loadAt 3 g7K)) w_8 fun g7L o2 =>
 opK Tryd.prog E (xBin .eql 3 (.tmp 30) (.const (Value.int .i64 1)) g7L (Value.int .i64 1)) o2 fun c1W o7 =>
 opK Tryd.prog E (gsem (asB c1W) false (xV (Instr.fieldAt 88 x3 0))) o7 fun c6D o8 =>
 opK Tryd.prog E (gsem (asB c1W) false (xV (Instr.loadAt 3 c6D))) o8 fun c6E p9 =>
 opK Tryd.prog E (gsem (asB c1W) false (xBin .eql 3 (.tmp 34) (.const (Value.int .i64 2)) c6E (Value.int .i64 2))) p9 fun f8D r5 =>
 opK Tryd.prog E (xPick c1W (Value.bool true) f8D) r5 fun f8E p7 =>
 opK Tryd.prog E (xCall (Value.func (.func 64) #[] #[]) [x0, g7J, f8E]) p7 fun _t37_21 t1 =>
 opK Tryd.prog E (xNil x0) t1 fun f8F t8 =>
 opK Tryd.prog E (xV (Instr.fieldAt 102 f8F 0)) t8 fun f8G v2 =>
 opK Tryd.prog E (xV (Instr.loadAt 4 f8G)) v2 fun b4S y7 =>
 opK Tryd.prog E (gsem (asB b4S) true (xV (Instr.fieldAt 88 x3 2))) y7 fun f8H A7 =>
 opK Tryd.prog E (gsem (asB b4S) true (xV (Instr.loadAt 28 f8H))) A7 fun f8I A4 =>
 opK Tryd.prog E (gsem (asB b4S) true (xBuiltin .len #[28] 3 [false] [f8I])) A4 fun f8J A8 =>
 opK Tryd.prog E (gsem (asB b4S) true (xBin .eql 3 (.tmp 46) (.tmp 47) f8J (gval (asB b4S) true x4))) A8 fun f8K C9 =>
 opK Tryd.prog E (xPick b4S f8K (Value.bool false)) C9 fun b4T C0 =>
 opK Tryd.prog E (gsem (asB b4T) true (xV (Instr.fieldAt 88 x3 3))) C0 fun f8L D3 =>
 opK Tryd.prog E (gsem (asB b4T) true (xV (Instr.loadAt 31 f8L))) D3 fun f8M E9 =>
 opK Tryd.prog E (gsem (asB b4T) true (xBuiltin .len #[31] 3 [false] [f8M])) E9 fun f8N E4 =>
 opK Tryd.prog E (gsem (asB b4T) true (xBin .eql 3 (.tmp 53) (.tmp 54) f8N (gval (asB b4T) true x5))) E4 fun f8O K8 =>
 opK Tryd.prog E (xPick b4T f8O (Value.bool false)) K8 fun a4o J7 =>
 opK Tryd.prog E (gsem (asB a4o) true (xV (Instr.fieldAt 88 x3 4))) J7 fun f8P G8 =>
 opK Tryd.prog E (gsem (asB a4o) true (xV (Instr.loadAt 23 f8P))) G8 fun f8Q K5 =>
 opK Tryd.prog E (gsem (asB a4o) true (xBuiltin .len #[23] 3 [false] [f8Q])) K5 fun f8R M3 =>
 opK Tryd.prog E (gsem (asB a4o) true (xBin .eql 3 (.tmp 60) (.const (Value.int .i64 0)) f8R (Value.int .i64 0))) M3 fun c1X M7 =>
 opK Tryd.prog E (gsem (asB (gval (asB a4o) true c1X)) false (xV (Instr.fieldAt 88 x3 0))) M7 fun c8E M8 =>
 opK Tryd.prog E (gsem (asB (gval (asB a4o) true c1X)) false (xV (Instr.loadAt 3 c8E))) M8 fun c8F P8 =>
 opK Tryd.prog E (gsem (asB (gval (asB a4o) true c1X)) false (xBin .eql 3 (.tmp 64) (.const (Value.int .i64 3)) c8F (Value.int .i64 3))) P8 fun f8S T9 =>
 opK Tryd.prog E (gsem (asB a4o) true (xPick (gval (asB a4o) true c1X) (Value.bool true) f8S)) T9 fun c1Y Q2 =>
 opK Tryd.prog E (gsem (asB (gval (asB a4o) true c1Y)) false (xV (Instr.fieldAt 88 x3 0))) Q2 fun f8T U0 =>
 opK Tryd.prog E (gsem (asB (gval (asB a4o) true c1Y)) false (xV (Instr.loadAt 3 f8T))) U0 fun f8U a0d =>
 opK Tryd.prog E (gsem (asB (gval (asB a4o) true c1Y)) false (xBin .eql 3 (.tmp 69) (.const (Value.int .i64 4)) f8U (Value.int .i64 4))) a0d fun f8V N1 =>
 opK Tryd.prog E (gsem (asB a4o) true (xPick (gval (asB a4o) true c1Y) (Value.bool true) f8V)) N1 fun f8W W0 =>
 opK Tryd.prog E (xPick a4o f8W (Value.bool false)) W0 fun a7L a0e =>
 opK Tryd.prog E (gsem (asB a7L) true (xV (Instr.fieldAt 88 x3 5))) a0e fun f8X Z7 =>
 opK Tryd.prog E (gsem (asB a7L) true (xV (Instr.loadAt 23 f8X))) Z7 fun f8Y W8 =>
 opK Tryd.prog E (gsem (asB a7L) true (xBuiltin .len #[23] 3 [false] [f8Y])) W8 fun f8Z a2v =>
 opK Tryd.prog E (gsem (asB a7L) true (xBin .eql 3 (.tmp 76) (.const (Value.int .i64 0)) f8Z (Value.int .i64 0))) a2v fun c1Z a2U =>
 opK Tryd.prog E (gsem (asB (gval (asB a7L) true c1Z)) false (xV (Instr.fieldAt 88 x3 0))) a2U fun f9a a3l =>
 opK Tryd.prog E (gsem (asB (gval (asB a7L) true c1Z)) false (xV (Instr.loadAt 3 f9a))) a3l fun f9b a3m =>
 opK Tryd.prog E (gsem (asB (gval (asB a7L) true c1Z)) false (xBin .eql 3 (.tmp 80) (.const (Value.int .i64 3)) f9b (Value.int .i64 3))) a3m fun f9c a2e =>
 opK Tryd.prog E (gsem (asB a7L) true (xPick (gval (asB a7L) true c1Z) (Value.bool true) f9c)) a2e fun c8i a4B =>
 opK Tryd.prog E (xPick a7L c8i (Value.bool false)) a4B fun c8j a4C =>
 opK Tryd.prog E (xNil x0) a4C fun f9d a4e =>
 opK Tryd.prog E (xV (Instr.fieldAt 102 f9d 0)) a4e fun f9e a2V =>
 opK Tryd.prog E (xU (Instr.storeAt 4 f9e c8j)) a2V fun _z_97 a4D =>
 xcut (fun _ g7M => c8C x0 x3 g7M R E) fun j2 =>
 xloop [6] [(Value.int .i64 0)] a4D fun τ_223 e3T next8 =>
 d7X x0 x3 (τ_223 6) e3T next8 j2 R E)
def c8G (x0 _x3 x4 x5 x11 x19 : Value) (w : World) (j1 : List Value → World → Prop) (_R : Value → World → Prop) (E : Pan) : Prop :=
 ∀ _τ : Fr, (xcond x19
 (j1 [x4, (Value.int .i64 1)] w)
 (opK Tryd.prog E (xBin .eql 3 (.tmp 11) (.const (Value.int .i64 7)) x11 (Value.int .i64 7)) w fun e7T e3U =>
 xcond e7T
 (j1 [x4, x5] e3U)
 (opK Tryd.prog E (xNil x0) e3U fun e7U g7N =>
 opK Tryd.prog E (xV (Instr.fieldAt 102 e7U 0)) g7N fun e7V g7O =>
 opK Tryd.prog E (xU (Instr.storeAt 4 e7V (Value.bool false))) g7O fun _z_241 g7P =>
 j1 [x4, x5] g7P)))
def F65 (x0 x1 : Value) (w : World) (R : Value → World → Prop) (E : Pan) : Prop :=
 opK Tryd.prog E (xV (Instr.box 88 x1)) w fun a1U w_2 =>
 xcut (fun e3V g7Q => c8D x0 a1U (nth e3V 0) (nth e3V.tail 0) g7Q R E) fun j1 =>
 opK Tryd.prog E (xV (Instr.fieldAt 88 a1U 0)) w_2 fun e7W g7R =>
 opK Tryd.prog E (xV (Instr.loadAt 3 e7W)) g7R fun b0d e3W =>
 opK Tryd.prog E (xBin .eql 3 (.tmp 11) (.const (Value.int .i64 1)) b0d (Value.int .i64 1)) e3W fun e7X e3X =>
 xcond e7X
 (j1 [(Value.int .i64 1), (Value.int .i64 0)] e3X)
 (opK Tryd.prog E (xBin .eql 3 (.tmp 11) (.const (Value.int .i64 2)) b0d (Value.int .i64 2)) e3X fun e7Y e3Y =>
 xcond e7Y
 (j1 [(Value.int .i64 2), (Value.int .i64 0)] e3Y)
 (xcut (fun g7S g7T => c8G x0 a1U (Value.int .i64 0) (Value.int .i64 0) b0d (nth g7S 0) g7T j1 R E) fun j9 =>
 opK Tryd.prog E (xBin .eql 3 (.tmp 11) (.const (Value.int .i64 3)) b0d (Value.int .i64 3)) e3Y fun d1g d3G =>
 xcond d1g
 (j9 [d1g] d3G)
 (opK Tryd.prog E (xBin .eql 3 (.tmp 11) (.const (Value.int .i64 4)) b0d (Value.int .i64 4)) d3G fun d1h e3Z =>
 xcond d1h
 (j9 [d1h] e3Z)
 (opK Tryd.prog E (xBin .eql 3 (.tmp 11) (.const (Value.int .i64 5)) b0d (Value.int .i64 5)) e3Z fun d1i e4a =>
 xcond d1i
 (j9 [d1i] e4a)
 (opK Tryd.prog E (xBin .eql 3 (.tmp 11) (.const (Value.int .i64 6)) b0d (Value.int .i64 6)) e4a fun e7Z g7U =>
 j9 [e7Z] g7U)))))
noncomputable def c65 : Code := Tryd.f65.body.getD .skip
def h65 : Hint := (.seq .none (.seq .none (.cut [4, 5] (.seq .none (.block (.seq .none (.cond .none (.seq .none (.cond .none (.cut [19] (.seq .none (.cond .none (.seq .none (.cond .none (.seq .none (.cond .none .none)))))) (.cond .none (.seq .none (.cond .none .none)))))))))) (.seq .none (.seq .none (.cut [] (.seq .none (.block (.loop [6] (.seq (.seq .none (.cond .none .none)) (.seq (.block .none) .none))))) (.cut [] (.seq .none (.block (.loop [7] (.seq (.seq .none (.cond .none .none)) (.seq (.block .none) .none))))) (.cut [] (.seq .none (.block (.loop [8] (.seq (.seq .none (.cond .none .none)) (.seq (.block .none) .none))))) (.seq .none (.block (.loop [9] (.seq (.seq .none (.cond .none .none)) (.seq (.block .none) .none)))))))))))))
theorem f9f (x0 x1 : Value) (w : World) (R : Value → World → Prop) (E : Pan) : F65 x0 x1 w R E = callX Tryd.prog [] c65 h65 [x0, x1] w R E := by kernel_rfl
theorem f9g {x0 x1 : Value} {w : World} {R : Value → World → Prop} {E : Pan} (h : F65 x0 x1 w R E) : Cv Tryd.prog 65 #[x0, x1] w R E := by
 refine i6 (args := [x0, x1]) (c := c65) (h := h65) (rs := []) Tryd.func65 (by kernel_rfl) (by kernel_rfl) (Nat.le_of_ble_eq_true (by kernel_rfl)) (by kernel_rfl) (by kernel_rfl) (by kernel_rfl) ?_
 rw [← f9f]
 exact h
def c8H (x3 : Value) (w : World) (R : Value → World → Prop) (E : Pan) : Prop :=
 ∀ _τ : Fr, (opK Tryd.prog E (xBin .leq 3 (.tmp 52) (.const (Value.int .i64 32)) x3 (Value.int .i64 32)) w fun f9h o8 =>
 R f9h o8)
def d7Y (x0 x3 x4 : Value) (w : World) (next2 : List Value → World → Prop) (j1 : List Value → World → Prop) (R : Value → World → Prop) (E : Pan) : Prop :=
 opK Tryd.prog E (xBuiltin .len #[9] 3 [false] [x0]) w fun b7v r5 =>
 opK Tryd.prog E (xBin .lss 3 (.tmp 20) (.tmp 22) x4 b7v) r5 fun b8f p7 =>
 xcond b8f
 (opK Tryd.prog E (xCall (Value.func (.func 118) #[] #[]) [x0, x4]) p7 fun b8g t1 =>
 opK Tryd.prog E (xV (Instr.extract b8g 0)) t1 fun a2T t8 =>
 opK Tryd.prog E (xV (Instr.extract b8g 1)) t8 fun c2a v2 =>
 opK Tryd.prog E (xV (Instr.extract b8g 2)) v2 fun f9i y7 =>
 opK Tryd.prog E (xCall (Value.func (.func 119) #[] #[]) [a2T]) y7 fun b2i A7 =>
 opK Tryd.prog E (xV (Op.unary .not f9i)) A7 fun a7b A4 =>
 opK Tryd.prog E (gsem (asB a7b) false (xBin .neq 3 (.tmp 36) (.const (Value.int .i64 3)) (gval (asB a7b) false b2i) (Value.int .i64 3))) A4 fun b3e A8 =>
 opK Tryd.prog E (gsem (asB (gval (asB a7b) false b3e)) true (xBin .neq 3 (.tmp 39) (.const (Value.int .i64 4)) (gval (asB (gval (asB a7b) false b3e)) true b2i) (Value.int .i64 4))) A8 fun a7c C9 =>
 opK Tryd.prog E (gsem (asB (gval (asB (gval (asB a7b) false b3e)) true a7c)) false (xBin .eql 3 (.tmp 42) (.const (Value.int .i64 0)) (gval (asB (gval (asB (gval (asB a7b) false b3e)) true a7c)) false x3) (Value.int .i64 0))) C9 fun b8h C0 =>
 opK Tryd.prog E (gsem (asB (gval (asB a7b) false b3e)) true (xPick (gval (asB (gval (asB a7b) false b3e)) true a7c) (Value.bool true) b8h)) C0 fun f9j D3 =>
 opK Tryd.prog E (gsem (asB a7b) false (xPick (gval (asB a7b) false b3e) f9j (Value.bool false))) D3 fun f9k E9 =>
 opK Tryd.prog E (xPick a7b (Value.bool true) f9k) E9 fun f9l E4 =>
 xcond f9l
 (R (Value.bool false) E4)
 (opK Tryd.prog E (xBin .add 3 (.tmp 47) (.const (Value.int .i64 1)) x3 (Value.int .i64 1)) E4 fun f9m K8 =>
 opK Tryd.prog E (xBin .add 3 (.tmp 49) (.tmp 50) x4 c2a) K8 fun f9n J7 =>
 next2 [f9m, f9n] J7))
 (j1 [x3] p7)
def F93 (x0 : Value) (w : World) (R : Value → World → Prop) (E : Pan) : Prop :=
 opK Tryd.prog E (xBin .eql 9 (.tmp 9) (.const (Value.string ⟨#[]⟩)) x0 (Value.string ⟨#[]⟩)) w fun a7k w_2 =>
 opK Tryd.prog E (gsem (asB a7k) false (xBuiltin .len #[9] 3 [false] [(gval (asB a7k) false x0)])) w_2 fun c2b w_4 =>
 opK Tryd.prog E (gsem (asB a7k) false (xBin .gtr 3 (.tmp 13) (.const (Value.int .i64 128)) c2b (Value.int .i64 128))) w_4 fun d3H w_6 =>
 opK Tryd.prog E (xPick a7k (Value.bool true) d3H) w_6 fun b6o w_8 =>
 opK Tryd.prog E (gsem (asB b6o) false (xCall (Value.func (.func 117) #[] #[]) [(gval (asB b6o) false x0)])) w_8 fun d3I o2 =>
 opK Tryd.prog E (xPick b6o (Value.bool true) d3I) o2 fun c8I o7 =>
 xcond c8I
 (R (Value.bool false) o7)
 (xcut (fun b7P p9 => c8H (nth b7P 0) p9 R E) fun j1 =>
 xloop [3, 4] [(Value.int .i64 0), (Value.int .i64 0)] o7 fun τ_49 G8 next2 =>
 d7Y x0 (τ_49 3) (τ_49 4) G8 next2 j1 R E)
noncomputable def c93 : Code := Tryd.f93.body.getD .skip
def h93 : Hint := (.seq .none (.seq (.seq .none (.cond (.seq .none .none) .none)) (.seq .none (.cut [3] (.seq .none (.block (.loop [3, 4] (.seq (.seq .none (.cond .none .none)) (.block (.seq .none (.seq .none (.seq (.seq .none (.cond (.seq .none .none) .none)) (.seq .none .none))))))))) (.seq .none .none)))))
theorem f9o (x0 : Value) (w : World) (R : Value → World → Prop) (E : Pan) : F93 x0 w R E = callX Tryd.prog [.tmp 2] c93 h93 [x0] w R E := by kernel_rfl
theorem f9p {x0 : Value} {w : World} {R : Value → World → Prop} {E : Pan} (h : F93 x0 w R E) : Cv Tryd.prog 93 #[x0] w R E := by
 refine i6 (args := [x0]) (c := c93) (h := h93) (rs := [.tmp 2]) Tryd.func93 (by kernel_rfl) (by kernel_rfl) (Nat.le_of_ble_eq_true (by kernel_rfl)) (by kernel_rfl) (by kernel_rfl) (by kernel_rfl) ?_
 rw [← f9o]
 exact h
def c3T (x4 : Value) (w : World) (R : Value → World → Prop) (_E : Pan) : Prop :=
 ∀ _τ : Fr, (xcond x4
 (R (Value.bool true) w)
 (R (Value.bool false) w))
def d3J (x0 : Value) (w : World) (R : Value → World → Prop) (E : Pan) : Prop :=
 xcut (fun l_1 w_2 => c3T (nth l_1 0) w_2 R E) fun j1 =>
 opK Tryd.prog E (xBin .eql 9 (.tmp 3) (.const (Value.string ⟨#[118, 97, 114]⟩)) x0 (Value.string ⟨#[118, 97, 114]⟩)) w fun b2g w_4 =>
 xcond b2g
 (j1 [b2g] w_4)
 (opK Tryd.prog E (xBin .eql 9 (.tmp 3) (.const (Value.string ⟨#[97, 114, 114, 97, 121]⟩)) x0 (Value.string ⟨#[97, 114, 114, 97, 121]⟩)) w_4 fun a5N w_6 =>
 xcond a5N
 (j1 [a5N] w_6)
 (opK Tryd.prog E (xBin .eql 9 (.tmp 3) (.const (Value.string ⟨#[105, 102]⟩)) x0 (Value.string ⟨#[105, 102]⟩)) w_6 fun a9S w_8 =>
 xcond a9S
 (j1 [a9S] w_8)
 (opK Tryd.prog E (xBin .eql 9 (.tmp 3) (.const (Value.string ⟨#[101, 108, 115, 101]⟩)) x0 (Value.string ⟨#[101, 108, 115, 101]⟩)) w_8 fun a7w o2 =>
 xcond a7w
 (j1 [a7w] o2)
 (opK Tryd.prog E (xBin .eql 9 (.tmp 3) (.const (Value.string ⟨#[119, 104, 105, 108, 101]⟩)) x0 (Value.string ⟨#[119, 104, 105, 108, 101]⟩)) o2 fun a7l o7 =>
 xcond a7l
 (j1 [a7l] o7)
 (opK Tryd.prog E (xBin .eql 9 (.tmp 3) (.const (Value.string ⟨#[97, 115, 115, 101, 114, 116]⟩)) x0 (Value.string ⟨#[97, 115, 115, 101, 114, 116]⟩)) o7 fun a8K o8 =>
 xcond a8K
 (j1 [a8K] o8)
 (opK Tryd.prog E (xBin .eql 9 (.tmp 3) (.const (Value.string ⟨#[97, 115, 115, 117, 109, 101]⟩)) x0 (Value.string ⟨#[97, 115, 115, 117, 109, 101]⟩)) o8 fun a8L p9 =>
 xcond a8L
 (j1 [a8L] p9)
 (opK Tryd.prog E (xBin .eql 9 (.tmp 3) (.const (Value.string ⟨#[115, 107, 105, 112]⟩)) x0 (Value.string ⟨#[115, 107, 105, 112]⟩)) p9 fun a6Q r5 =>
 xcond a6Q
 (j1 [a6Q] r5)
 (opK Tryd.prog E (xBin .eql 9 (.tmp 3) (.const (Value.string ⟨#[105, 110, 112, 117, 116]⟩)) x0 (Value.string ⟨#[105, 110, 112, 117, 116]⟩)) r5 fun a6R p7 =>
 xcond a6R
 (j1 [a6R] p7)
 (opK Tryd.prog E (xBin .eql 9 (.tmp 3) (.const (Value.string ⟨#[116, 114, 117, 101]⟩)) x0 (Value.string ⟨#[116, 114, 117, 101]⟩)) p7 fun b2h t1 =>
 xcond b2h
 (j1 [b2h] t1)
 (opK Tryd.prog E (xBin .eql 9 (.tmp 3) (.const (Value.string ⟨#[102, 97, 108, 115, 101]⟩)) x0 (Value.string ⟨#[102, 97, 108, 115, 101]⟩)) t1 fun c6Q t8 =>
 j1 [c6Q] t8))))))))))
noncomputable def f9q : Code := Tryd.f117.body.getD .skip
def f9r : Hint := (.seq .none (.seq (.seq .none (.block (.cut [4] (.seq .none (.cond .none (.seq .none (.cond .none (.seq .none (.cond .none (.seq .none (.cond .none (.seq .none (.cond .none (.seq .none (.cond .none (.seq .none (.cond .none (.seq .none (.cond .none (.seq .none (.cond .none (.seq .none (.cond .none .none)))))))))))))))))))) (.cond (.seq .none .none) .none)))) (.seq .none .none)))
theorem e8a (x0 : Value) (w : World) (R : Value → World → Prop) (E : Pan) : d3J x0 w R E = callX Tryd.prog [.tmp 2] f9q f9r [x0] w R E := by kernel_rfl
theorem e8b {x0 : Value} {w : World} {R : Value → World → Prop} {E : Pan} (h : d3J x0 w R E) : Cv Tryd.prog 117 #[x0] w R E := by
 refine i6 (args := [x0]) (c := f9q) (h := f9r) (rs := [.tmp 2]) Tryd.func117 (by kernel_rfl) (by kernel_rfl) (Nat.le_of_ble_eq_true (by kernel_rfl)) (by kernel_rfl) (by kernel_rfl) (by kernel_rfl) ?_
 rw [← e8a]
 exact h
def c3U (x8 x9 x10 : Value) (w : World) (R : Value → World → Prop) (E : Pan) : Prop :=
 ∀ _τ : Fr, (opK Tryd.prog E (xBin .lss 3 (.tmp 84) (.tmp 85) x10 x9) w fun d3K w_6 =>
 opK Tryd.prog E (gsem (asB d3K) false (xBin .gtr 3 (.tmp 88) (.const (Value.int .i64 1114111)) (gval (asB d3K) false x10) (Value.int .i64 1114111))) w_6 fun g7V w_8 =>
 opK Tryd.prog E (xPick d3K (Value.bool true) g7V) w_8 fun b6p o2 =>
 opK Tryd.prog E (gsem (asB b6p) false (xBin .geq 3 (.tmp 92) (.const (Value.int .i64 55296)) (gval (asB b6p) false x10) (Value.int .i64 55296))) o2 fun c8J o7 =>
 opK Tryd.prog E (gsem (asB (gval (asB b6p) false c8J)) true (xBin .lss 3 (.tmp 95) (.const (Value.int .i64 57344)) (gval (asB (gval (asB b6p) false c8J)) true x10) (Value.int .i64 57344))) o7 fun f9s o8 =>
 opK Tryd.prog E (gsem (asB b6p) false (xPick (gval (asB b6p) false c8J) f9s (Value.bool false))) o8 fun f9t p9 =>
 opK Tryd.prog E (xPick b6p (Value.bool true) f9t) p9 fun f9u r5 =>
 xcond f9u
 (R (Value.tuple #[(Value.int .i64 65533), (Value.int .i64 1), (Value.bool false)]) r5)
 (R (Value.tuple #[x10, x8, (Value.bool true)]) r5))
def d1j (x0 x1 x8 _x9 x10 x11 : Value) (w : World) (next3 : List Value → World → Prop) (j2 : List Value → World → Prop) (R : Value → World → Prop) (E : Pan) : Prop :=
 opK Tryd.prog E (xBin .lss 3 (.tmp 47) (.tmp 48) x11 x8) w fun c8t t1 =>
 xcond c8t
 (opK Tryd.prog E (xBin .add 3 (.tmp 52) (.tmp 53) x1 x11) t1 fun f9v t8 =>
 opK Tryd.prog E (xBuiltin .len #[9] 3 [false] [x0]) t8 fun f9w v2 =>
 opK Tryd.prog E (xBin .geq 3 (.tmp 54) (.tmp 56) f9v f9w) v2 fun b3f y7 =>
 opK Tryd.prog E (gsem (asB b3f) false (xBin .add 3 (.tmp 60) (.tmp 61) (gval (asB b3f) false x1) (gval (asB b3f) false x11))) y7 fun f9x A7 =>
 opK Tryd.prog E (gsem (asB b3f) false (xV (Instr.index 9 (gval (asB b3f) false x0) f9x))) A7 fun f9y A4 =>
 opK Tryd.prog E (gsem (asB b3f) false (xBin .lss 5 (.tmp 63) (.const (Value.int .u8 128)) f9y (Value.int .u8 128))) A4 fun f9z A8 =>
 opK Tryd.prog E (xPick b3f (Value.bool true) f9z) A8 fun b3g C9 =>
 opK Tryd.prog E (gsem (asB b3g) false (xBin .add 3 (.tmp 68) (.tmp 69) (gval (asB b3g) false x1) (gval (asB b3g) false x11))) C9 fun f9A C0 =>
 opK Tryd.prog E (gsem (asB b3g) false (xV (Instr.index 9 (gval (asB b3g) false x0) f9A))) C0 fun f9B D3 =>
 opK Tryd.prog E (gsem (asB b3g) false (xBin .geq 5 (.tmp 71) (.const (Value.int .u8 192)) f9B (Value.int .u8 192))) D3 fun f9C E9 =>
 opK Tryd.prog E (xPick b3g (Value.bool true) f9C) E9 fun f9D E4 =>
 xcond f9D
 (R (Value.tuple #[(Value.int .i64 65533), (Value.int .i64 1), (Value.bool false)]) E4)
 (opK Tryd.prog E (xBin .mul 3 (.const (Value.int .i64 64)) (.tmp 74) (Value.int .i64 64) x10) E4 fun f9E K8 =>
 opK Tryd.prog E (xBin .add 3 (.tmp 77) (.tmp 78) x1 x11) K8 fun f9F J7 =>
 opK Tryd.prog E (xV (Instr.index 9 x0 f9F)) J7 fun f9G G8 =>
 opK Tryd.prog E (xV (convert 5 3 f9G)) G8 fun f9H K5 =>
 opK Tryd.prog E (xBin .add 3 (.tmp 75) (.tmp 81) f9E f9H) K5 fun f9I M3 =>
 opK Tryd.prog E (xBin .sub 3 (.tmp 82) (.const (Value.int .i64 128)) f9I (Value.int .i64 128)) M3 fun f9J M7 =>
 opK Tryd.prog E (xBin .add 3 (.tmp 50) (.const (Value.int .i64 1)) x11 (Value.int .i64 1)) M7 fun f9K M8 =>
 next3 [f9J, f9K] M8))
 (j2 [x10] t1)
def c3V (x0 x1 x8 x9 x10 : Value) (w : World) (R : Value → World → Prop) (E : Pan) : Prop :=
 ∀ _τ : Fr, (xcut (fun d9D p7 => c3U x8 x9 (nth d9D 0) p7 R E) fun j2 =>
 xloop [10, 11] [x10, (Value.int .i64 1)] w fun τ_59 P8 next3 =>
 d1j x0 x1 x8 x9 (τ_59 10) (τ_59 11) P8 next3 j2 R E)
def d3L (x0 x1 : Value) (w : World) (R : Value → World → Prop) (E : Pan) : Prop :=
 opK Tryd.prog E (xV (Instr.index 9 x0 x1)) w fun g7W w_2 =>
 opK Tryd.prog E (xV (convert 5 3 g7W)) w_2 fun a9l w_4 =>
 xcut (fun e1K T9 => c3V x0 x1 (nth e1K 0) (nth e1K.tail 0) (nth e1K.tail.tail 0) T9 R E) fun j1 =>
 opK Tryd.prog E (xBin .lss 3 (.tmp 17) (.const (Value.int .i64 128)) a9l (Value.int .i64 128)) w_4 fun f9L Q2 =>
 xcond f9L
 (R (Value.tuple #[a9l, (Value.int .i64 1), (Value.bool true)]) Q2)
 (opK Tryd.prog E (xBin .geq 3 (.tmp 21) (.const (Value.int .i64 194)) a9l (Value.int .i64 194)) Q2 fun c8K U0 =>
 opK Tryd.prog E (gsem (asB c8K) true (xBin .lss 3 (.tmp 24) (.const (Value.int .i64 224)) (gval (asB c8K) true a9l) (Value.int .i64 224))) U0 fun f9M a0d =>
 opK Tryd.prog E (xPick c8K f9M (Value.bool false)) a0d fun f9N N1 =>
 xcond f9N
 (opK Tryd.prog E (xBin .sub 3 (.tmp 27) (.const (Value.int .i64 192)) a9l (Value.int .i64 192)) N1 fun f9O W0 =>
 j1 [(Value.int .i64 2), (Value.int .i64 128), f9O] W0)
 (opK Tryd.prog E (xBin .geq 3 (.tmp 30) (.const (Value.int .i64 224)) a9l (Value.int .i64 224)) N1 fun c8L a0e =>
 opK Tryd.prog E (gsem (asB c8L) true (xBin .lss 3 (.tmp 33) (.const (Value.int .i64 240)) (gval (asB c8L) true a9l) (Value.int .i64 240))) a0e fun f9P Z7 =>
 opK Tryd.prog E (xPick c8L f9P (Value.bool false)) Z7 fun f9Q W8 =>
 xcond f9Q
 (opK Tryd.prog E (xBin .sub 3 (.tmp 36) (.const (Value.int .i64 224)) a9l (Value.int .i64 224)) W8 fun c2c a2v =>
 j1 [(Value.int .i64 3), (Value.int .i64 2048), c2c] a2v)
 (opK Tryd.prog E (xBin .geq 3 (.tmp 39) (.const (Value.int .i64 240)) a9l (Value.int .i64 240)) W8 fun c8M a2U =>
 opK Tryd.prog E (gsem (asB c8M) true (xBin .lss 3 (.tmp 42) (.const (Value.int .i64 245)) (gval (asB c8M) true a9l) (Value.int .i64 245))) a2U fun f9R a3l =>
 opK Tryd.prog E (xPick c8M f9R (Value.bool false)) a3l fun f9S a3m =>
 xcond f9S
 (opK Tryd.prog E (xBin .sub 3 (.tmp 45) (.const (Value.int .i64 240)) a9l (Value.int .i64 240)) a3m fun f9T a2e =>
 j1 [(Value.int .i64 4), (Value.int .i64 65536), f9T] a2e)
 (R (Value.tuple #[(Value.int .i64 65533), (Value.int .i64 1), (Value.bool false)]) a3m))))
noncomputable def f9U : Code := Tryd.f118.body.getD .skip
def f9V : Hint := (.seq .none (.seq .none (.seq .none (.cut [8, 9, 10] (.block (.seq .none (.cond (.seq .none .none) (.seq .none (.cond .none (.seq .none (.cond .none (.seq .none (.cond .none (.seq .none .none)))))))))) (.cut [10] (.seq .none (.block (.loop [10, 11] (.seq (.seq .none (.cond .none .none)) (.seq (.block (.seq (.seq .none (.cond (.seq .none .none) .none)) .none)) .none))))) (.seq (.seq .none (.cond (.seq .none .none) .none)) (.seq .none .none)))))))
theorem e8c (x0 x1 : Value) (w : World) (R : Value → World → Prop) (E : Pan) : d3L x0 x1 w R E = callX Tryd.prog [.tmp 4, .tmp 5, .tmp 6] f9U f9V [x0, x1] w R E := by kernel_rfl
theorem e8d {x0 x1 : Value} {w : World} {R : Value → World → Prop} {E : Pan} (h : d3L x0 x1 w R E) : Cv Tryd.prog 118 #[x0, x1] w R E := by
 refine i6 (args := [x0, x1]) (c := f9U) (h := f9V) (rs := [.tmp 4, .tmp 5, .tmp 6]) Tryd.func118 (by kernel_rfl) (by kernel_rfl) (Nat.le_of_ble_eq_true (by kernel_rfl)) (by kernel_rfl) (by kernel_rfl) (by kernel_rfl) ?_
 rw [← e8c]
 exact h
def c3W (w : World) (R : Value → World → Prop) (_E : Pan) : Prop :=
 ∀ _τ : Fr, (R (Value.int .i64 6) w)
def d1k (x0 x3 x4 : Value) (w : World) (next2 : List Value → World → Prop) (j1 : List Value → World → Prop) (R : Value → World → Prop) (E : Pan) : Prop :=
 opK Tryd.prog E (xBuiltin .len #[9] 3 [false] [x3]) w fun f9W K5 =>
 opK Tryd.prog E (xBin .lss 3 (.tmp 53) (.tmp 55) x4 f9W) K5 fun f9X M3 =>
 xcond f9X
 (opK Tryd.prog E (xV (Instr.index 9 x3 x4)) M3 fun f9Y M7 =>
 opK Tryd.prog E (xV (convert 5 3 f9Y)) M7 fun c8E M8 =>
 opK Tryd.prog E (xBin .eql 3 (.tmp 59) (.tmp 63) x0 c8E) M8 fun c8F P8 =>
 xcond c8F
 (R (Value.int .i64 5) P8)
 (opK Tryd.prog E (xBin .add 3 (.tmp 57) (.const (Value.int .i64 1)) x4 (Value.int .i64 1)) P8 fun f9Z T9 =>
 next2 [f9Z] T9))
 (j1 [] M3)
def d3M (x0 : Value) (w : World) (R : Value → World → Prop) (E : Pan) : Prop :=
 opK Tryd.prog E (xBin .eql 3 (.tmp 5) (.const (Value.int .i64 32)) x0 (Value.int .i64 32)) w fun b0O w_2 =>
 opK Tryd.prog E (gsem (asB b0O) false (xBin .eql 3 (.tmp 8) (.const (Value.int .i64 9)) (gval (asB b0O) false x0) (Value.int .i64 9))) w_2 fun a5a w_4 =>
 opK Tryd.prog E (xPick b0O (Value.bool true) a5a) w_4 fun a2P w_6 =>
 opK Tryd.prog E (gsem (asB a2P) false (xBin .eql 3 (.tmp 12) (.const (Value.int .i64 13)) (gval (asB a2P) false x0) (Value.int .i64 13))) w_6 fun b5r w_8 =>
 opK Tryd.prog E (xPick a2P (Value.bool true) b5r) w_8 fun a7j o2 =>
 xcond a7j
 (R (Value.int .i64 1) o2)
 (opK Tryd.prog E (xBin .eql 3 (.tmp 15) (.const (Value.int .i64 10)) x0 (Value.int .i64 10)) o2 fun a1H o7 =>
 xcond a1H
 (R (Value.int .i64 2) o7)
 (opK Tryd.prog E (xCall (Value.func (.func 128) #[] #[]) [x0, (Value.int .i64 48), (Value.int .i64 57)]) o7 fun a5v o8 =>
 xcond a5v
 (R (Value.int .i64 4) o8)
 (opK Tryd.prog E (xCall (Value.func (.func 128) #[] #[]) [x0, (Value.int .i64 97), (Value.int .i64 122)]) o8 fun b7u p9 =>
 opK Tryd.prog E (gsem (asB b7u) false (xCall (Value.func (.func 128) #[] #[]) [(gval (asB b7u) false x0), (Value.int .i64 65), (Value.int .i64 90)])) p9 fun g0a r5 =>
 opK Tryd.prog E (xPick b7u (Value.bool true) g0a) r5 fun b7w p7 =>
 opK Tryd.prog E (gsem (asB b7w) false (xBin .eql 3 (.tmp 26) (.const (Value.int .i64 95)) (gval (asB b7w) false x0) (Value.int .i64 95))) p7 fun b8g t1 =>
 opK Tryd.prog E (xPick b7w (Value.bool true) b8g) t1 fun a2T t8 =>
 opK Tryd.prog E (gsem (asB a2T) false (xCall (Value.func (.func 128) #[] #[]) [(gval (asB a2T) false x0), (Value.int .i64 192), (Value.int .i64 591)])) t8 fun c8N v2 =>
 opK Tryd.prog E (gsem (asB (gval (asB a2T) false c8N)) true (xBin .neq 3 (.tmp 33) (.const (Value.int .i64 215)) (gval (asB (gval (asB a2T) false c8N)) true x0) (Value.int .i64 215))) v2 fun g0b y7 =>
 opK Tryd.prog E (gsem (asB a2T) false (xPick (gval (asB a2T) false c8N) g0b (Value.bool false))) y7 fun c8O A7 =>
 opK Tryd.prog E (gsem (asB (gval (asB a2T) false c8O)) true (xBin .neq 3 (.tmp 37) (.const (Value.int .i64 247)) (gval (asB (gval (asB a2T) false c8O)) true x0) (Value.int .i64 247))) A7 fun g0c A4 =>
 opK Tryd.prog E (gsem (asB a2T) false (xPick (gval (asB a2T) false c8O) g0c (Value.bool false))) A4 fun g0d A8 =>
 opK Tryd.prog E (xPick a2T (Value.bool true) g0d) A8 fun a7c C9 =>
 opK Tryd.prog E (gsem (asB a7c) false (xCall (Value.func (.func 128) #[] #[]) [(gval (asB a7c) false x0), (Value.int .i64 913), (Value.int .i64 969)])) C9 fun b8h C0 =>
 opK Tryd.prog E (gsem (asB (gval (asB a7c) false b8h)) true (xBin .neq 3 (.tmp 45) (.const (Value.int .i64 930)) (gval (asB (gval (asB a7c) false b8h)) true x0) (Value.int .i64 930))) C0 fun g0e D3 =>
 opK Tryd.prog E (gsem (asB a7c) false (xPick (gval (asB a7c) false b8h) g0e (Value.bool false))) D3 fun c8P E9 =>
 opK Tryd.prog E (xPick a7c (Value.bool true) c8P) E9 fun c8Q E4 =>
 opK Tryd.prog E (gsem (asB c8Q) false (xCall (Value.func (.func 128) #[] #[]) [(gval (asB c8Q) false x0), (Value.int .i64 1040), (Value.int .i64 1103)])) E4 fun g0f K8 =>
 opK Tryd.prog E (xPick c8Q (Value.bool true) g0f) K8 fun g0g J7 =>
 xcond g0g
 (R (Value.int .i64 3) J7)
 (xcut (fun _ G8 => c3W G8 R E) fun j1 =>
 xloop [4] [(Value.int .i64 0)] J7 fun τ_63 Q2 next2 =>
 d1k x0 (Value.string ⟨#[59, 44, 123, 125, 40, 41, 91, 93, 61, 33, 60, 62, 43, 45, 42, 47, 37, 38, 124]⟩) (τ_63 4) Q2 next2 j1 R E))))
noncomputable def g0h : Code := Tryd.f119.body.getD .skip
def g0i : Hint := (.seq .none (.seq (.seq .none (.cond (.seq .none .none) .none)) (.seq (.seq .none (.cond (.seq .none .none) .none)) (.seq (.seq .none (.cond (.seq .none .none) .none)) (.seq (.seq .none (.cond (.seq .none .none) .none)) (.seq .none (.cut [] (.seq .none (.block (.loop [4] (.seq (.seq .none (.cond .none .none)) (.seq (.block (.seq .none (.cond (.seq .none .none) .none))) .none))))) (.seq .none .none))))))))
theorem e8e (x0 : Value) (w : World) (R : Value → World → Prop) (E : Pan) : d3M x0 w R E = callX Tryd.prog [.tmp 2] g0h g0i [x0] w R E := by kernel_rfl
theorem e8f {x0 : Value} {w : World} {R : Value → World → Prop} {E : Pan} (h : d3M x0 w R E) : Cv Tryd.prog 119 #[x0] w R E := by
 refine i6 (args := [x0]) (c := g0h) (h := g0i) (rs := [.tmp 2]) Tryd.func119 (by kernel_rfl) (by kernel_rfl) (Nat.le_of_ble_eq_true (by kernel_rfl)) (by kernel_rfl) (by kernel_rfl) (by kernel_rfl) ?_
 rw [← e8e]
 exact h
def d3N (x0 x1 x2 : Value) (w : World) (R : Value → World → Prop) (E : Pan) : Prop :=
 opK Tryd.prog E (xBin .geq 3 (.tmp 7) (.tmp 8) x0 x1) w fun d3O w_2 =>
 opK Tryd.prog E (gsem (asB d3O) true (xBin .leq 3 (.tmp 11) (.tmp 12) (gval (asB d3O) true x0) (gval (asB d3O) true x2))) w_2 fun c2b w_4 =>
 opK Tryd.prog E (xPick d3O c2b (Value.bool false)) w_4 fun d3H w_6 =>
 R d3H w_6
noncomputable def g0j : Code := Tryd.f128.body.getD .skip
def g0k : Hint := (.seq .none (.seq .none .none))
theorem e8g (x0 x1 x2 : Value) (w : World) (R : Value → World → Prop) (E : Pan) : d3N x0 x1 x2 w R E = callX Tryd.prog [.tmp 6] g0j g0k [x0, x1, x2] w R E := by kernel_rfl
theorem e8h {x0 x1 x2 : Value} {w : World} {R : Value → World → Prop} {E : Pan} (h : d3N x0 x1 x2 w R E) : Cv Tryd.prog 128 #[x0, x1, x2] w R E := by
 refine i6 (args := [x0, x1, x2]) (c := g0j) (h := g0k) (rs := [.tmp 6]) Tryd.func128 (by kernel_rfl) (by kernel_rfl) (Nat.le_of_ble_eq_true (by kernel_rfl)) (by kernel_rfl) (by kernel_rfl) (by kernel_rfl) ?_
 rw [← e8g]
 exact h
end Go.Proofs.YthldnpmfelniiaaDoor
