/- The second reading of some of the program's functions, printed by gen2.py off the code; each is held against the code by the kernel. -/
import Derived.Test.YthldnpmfelniiaaDoorProg
import Derived.Test.YthldnpmfelniiaaDoorCK0
import Derived.KernelRfl
namespace Go.Proofs.YthldnpmfelniiaaDoor
open Go.RowKit
set_option maxRecDepth 100000
def F4 (x0 x1 : Value) (w : World) (R : Value → World → Prop) (E : Pan) : Prop :=
 opK Tryd.prog E (xV (Instr.box 30 x0)) w fun V4 w_2 =>
 opK Tryd.prog E (xV (Instr.box 33 x1)) w_2 fun F7 w_4 =>
 dX w_4 fun w_5 =>
 opK Tryd.prog E (xCall (Value.func (.func 14) #[] #[]) []) w_5 fun a6N w_7 =>
 keepX [] w_5 w_7 (qL Tryd.prog w_7 (blk V4) (gsem (asB a6N) true (xV (Instr.loadAt 30 V4))) fun d4N =>
 qL Tryd.prog w_7 (blk V4) (gsem (asB a6N) true (xV (Instr.loadAt 30 V4))) fun a6n =>
 opK Tryd.prog E (gsem (asB a6N) true (xCall (Value.func (.func 17) #[] #[]) [d4N])) w_7 fun c8U Y2 =>
 keepX [(blk V4)] w_7 Y2 (opK Tryd.prog E (gsem (asB a6N) true (xCall (Value.func (.func 18) #[] #[]) [a6n])) Y2 fun c4G V5 =>
 keepX [] Y2 V5 (qP Tryd.prog (gsem (asB a6N) true (xBin .eql 3 (.tmp 8) (.tmp 10) c8U c4G)) fun c4H =>
 qP Tryd.prog (xPick a6N c4H (Value.bool false)) fun a6y =>
 qL Tryd.prog V5 (blk F7) (gsem (asB a6y) true (xV (Instr.loadAt 33 F7))) fun f1H =>
 qL Tryd.prog V5 (blk F7) (gsem (asB a6y) true (xV (Instr.loadAt 33 F7))) fun b0Q =>
 opK Tryd.prog E (gsem (asB a6y) true (xCall (Value.func (.func 19) #[] #[]) [f1H])) V5 fun b0W a5L =>
 keepX [(blk F7)] V5 a5L (opK Tryd.prog E (gsem (asB a6y) true (xCall (Value.func (.func 20) #[] #[]) [b0Q])) a5L fun f1I a0q =>
 keepX [] a5L a0q (qP Tryd.prog (gsem (asB a6y) true (xBin .eql 3 (.tmp 15) (.tmp 17) b0W f1I)) fun b5O =>
 qP Tryd.prog (xPick a6y b5O (Value.bool false)) fun a7F =>
 R a7F a0q)))))
def h4 : Hint := (.seq .none (.seq (.reg [(0, 32, 0), (1, 64, 32), (2, 128, 68), (6, 256, 192), (2, 512, 68), (26, 1024, 576), (42, 2048, 1344), (66, 4096, 2112), (160, 8192, 4096), (256, 16384, 8200), (768, 32768, 24576), (256, 65536, 8200), (3328, 131072, 73728), (5376, 262144, 172032), (8448, 524288, 270336), (32767, 16, 524288)] [0, 2580, 2576, 16, 2564, 0, 2580, 2580, 2580, 2068, 2048, 532, 0, 2580, 2580, 2580] (.step 0 (.early 1 (.load 2 (.load 4 (.step 3 (.step 5 (.early 6 (.early 7 (.early 8 (.load 9 (.load 11 (.step 10 (.step 12 (.early 13 (.early 14 (.early 15 .done))))))))))))))))) .none))
def c5R (x4 : Value) (w : World) (R : Value → World → Prop) (E : Pan) : Prop :=
 ∀ _τ : Fr, (opK Tryd.prog E (xV (Instr.loadAt 102 x4)) w fun f1J v8 =>
 opK Tryd.prog E (xCall (Value.func (.func 60) #[] #[]) [f1J]) v8 fun f1K t7 =>
 R f1K t7)
def d3X (x1 x4 x6 : Value) (w : World) (next3 : List Value → World → Prop) (j2 : List Value → World → Prop) (_R : Value → World → Prop) (E : Pan) : Prop :=
 opK Tryd.prog E (xV (Instr.fieldAt 25 x1 1)) w fun c5S A8 =>
 opK Tryd.prog E (xV (Instr.loadAt 23 c5S)) A8 fun c5T B2 =>
 opK Tryd.prog E (xBuiltin .len #[23] 3 [false] [c5T]) B2 fun c5U v2 =>
 opK Tryd.prog E (xBin .lss 3 (.tmp 50) (.tmp 53) x6 c5U) v2 fun b6U C3 =>
 opK Tryd.prog E (gsem (asB b6U) true (xV (Instr.fieldAt 102 x4 0))) C3 fun f1L G5 =>
 opK Tryd.prog E (gsem (asB b6U) true (xV (Instr.loadAt 4 f1L))) G5 fun f1M E5 =>
 opK Tryd.prog E (xPick b6U f1M (Value.bool false)) E5 fun f1N K0 =>
 xcond f1N
 (opK Tryd.prog E (xV (Instr.fieldAt 25 x1 1)) K0 fun f1O I8 =>
 opK Tryd.prog E (xV (Instr.loadAt 23 f1O)) I8 fun f1P I9 =>
 opK Tryd.prog E (xV (Instr.indexAt 23 f1P x6)) I9 fun f1Q O7 =>
 opK Tryd.prog E (xV (Instr.loadAt 88 f1Q)) O7 fun f1R P6 =>
 opK Tryd.prog E (xCall (Value.func (.func 65) #[] #[]) [x4, f1R]) P6 fun _t66_55 L4 =>
 opK Tryd.prog E (xBin .add 3 (.tmp 59) (.const (Value.int .i64 1)) x6 (Value.int .i64 1)) L4 fun c5V P7 =>
 next3 [c5V] P7)
 (j2 [] K0)
def c5W (x1 x4 : Value) (w : World) (R : Value → World → Prop) (E : Pan) : Prop :=
 ∀ _τ : Fr, (xcut (fun _ y8 => c5R x4 y8 R E) fun j2 =>
 xloop [6] [(Value.int .i64 0)] w fun τ_59 W5 next3 =>
 d3X x1 x4 (τ_59 6) W5 next3 j2 R E)
def d3Y (x1 x4 x5 : Value) (w : World) (next4 : List Value → World → Prop) (j1 : List Value → World → Prop) (_R : Value → World → Prop) (E : Pan) : Prop :=
 opK Tryd.prog E (xV (Instr.fieldAt 25 x1 0)) w fun f1S V6 =>
 opK Tryd.prog E (xV (Instr.loadAt 22 f1S)) V6 fun f1T a0p =>
 opK Tryd.prog E (xBuiltin .len #[22] 3 [false] [f1T]) a0p fun f1U a0F =>
 opK Tryd.prog E (xBin .lss 3 (.tmp 15) (.tmp 18) x5 f1U) a0F fun f1V O8 =>
 xcond f1V
 (opK Tryd.prog E (xV (Instr.fieldAt 102 x4 0)) O8 fun f1W a0G =>
 opK Tryd.prog E (xV (Instr.loadAt 4 f1W)) a0G fun a9H a1h =>
 opK Tryd.prog E (gsem (asB a9H) true (xV (Instr.fieldAt 25 x1 0))) a1h fun f1X a1i =>
 opK Tryd.prog E (gsem (asB a9H) true (xV (Instr.loadAt 22 f1X))) a1i fun f1Y a1Q =>
 opK Tryd.prog E (gsem (asB a9H) true (xV (Instr.indexAt 22 f1Y (gval (asB a9H) true x5)))) a1Q fun f1Z a1R =>
 opK Tryd.prog E (gsem (asB a9H) true (xV (Instr.fieldAt 67 f1Z 1))) a1R fun f2a a2D =>
 opK Tryd.prog E (gsem (asB a9H) true (xV (Instr.loadAt 3 f2a))) a2D fun f2b a2R =>
 opK Tryd.prog E (gsem (asB a9H) true (xBin .geq 3 (.tmp 30) (.const (Value.int .i64 0)) f2b (Value.int .i64 0))) a2R fun f2c a2S =>
 opK Tryd.prog E (xPick a9H f2c (Value.bool false)) a2S fun a9I a2T =>
 opK Tryd.prog E (gsem (asB a9I) true (xV (Instr.fieldAt 25 x1 0))) a2T fun f2d a4N =>
 opK Tryd.prog E (gsem (asB a9I) true (xV (Instr.loadAt 22 f2d))) a4N fun f2e a4O =>
 opK Tryd.prog E (gsem (asB a9I) true (xV (Instr.indexAt 22 f2e (gval (asB a9I) true x5)))) a4O fun f2f a4r =>
 opK Tryd.prog E (gsem (asB a9I) true (xV (Instr.fieldAt 67 f2f 1))) a4r fun f2g a3R =>
 opK Tryd.prog E (gsem (asB a9I) true (xV (Instr.loadAt 3 f2g))) a3R fun f2h a4P =>
 opK Tryd.prog E (gsem (asB a9I) true (xBin .leq 3 (.tmp 39) (.const (Value.int .i64 2147483647)) f2h (Value.int .i64 2147483647))) a4P fun f2i a2J =>
 opK Tryd.prog E (xPick a9I f2i (Value.bool false)) a2J fun e1P a2K =>
 opK Tryd.prog E (xV (Instr.fieldAt 102 x4 0)) a2K fun e1Q a3D =>
 opK Tryd.prog E (xU (Instr.storeAt 4 e1Q e1P)) a3D fun _z_105 a4f =>
 opK Tryd.prog E (xV (Instr.fieldAt 25 x1 0)) a4f fun e1R a5d =>
 opK Tryd.prog E (xV (Instr.loadAt 22 e1R)) a5d fun e1S a4y =>
 opK Tryd.prog E (xV (Instr.indexAt 22 e1S x5)) a4y fun e1T a4z =>
 opK Tryd.prog E (xV (Instr.fieldAt 67 e1T 0)) a4z fun e1U a5e =>
 opK Tryd.prog E (xV (Instr.loadAt 9 e1U)) a5e fun e1V a5C =>
 opK Tryd.prog E (xCall (Value.func (.func 64) #[] #[]) [x4, e1V, (Value.bool true)]) a5C fun _t49_117 a5D =>
 opK Tryd.prog E (xBin .add 3 (.tmp 20) (.const (Value.int .i64 1)) x5 (Value.int .i64 1)) a5D fun e1W a5E =>
 next4 [e1W] a5E)
 (j1 [] O8)
def F23 (x0 : Value) (w : World) (R : Value → World → Prop) (E : Pan) : Prop :=
 opK Tryd.prog E (xV (Instr.box 25 x0)) w fun t6 w_2 =>
 opK Tryd.prog E (xV (Instr.loadAt 25 t6)) w_2 fun a7C w_4 =>
 opK Tryd.prog E (xCall (Value.func (.func 63) #[] #[]) [a7C]) w_4 fun c3C w_6 =>
 opK Tryd.prog E (xV (Instr.alloc 99 true (.tuple #[]))) w_6 fun b8h w_8 =>
 opK Tryd.prog E (xU (Instr.storeAt 99 b8h c3C)) w_8 fun _z_9 m1 =>
 opK Tryd.prog E (xV (Instr.fieldAt 99 b8h 2)) m1 fun b0g k6 =>
 opK Tryd.prog E (xV (Instr.loadAt 3 b0g)) k6 fun a4c o3 =>
 opK Tryd.prog E (xBin .neq 3 (.tmp 10) (.const (Value.int .i64 0)) a4c (Value.int .i64 0)) o3 fun a4I q7 =>
 xcond a4I
 (opK Tryd.prog E (xV (Instr.fieldAt 99 b8h 2)) q7 fun a4J r6 =>
 opK Tryd.prog E (xV (Instr.loadAt 3 a4J)) r6 fun a4K o7 =>
 R a4K o7)
 (opK Tryd.prog E (xV (Instr.build 102 #[(0, (Value.bool true)), (1, (Value.bool true))])) q7 fun a4L r7 =>
 opK Tryd.prog E (xV (Instr.alloc 102 true (.tuple #[]))) r7 fun d0K r5 =>
 opK Tryd.prog E (xU (Instr.storeAt 102 d0K a4L)) r5 fun _z_25 u6 =>
 xcut (fun _ a0o => c5W t6 d0K a0o R E) fun j1 =>
 xloop [5] [(Value.int .i64 0)] u6 fun τ_121 a7L next4 =>
 d3Y t6 d0K (τ_121 5) a7L next4 j1 R E)
noncomputable def c23 : Code := Tryd.f23.body.getD .skip
def h23 : Hint := (.seq .none (.seq .none (.seq (.seq .none (.cond (.seq .none .none) .none)) (.seq .none (.cut [] (.seq .none (.block (.loop [5] (.seq (.seq .none (.cond .none .none)) (.seq (.block (.seq .none .none)) .none))))) (.cut [] (.seq .none (.block (.loop [6] (.seq (.seq .none (.cond .none .none)) (.seq (.block .none) .none))))) (.seq .none .none)))))))
theorem f2j (x0 : Value) (w : World) (R : Value → World → Prop) (E : Pan) : F23 x0 w R E = callX Tryd.prog [.tmp 2] c23 h23 [x0] w R E := by kernel_rfl
theorem f2k {x0 : Value} {w : World} {R : Value → World → Prop} {E : Pan} (h : F23 x0 w R E) : Cv Tryd.prog 23 #[x0] w R E := by
 refine g8 (args := [x0]) (c := c23) (h := h23) (rs := [.tmp 2]) Tryd.func23 (by kernel_rfl) (by kernel_rfl) (Nat.le_of_ble_eq_true (by kernel_rfl)) (by kernel_rfl) (by kernel_rfl) (by kernel_rfl) ?_
 rw [← f2j]
 exact h
def d3Z (x0 x3 x5 : Value) (w : World) (next2 : List Value → World → Prop) (R : Value → World → Prop) (E : Pan) : Prop :=
 opK Tryd.prog E (xV (Instr.fieldAt 30 x3 3)) w fun f2l O8 =>
 opK Tryd.prog E (xV (Instr.loadAt 28 f2l)) O8 fun f2m a0G =>
 opK Tryd.prog E (xBuiltin .len #[28] 3 [false] [f2m]) a0G fun f2n a1h =>
 opK Tryd.prog E (xBin .lss 3 (.tmp 65) (.tmp 68) x5 f2n) a1h fun b6V a1i =>
 opK Tryd.prog E (gsem (asB b6V) true (xNil (gval (asB b6V) true x0))) a1i fun f2o a1Q =>
 opK Tryd.prog E (gsem (asB b6V) true (xV (Instr.fieldAt 102 f2o 0))) a1Q fun f2p a1R =>
 opK Tryd.prog E (gsem (asB b6V) true (xV (Instr.loadAt 4 f2p))) a1R fun f2q a2D =>
 opK Tryd.prog E (xPick b6V f2q (Value.bool false)) a2D fun f2r a2R =>
 xcond f2r
 (opK Tryd.prog E (xV (Instr.fieldAt 30 x3 3)) a2R fun f2s a2S =>
 opK Tryd.prog E (xV (Instr.loadAt 28 f2s)) a2S fun f2t a2T =>
 opK Tryd.prog E (xV (Instr.indexAt 28 f2t x5)) a2T fun c5X a4N =>
 opK Tryd.prog E (xV (Instr.loadAt 30 c5X)) a4N fun c5Y a4O =>
 opK Tryd.prog E (xCall (Value.func (.func 59) #[] #[]) [x0, c5Y]) a4O fun _t84_93 a4r =>
 opK Tryd.prog E (xBin .add 3 (.tmp 76) (.const (Value.int .i64 1)) x5 (Value.int .i64 1)) a4r fun f2u a3R =>
 next2 [f2u] a3R)
 (R (Value.tuple #[]) a2R)
def c5Z (x0 x3 x4 : Value) (w : World) (R : Value → World → Prop) (E : Pan) : Prop :=
 ∀ _τ : Fr, (opK Tryd.prog E (xV (Instr.fieldAt 30 x3 2)) w fun f9p w_4 =>
 opK Tryd.prog E (xV (Instr.loadAt 9 f9p)) w_4 fun c8Y w_6 =>
 opK Tryd.prog E (xV (Instr.fieldAt 30 x3 0)) w_6 fun f9q w_8 =>
 opK Tryd.prog E (xV (Instr.loadAt 3 f9q)) w_8 fun f9r m1 =>
 opK Tryd.prog E (xBin .eql 3 (.tmp 28) (.const (Value.int .i64 2)) f9r (Value.int .i64 2)) m1 fun c0p k6 =>
 opK Tryd.prog E (gsem (asB c0p) false (xV (Instr.fieldAt 30 x3 0))) k6 fun c6a o3 =>
 opK Tryd.prog E (gsem (asB c0p) false (xV (Instr.loadAt 3 c6a))) o3 fun c6b q7 =>
 opK Tryd.prog E (gsem (asB c0p) false (xBin .eql 3 (.tmp 32) (.const (Value.int .i64 4)) c6b (Value.int .i64 4))) q7 fun f2v r6 =>
 opK Tryd.prog E (xPick c0p (Value.bool true) f2v) r6 fun f2w o7 =>
 opK Tryd.prog E (xCall (Value.func (.func 64) #[] #[]) [x0, c8Y, f2w]) o7 fun _t35_21 r7 =>
 opK Tryd.prog E (xNil x0) r7 fun f2x r5 =>
 opK Tryd.prog E (xV (Instr.fieldAt 102 f2x 0)) r5 fun f2y u6 =>
 opK Tryd.prog E (xV (Instr.loadAt 4 f2y)) u6 fun b3H v8 =>
 opK Tryd.prog E (gsem (asB b3H) true (xV (Instr.fieldAt 30 x3 3))) v8 fun f2z t7 =>
 opK Tryd.prog E (gsem (asB b3H) true (xV (Instr.loadAt 28 f2z))) t7 fun f2A y8 =>
 opK Tryd.prog E (gsem (asB b3H) true (xBuiltin .len #[28] 3 [false] [f2A])) y8 fun f2B A8 =>
 opK Tryd.prog E (gsem (asB b3H) true (xBin .eql 3 (.tmp 44) (.tmp 45) f2B (gval (asB b3H) true x4))) A8 fun f2C B2 =>
 opK Tryd.prog E (xPick b3H f2C (Value.bool false)) B2 fun a4m v2 =>
 opK Tryd.prog E (gsem (asB a4m) true (xV (Instr.fieldAt 30 x3 1))) v2 fun f2D C3 =>
 opK Tryd.prog E (gsem (asB a4m) true (xV (Instr.loadAt 2 f2D))) C3 fun f2E G5 =>
 opK Tryd.prog E (gsem (asB a4m) true (xBin .eql 2 (.tmp 50) (.const (Value.int .i64 0)) f2E (Value.int .i64 0))) G5 fun a8l E5 =>
 opK Tryd.prog E (gsem (asB (gval (asB a4m) true a8l)) false (xV (Instr.fieldAt 30 x3 0))) E5 fun f2F K0 =>
 opK Tryd.prog E (gsem (asB (gval (asB a4m) true a8l)) false (xV (Instr.loadAt 3 f2F))) K0 fun f2G I8 =>
 opK Tryd.prog E (gsem (asB (gval (asB a4m) true a8l)) false (xBin .eql 3 (.tmp 54) (.const (Value.int .i64 1)) f2G (Value.int .i64 1))) I8 fun c0q I9 =>
 opK Tryd.prog E (gsem (asB (gval (asB (gval (asB a4m) true a8l)) false c0q)) true (xV (Instr.fieldAt 30 x3 1))) I9 fun f2H O7 =>
 opK Tryd.prog E (gsem (asB (gval (asB (gval (asB a4m) true a8l)) false c0q)) true (xV (Instr.loadAt 2 f2H))) O7 fun f2I P6 =>
 opK Tryd.prog E (gsem (asB (gval (asB (gval (asB a4m) true a8l)) false c0q)) true (xBin .gtr 2 (.tmp 58) (.const (Value.int .i64 0)) f2I (Value.int .i64 0))) P6 fun f2J L4 =>
 opK Tryd.prog E (gsem (asB (gval (asB a4m) true a8l)) false (xPick (gval (asB (gval (asB a4m) true a8l)) false c0q) f2J (Value.bool false))) L4 fun c5V P7 =>
 opK Tryd.prog E (gsem (asB a4m) true (xPick (gval (asB a4m) true a8l) (Value.bool true) c5V)) P7 fun f2K W5 =>
 opK Tryd.prog E (xPick a4m f2K (Value.bool false)) W5 fun f2L a0o =>
 opK Tryd.prog E (xNil x0) a0o fun f2M V6 =>
 opK Tryd.prog E (xV (Instr.fieldAt 102 f2M 0)) V6 fun f2N a0p =>
 opK Tryd.prog E (xU (Instr.storeAt 4 f2N f2L)) a0p fun _z_67 a0F =>
 xloop [5] [(Value.int .i64 0)] a0F fun τ_97 a4P next2 =>
 d3Z x0 x3 (τ_97 5) a4P next2 R E)
def c6c (x0 _x3 x4 x18 : Value) (w : World) (j1 : List Value → World → Prop) (_R : Value → World → Prop) (E : Pan) : Prop :=
 ∀ _τ : Fr, (xcond x18
 (j1 [(Value.int .i64 2)] w)
 (opK Tryd.prog E (xNil x0) w fun f2O a4f =>
 opK Tryd.prog E (xV (Instr.fieldAt 102 f2O 0)) a4f fun e1X a5d =>
 opK Tryd.prog E (xU (Instr.storeAt 4 e1X (Value.bool false))) a5d fun _z_109 a4y =>
 j1 [x4] a4y))
def c6d (x0 x3 x4 x7 x15 : Value) (w : World) (j1 : List Value → World → Prop) (R : Value → World → Prop) (E : Pan) : Prop :=
 ∀ _τ : Fr, (xcond x15
 (j1 [(Value.int .i64 1)] w)
 (xcut (fun b9Y a4z => c6c x0 x3 x4 (nth b9Y 0) a4z j1 R E) fun j5 =>
 opK Tryd.prog E (xBin .eql 3 (.tmp 7) (.const (Value.int .i64 6)) x7 (Value.int .i64 6)) w fun c8e a5e =>
 xcond c8e
 (j5 [c8e] a5e)
 (opK Tryd.prog E (xBin .eql 3 (.tmp 7) (.const (Value.int .i64 7)) x7 (Value.int .i64 7)) a5e fun c8f a5C =>
 xcond c8f
 (j5 [c8f] a5C)
 (opK Tryd.prog E (xBin .eql 3 (.tmp 7) (.const (Value.int .i64 8)) x7 (Value.int .i64 8)) a5C fun c8g a5D =>
 xcond c8g
 (j5 [c8g] a5D)
 (opK Tryd.prog E (xBin .eql 3 (.tmp 7) (.const (Value.int .i64 9)) x7 (Value.int .i64 9)) a5D fun c8h a5E =>
 xcond c8h
 (j5 [c8h] a5E)
 (opK Tryd.prog E (xBin .eql 3 (.tmp 7) (.const (Value.int .i64 10)) x7 (Value.int .i64 10)) a5E fun e1Y a7L =>
 j5 [e1Y] a7L))))))
def c6e (x0 x3 x4 x7 x11 : Value) (w : World) (j1 : List Value → World → Prop) (R : Value → World → Prop) (E : Pan) : Prop :=
 ∀ _τ : Fr, (xcond x11
 (j1 [x4] w)
 (xcut (fun f9s b0j => c6d x0 x3 x4 x7 (nth f9s 0) b0j j1 R E) fun j4 =>
 opK Tryd.prog E (xBin .eql 3 (.tmp 7) (.const (Value.int .i64 4)) x7 (Value.int .i64 4)) w fun c8i a9r =>
 xcond c8i
 (j4 [c8i] a9r)
 (opK Tryd.prog E (xBin .eql 3 (.tmp 7) (.const (Value.int .i64 5)) x7 (Value.int .i64 5)) a9r fun e1Z b0k =>
 j4 [e1Z] b0k)))
def F59 (x0 x1 : Value) (w : World) (R : Value → World → Prop) (E : Pan) : Prop :=
 opK Tryd.prog E (xV (Instr.box 30 x1)) w fun a4T w_2 =>
 xcut (fun d4Y a2J => c5Z x0 a4T (nth d4Y 0) a2J R E) fun j1 =>
 opK Tryd.prog E (xV (Instr.fieldAt 30 a4T 0)) w_2 fun f2P a2K =>
 opK Tryd.prog E (xV (Instr.loadAt 3 f2P)) a2K fun c0r a3D =>
 xcut (fun f9t a9s => c6e x0 a4T (Value.int .i64 0) c0r (nth f9t 0) a9s j1 R E) fun j3 =>
 opK Tryd.prog E (xBin .eql 3 (.tmp 7) (.const (Value.int .i64 1)) c0r (Value.int .i64 1)) a3D fun c8j a7M =>
 xcond c8j
 (j3 [c8j] a7M)
 (opK Tryd.prog E (xBin .eql 3 (.tmp 7) (.const (Value.int .i64 2)) c0r (Value.int .i64 2)) a7M fun c8k a7N =>
 xcond c8k
 (j3 [c8k] a7N)
 (opK Tryd.prog E (xBin .eql 3 (.tmp 7) (.const (Value.int .i64 3)) c0r (Value.int .i64 3)) a7N fun e2a a9t =>
 j3 [e2a] a9t))
noncomputable def c59 : Code := Tryd.f59.body.getD .skip
def h59 : Hint := (.seq .none (.seq .none (.cut [4] (.seq .none (.block (.cut [11] (.seq .none (.cond .none (.seq .none (.cond .none .none)))) (.cond .none (.cut [15] (.seq .none (.cond .none .none)) (.cond .none (.cut [18] (.seq .none (.cond .none (.seq .none (.cond .none (.seq .none (.cond .none (.seq .none (.cond .none .none)))))))) (.cond .none .none)))))))) (.seq .none (.seq .none (.seq .none (.block (.loop [5] (.seq (.seq .none (.cond .none .none)) (.seq (.block .none) .none))))))))))
theorem f2Q (x0 x1 : Value) (w : World) (R : Value → World → Prop) (E : Pan) : F59 x0 x1 w R E = callX Tryd.prog [] c59 h59 [x0, x1] w R E := by kernel_rfl
theorem f2R {x0 x1 : Value} {w : World} {R : Value → World → Prop} {E : Pan} (h : F59 x0 x1 w R E) : Cv Tryd.prog 59 #[x0, x1] w R E := by
 refine g8 (args := [x0, x1]) (c := c59) (h := h59) (rs := []) Tryd.func59 (by kernel_rfl) (by kernel_rfl) (Nat.le_of_ble_eq_true (by kernel_rfl)) (by kernel_rfl) (by kernel_rfl) (by kernel_rfl) ?_
 rw [← f2Q]
 exact h
def F60 (x0 : Value) (w : World) (R : Value → World → Prop) (E : Pan) : Prop :=
 opK Tryd.prog E (xV (Instr.box 102 x0)) w fun t6 w_2 =>
 opK Tryd.prog E (xV (Instr.fieldAt 102 t6 0)) w_2 fun F7 w_4 =>
 opK Tryd.prog E (xV (Instr.loadAt 4 F7)) w_4 fun a2P w_6 =>
 opK Tryd.prog E (xV (Op.unary .not a2P)) w_6 fun a4Y w_8 =>
 xcond a4Y
 (R (Value.int .i64 30) w_8)
 (opK Tryd.prog E (xV (Instr.fieldAt 102 t6 1)) w_8 fun a8P m1 =>
 opK Tryd.prog E (xV (Instr.loadAt 4 a8P)) m1 fun a4d k6 =>
 opK Tryd.prog E (xV (Op.unary .not a4d)) k6 fun c8Q o3 =>
 xcond c8Q
 (R (Value.int .i64 31) o3)
 (R (Value.int .i64 0) o3))
noncomputable def c60 : Code := Tryd.f60.body.getD .skip
def h60 : Hint := (.seq .none (.seq (.seq .none (.cond (.seq .none .none) .none)) (.seq (.seq .none (.cond (.seq .none .none) .none)) (.seq .none .none))))
theorem f2S (x0 : Value) (w : World) (R : Value → World → Prop) (E : Pan) : F60 x0 w R E = callX Tryd.prog [.tmp 2] c60 h60 [x0] w R E := by kernel_rfl
theorem f2T {x0 : Value} {w : World} {R : Value → World → Prop} {E : Pan} (h : F60 x0 w R E) : Cv Tryd.prog 60 #[x0] w R E := by
 refine g8 (args := [x0]) (c := c60) (h := h60) (rs := [.tmp 2]) Tryd.func60 (by kernel_rfl) (by kernel_rfl) (Nat.le_of_ble_eq_true (by kernel_rfl)) (by kernel_rfl) (by kernel_rfl) (by kernel_rfl) ?_
 rw [← f2S]
 exact h
def d4a (x0 x3 x8 : Value) (w : World) (next4 : List Value → World → Prop) (R : Value → World → Prop) (E : Pan) : Prop :=
 opK Tryd.prog E (xV (Instr.fieldAt 33 x3 3)) w fun f2U E5 =>
 opK Tryd.prog E (xV (Instr.loadAt 31 f2U)) E5 fun f2V K0 =>
 opK Tryd.prog E (xBuiltin .len #[31] 3 [false] [f2V]) K0 fun f2W I8 =>
 opK Tryd.prog E (xBin .lss 3 (.tmp 82) (.tmp 85) x8 f2W) I8 fun b6W I9 =>
 opK Tryd.prog E (gsem (asB b6W) true (xNil (gval (asB b6W) true x0))) I9 fun f2X O7 =>
 opK Tryd.prog E (gsem (asB b6W) true (xV (Instr.fieldAt 102 f2X 0))) O7 fun f2Y P6 =>
 opK Tryd.prog E (gsem (asB b6W) true (xV (Instr.loadAt 4 f2Y))) P6 fun f2Z L4 =>
 opK Tryd.prog E (xPick b6W f2Z (Value.bool false)) L4 fun f3a P7 =>
 xcond f3a
 (opK Tryd.prog E (xV (Instr.fieldAt 33 x3 3)) P7 fun f3b W5 =>
 opK Tryd.prog E (xV (Instr.loadAt 31 f3b)) W5 fun f3c a0o =>
 opK Tryd.prog E (xV (Instr.indexAt 31 f3c x8)) a0o fun f3d V6 =>
 opK Tryd.prog E (xV (Instr.loadAt 33 f3d)) V6 fun e2b a0p =>
 opK Tryd.prog E (xCall (Value.func (.func 62) #[] #[]) [x0, e2b]) a0p fun _t101_67 a0F =>
 opK Tryd.prog E (xBin .add 3 (.tmp 93) (.const (Value.int .i64 1)) x8 (Value.int .i64 1)) a0F fun f3e O8 =>
 next4 [f3e] O8)
 (R (Value.tuple #[]) P7)
def c6f (x0 x3 : Value) (w : World) (R : Value → World → Prop) (E : Pan) : Prop :=
 ∀ _τ : Fr, (xloop [8] [(Value.int .i64 0)] w fun τ_71 a0G next4 =>
 d4a x0 x3 (τ_71 8) a0G next4 R E)
def d4b (x0 x3 x7 : Value) (w : World) (next5 : List Value → World → Prop) (j3 : List Value → World → Prop) (_R : Value → World → Prop) (E : Pan) : Prop :=
 opK Tryd.prog E (xV (Instr.fieldAt 33 x3 2)) w fun f3f a1i =>
 opK Tryd.prog E (xV (Instr.loadAt 28 f3f)) a1i fun f3g a1Q =>
 opK Tryd.prog E (xBuiltin .len #[28] 3 [false] [f3g]) a1Q fun f3h a1R =>
 opK Tryd.prog E (xBin .lss 3 (.tmp 62) (.tmp 65) x7 f3h) a1R fun b6X a2D =>
 opK Tryd.prog E (gsem (asB b6X) true (xNil (gval (asB b6X) true x0))) a2D fun f3i a2R =>
 opK Tryd.prog E (gsem (asB b6X) true (xV (Instr.fieldAt 102 f3i 0))) a2R fun f3j a2S =>
 opK Tryd.prog E (gsem (asB b6X) true (xV (Instr.loadAt 4 f3j))) a2S fun f3k a2T =>
 opK Tryd.prog E (xPick b6X f3k (Value.bool false)) a2T fun f3l a4N =>
 xcond f3l
 (opK Tryd.prog E (xV (Instr.fieldAt 33 x3 2)) a4N fun f3m a4O =>
 opK Tryd.prog E (xV (Instr.loadAt 28 f3m)) a4O fun f3n a4r =>
 opK Tryd.prog E (xV (Instr.indexAt 28 f3n x7)) a4r fun f3o a3R =>
 opK Tryd.prog E (xV (Instr.loadAt 30 f3o)) a3R fun f3p a4P =>
 opK Tryd.prog E (xCall (Value.func (.func 59) #[] #[]) [x0, f3p]) a4P fun _t81_99 a2J =>
 opK Tryd.prog E (xBin .add 3 (.tmp 73) (.const (Value.int .i64 1)) x7 (Value.int .i64 1)) a2J fun e2c a2K =>
 next5 [e2c] a2K)
 (j3 [] a4N)
def c6g (x0 x3 x4 x5 x6 : Value) (w : World) (R : Value → World → Prop) (E : Pan) : Prop :=
 ∀ _τ : Fr, (opK Tryd.prog E (xNil x0) w fun f9u m1 =>
 opK Tryd.prog E (xV (Instr.fieldAt 102 f9u 0)) m1 fun f3q k6 =>
 opK Tryd.prog E (xV (Instr.loadAt 4 f3q)) k6 fun d4c o3 =>
 opK Tryd.prog E (xPick d4c (gval (asB d4c) true x6) (Value.bool false)) o3 fun b3I q7 =>
 opK Tryd.prog E (gsem (asB b3I) true (xV (Instr.fieldAt 33 x3 2))) q7 fun f3r r6 =>
 opK Tryd.prog E (gsem (asB b3I) true (xV (Instr.loadAt 28 f3r))) r6 fun f3s o7 =>
 opK Tryd.prog E (gsem (asB b3I) true (xBuiltin .len #[28] 3 [false] [f3s])) o7 fun c6h r7 =>
 opK Tryd.prog E (gsem (asB b3I) true (xBin .eql 3 (.tmp 49) (.tmp 50) c6h (gval (asB b3I) true x4))) r7 fun f3t r5 =>
 opK Tryd.prog E (xPick b3I f3t (Value.bool false)) r5 fun b3J u6 =>
 opK Tryd.prog E (gsem (asB b3J) true (xV (Instr.fieldAt 33 x3 3))) u6 fun f3u v8 =>
 opK Tryd.prog E (gsem (asB b3J) true (xV (Instr.loadAt 31 f3u))) v8 fun f3v t7 =>
 opK Tryd.prog E (gsem (asB b3J) true (xBuiltin .len #[31] 3 [false] [f3v])) t7 fun f3w y8 =>
 opK Tryd.prog E (gsem (asB b3J) true (xBin .eql 3 (.tmp 56) (.tmp 57) f3w (gval (asB b3J) true x5))) y8 fun f3x A8 =>
 opK Tryd.prog E (xPick b3J f3x (Value.bool false)) A8 fun f3y B2 =>
 opK Tryd.prog E (xNil x0) B2 fun f3z v2 =>
 opK Tryd.prog E (xV (Instr.fieldAt 102 f3z 0)) v2 fun f3A C3 =>
 opK Tryd.prog E (xU (Instr.storeAt 4 f3A f3y)) C3 fun _z_41 G5 =>
 xcut (fun _ a1h => c6f x0 x3 a1h R E) fun j3 =>
 xloop [7] [(Value.int .i64 0)] G5 fun τ_103 a3D next5 =>
 d4b x0 x3 (τ_103 7) a3D next5 j3 R E)
def c6i (x0 x3 x4 x5 : Value) (w : World) (R : Value → World → Prop) (E : Pan) : Prop :=
 ∀ _τ : Fr, (opK Tryd.prog E (xV (Instr.fieldAt 33 x3 1)) w fun f9v w_4 =>
 opK Tryd.prog E (xV (Instr.loadAt 3 f9v)) w_4 fun f9w w_6 =>
 opK Tryd.prog E (xBin .eql 3 (.tmp 25) (.const (Value.int .i64 0)) f9w (Value.int .i64 0)) w_6 fun f9x w_8 =>
 xcut (fun d8X a4f => c6g x0 x3 x4 x5 (nth d8X 0) a4f R E) fun j2 =>
 opK Tryd.prog E (xV (Instr.fieldAt 33 x3 0)) w_8 fun e2d a5d =>
 opK Tryd.prog E (xV (Instr.loadAt 3 e2d)) a5d fun e2e a4y =>
 opK Tryd.prog E (xBin .eql 3 (.tmp 28) (.const (Value.int .i64 3)) e2e (Value.int .i64 3)) a4y fun e2f a4z =>
 xcond e2f
 (opK Tryd.prog E (xV (Instr.fieldAt 33 x3 1)) a4z fun e2g a5e =>
 opK Tryd.prog E (xV (Instr.loadAt 3 e2g)) a5e fun e2h a5C =>
 opK Tryd.prog E (xBin .geq 3 (.tmp 31) (.const (Value.int .i64 1)) e2h (Value.int .i64 1)) a5C fun b7y a5D =>
 opK Tryd.prog E (gsem (asB b7y) true (xV (Instr.fieldAt 33 x3 1))) a5D fun e2i a5E =>
 opK Tryd.prog E (gsem (asB b7y) true (xV (Instr.loadAt 3 e2i))) a5E fun e2j a7L =>
 opK Tryd.prog E (gsem (asB b7y) true (xBin .leq 3 (.tmp 35) (.const (Value.int .i64 6)) e2j (Value.int .i64 6))) a7L fun e2k b0j =>
 opK Tryd.prog E (xPick b7y e2k (Value.bool false)) b0j fun e2l a9r =>
 j2 [e2l] a9r)
 (j2 [f9x] a4z))
def c6j (x0 _x3 x4 x5 x21 : Value) (w : World) (j1 : List Value → World → Prop) (_R : Value → World → Prop) (E : Pan) : Prop :=
 ∀ _τ : Fr, (xcond x21
 (j1 [x4, (Value.int .i64 2)] w)
 (opK Tryd.prog E (xNil x0) w fun e2m b4f =>
 opK Tryd.prog E (xV (Instr.fieldAt 102 e2m 0)) b4f fun e2n b4g =>
 opK Tryd.prog E (xU (Instr.storeAt 4 e2n (Value.bool false))) b4g fun _z_141 b4h =>
 j1 [x4, x5] b4h))
def c6k (x0 x3 x4 x5 x10 x14 : Value) (w : World) (j1 : List Value → World → Prop) (R : Value → World → Prop) (E : Pan) : Prop :=
 ∀ _τ : Fr, (xcond x14
 (j1 [x4, x5] w)
 (opK Tryd.prog E (xBin .eql 3 (.tmp 10) (.const (Value.int .i64 3)) x10 (Value.int .i64 3)) w fun e2o a7N =>
 xcond e2o
 (j1 [(Value.int .i64 2), x5] a7N)
 (opK Tryd.prog E (xBin .eql 3 (.tmp 10) (.const (Value.int .i64 4)) x10 (Value.int .i64 4)) a7N fun e2p a9t =>
 xcond e2p
 (j1 [x4, (Value.int .i64 1)] a9t)
 (xcut (fun f9y b2E => c6j x0 x3 x4 x5 (nth f9y 0) b2E j1 R E) fun j7 =>
 opK Tryd.prog E (xBin .eql 3 (.tmp 10) (.const (Value.int .i64 5)) x10 (Value.int .i64 5)) a9t fun c8l a9u =>
 xcond c8l
 (j7 [c8l] a9u)
 (opK Tryd.prog E (xBin .eql 3 (.tmp 10) (.const (Value.int .i64 6)) x10 (Value.int .i64 6)) a9u fun e2q b4i =>
 j7 [e2q] b4i)))))
def F62 (x0 x1 : Value) (w : World) (R : Value → World → Prop) (E : Pan) : Prop :=
 opK Tryd.prog E (xV (Instr.box 33 x1)) w fun a4T w_2 =>
 xcut (fun d8Y b0k => c6i x0 a4T (nth d8Y 0) (nth d8Y.tail 0) b0k R E) fun j1 =>
 opK Tryd.prog E (xV (Instr.fieldAt 33 a4T 0)) w_2 fun f3B a9s =>
 opK Tryd.prog E (xV (Instr.loadAt 3 f3B)) a9s fun c1V a7M =>
 xcut (fun f9z b9P => c6k x0 a4T (Value.int .i64 0) (Value.int .i64 0) c1V (nth f9z 0) b9P j1 R E) fun j6 =>
 opK Tryd.prog E (xBin .eql 3 (.tmp 10) (.const (Value.int .i64 1)) c1V (Value.int .i64 1)) a7M fun c8m b7h =>
 xcond c8m
 (j6 [c8m] b7h)
 (opK Tryd.prog E (xBin .eql 3 (.tmp 10) (.const (Value.int .i64 2)) c1V (Value.int .i64 2)) b7h fun e2r b9T =>
 j6 [e2r] b9T)
noncomputable def c62 : Code := Tryd.f62.body.getD .skip
def h62 : Hint := (.seq .none (.seq .none (.cut [4, 5] (.seq .none (.block (.cut [14] (.seq .none (.cond .none .none)) (.cond .none (.seq .none (.cond .none (.seq .none (.cond .none (.cut [21] (.seq .none (.cond .none .none)) (.cond .none .none)))))))))) (.seq .none (.cut [6] (.seq .none (.cond .none .none)) (.seq .none (.cut [] (.seq .none (.block (.loop [7] (.seq (.seq .none (.cond .none .none)) (.seq (.block .none) .none))))) (.seq .none (.block (.loop [8] (.seq (.seq .none (.cond .none .none)) (.seq (.block .none) .none))))))))))))
theorem f3C (x0 x1 : Value) (w : World) (R : Value → World → Prop) (E : Pan) : F62 x0 x1 w R E = callX Tryd.prog [] c62 h62 [x0, x1] w R E := by kernel_rfl
theorem f3D {x0 x1 : Value} {w : World} {R : Value → World → Prop} {E : Pan} (h : F62 x0 x1 w R E) : Cv Tryd.prog 62 #[x0, x1] w R E := by
 refine g8 (args := [x0, x1]) (c := c62) (h := h62) (rs := []) Tryd.func62 (by kernel_rfl) (by kernel_rfl) (Nat.le_of_ble_eq_true (by kernel_rfl)) (by kernel_rfl) (by kernel_rfl) (by kernel_rfl) ?_
 rw [← f3C]
 exact h
def F64 (x0 x1 x2 : Value) (w : World) (R : Value → World → Prop) (E : Pan) : Prop :=
 opK Tryd.prog E (xV (Op.unary .not x2)) w fun b4a w_2 =>
 xcond b4a
 (opK Tryd.prog E (xNil x0) w_2 fun b4c w_4 =>
 opK Tryd.prog E (xV (Instr.fieldAt 102 b4c 0)) w_4 fun a7I w_6 =>
 opK Tryd.prog E (xV (Instr.loadAt 4 a7I)) w_6 fun a5b w_8 =>
 opK Tryd.prog E (gsem (asB a5b) true (xBin .eql 9 (.tmp 14) (.const (Value.string ⟨#[]⟩)) (gval (asB a5b) true x1) (Value.string ⟨#[]⟩))) w_8 fun b0l m1 =>
 opK Tryd.prog E (xPick a5b b0l (Value.bool false)) m1 fun a4Q k6 =>
 opK Tryd.prog E (xNil x0) k6 fun f3E o3 =>
 opK Tryd.prog E (xV (Instr.fieldAt 102 f3E 0)) o3 fun c3U q7 =>
 opK Tryd.prog E (xU (Instr.storeAt 4 c3U a4Q)) q7 fun _z_17 r6 =>
 R (Value.tuple #[]) r6)
 (opK Tryd.prog E (xNil x0) w_2 fun c4y o7 =>
 opK Tryd.prog E (xV (Instr.fieldAt 102 c4y 1)) o7 fun b6p r7 =>
 opK Tryd.prog E (xV (Instr.loadAt 4 b6p)) r7 fun b0R r5 =>
 opK Tryd.prog E (gsem (asB b0R) true (xCall (Value.func (.func 93) #[] #[]) [(gval (asB b0R) true x1)])) r5 fun c3W u6 =>
 opK Tryd.prog E (xPick b0R c3W (Value.bool false)) u6 fun b0S v8 =>
 opK Tryd.prog E (xNil x0) v8 fun a7D t7 =>
 opK Tryd.prog E (xV (Instr.fieldAt 102 a7D 1)) t7 fun c0s y8 =>
 opK Tryd.prog E (xU (Instr.storeAt 4 c0s b0S)) y8 fun _z_33 A8 =>
 R (Value.tuple #[]) A8)
noncomputable def c64 : Code := Tryd.f64.body.getD .skip
def h64 : Hint := (.seq (.seq .none (.cond (.seq .none .none) .none)) .none)
theorem f3F (x0 x1 x2 : Value) (w : World) (R : Value → World → Prop) (E : Pan) : F64 x0 x1 x2 w R E = callX Tryd.prog [] c64 h64 [x0, x1, x2] w R E := by kernel_rfl
theorem f3G {x0 x1 x2 : Value} {w : World} {R : Value → World → Prop} {E : Pan} (h : F64 x0 x1 x2 w R E) : Cv Tryd.prog 64 #[x0, x1, x2] w R E := by
 refine g8 (args := [x0, x1, x2]) (c := c64) (h := h64) (rs := []) Tryd.func64 (by kernel_rfl) (by kernel_rfl) (Nat.le_of_ble_eq_true (by kernel_rfl)) (by kernel_rfl) (by kernel_rfl) (by kernel_rfl) ?_
 rw [← f3F]
 exact h
def d4d (x0 x3 x9 : Value) (w : World) (next5 : List Value → World → Prop) (R : Value → World → Prop) (E : Pan) : Prop :=
 opK Tryd.prog E (xV (Instr.fieldAt 88 x3 5)) w fun e2s a2J =>
 opK Tryd.prog E (xV (Instr.loadAt 23 e2s)) a2J fun d6R a2K =>
 opK Tryd.prog E (xBuiltin .len #[23] 3 [false] [d6R]) a2K fun d6S a3D =>
 opK Tryd.prog E (xBin .lss 3 (.tmp 146) (.tmp 149) x9 d6S) a3D fun b2d a4f =>
 opK Tryd.prog E (gsem (asB b2d) true (xNil (gval (asB b2d) true x0))) a4f fun d6T a5d =>
 opK Tryd.prog E (gsem (asB b2d) true (xV (Instr.fieldAt 102 d6T 0))) a5d fun d6U a4y =>
 opK Tryd.prog E (gsem (asB b2d) true (xV (Instr.loadAt 4 d6U))) a4y fun d6V a4z =>
 opK Tryd.prog E (xPick b2d d6V (Value.bool false)) a4z fun d6W a5e =>
 xcond d6W
 (opK Tryd.prog E (xV (Instr.fieldAt 88 x3 5)) a5e fun d6X a5C =>
 opK Tryd.prog E (xV (Instr.loadAt 23 d6X)) a5C fun d6Y a5D =>
 opK Tryd.prog E (xV (Instr.indexAt 23 d6Y x9)) a5D fun d6Z a5E =>
 opK Tryd.prog E (xV (Instr.loadAt 88 d6Z)) a5E fun d7a a7L =>
 opK Tryd.prog E (xCall (Value.func (.func 65) #[] #[]) [x0, d7a]) a7L fun _t165_123 b0j =>
 opK Tryd.prog E (xBin .add 3 (.tmp 157) (.const (Value.int .i64 1)) x9 (Value.int .i64 1)) b0j fun d7b a9r =>
 next5 [d7b] a9r)
 (R (Value.tuple #[]) a5e)
def c6l (x0 x3 : Value) (w : World) (R : Value → World → Prop) (E : Pan) : Prop :=
 ∀ _τ : Fr, (xloop [9] [(Value.int .i64 0)] w fun τ_127 b0k next5 =>
 d4d x0 x3 (τ_127 9) b0k next5 R E)
def d4e (x0 x3 x8 : Value) (w : World) (next6 : List Value → World → Prop) (j4 : List Value → World → Prop) (_R : Value → World → Prop) (E : Pan) : Prop :=
 opK Tryd.prog E (xV (Instr.fieldAt 88 x3 4)) w fun d7c a7M =>
 opK Tryd.prog E (xV (Instr.loadAt 23 d7c)) a7M fun d7d a7N =>
 opK Tryd.prog E (xBuiltin .len #[23] 3 [false] [d7d]) a7N fun d7e a9t =>
 opK Tryd.prog E (xBin .lss 3 (.tmp 126) (.tmp 129) x8 d7e) a9t fun b2e b4f =>
 opK Tryd.prog E (gsem (asB b2e) true (xNil (gval (asB b2e) true x0))) b4f fun d7f b4g =>
 opK Tryd.prog E (gsem (asB b2e) true (xV (Instr.fieldAt 102 d7f 0))) b4g fun d7g b4h =>
 opK Tryd.prog E (gsem (asB b2e) true (xV (Instr.loadAt 4 d7g))) b4h fun d7h b2E =>
 opK Tryd.prog E (xPick b2e d7h (Value.bool false)) b2E fun d7i a9u =>
 xcond d7i
 (opK Tryd.prog E (xV (Instr.fieldAt 88 x3 4)) a9u fun d7j b4i =>
 opK Tryd.prog E (xV (Instr.loadAt 23 d7j)) b4i fun d7k b9P =>
 opK Tryd.prog E (xV (Instr.indexAt 23 d7k x8)) b9P fun d7l b7h =>
 opK Tryd.prog E (xV (Instr.loadAt 88 d7l)) b7h fun d7m b9T =>
 opK Tryd.prog E (xCall (Value.func (.func 65) #[] #[]) [x0, d7m]) b9T fun _t145_155 c2X =>
 opK Tryd.prog E (xBin .add 3 (.tmp 137) (.const (Value.int .i64 1)) x8 (Value.int .i64 1)) c2X fun d7n c9w =>
 next6 [d7n] c9w)
 (j4 [] a9u)
def c6m (x0 x3 : Value) (w : World) (R : Value → World → Prop) (E : Pan) : Prop :=
 ∀ _τ : Fr, (xcut (fun _ a9s => c6l x0 x3 a9s R E) fun j4 =>
 xloop [8] [(Value.int .i64 0)] w fun τ_159 f9A next6 =>
 d4e x0 x3 (τ_159 8) f9A next6 j4 R E)
def d4f (x0 x3 x7 : Value) (w : World) (next7 : List Value → World → Prop) (j3 : List Value → World → Prop) (_R : Value → World → Prop) (E : Pan) : Prop :=
 opK Tryd.prog E (xV (Instr.fieldAt 88 x3 2)) w fun d7o d8S =>
 opK Tryd.prog E (xV (Instr.loadAt 28 d7o)) d8S fun d7p f9B =>
 opK Tryd.prog E (xBuiltin .len #[28] 3 [false] [d7p]) f9B fun d7q f9C =>
 opK Tryd.prog E (xBin .lss 3 (.tmp 106) (.tmp 109) x7 d7q) f9C fun b2f f9D =>
 opK Tryd.prog E (gsem (asB b2f) true (xNil (gval (asB b2f) true x0))) f9D fun d7r f9E =>
 opK Tryd.prog E (gsem (asB b2f) true (xV (Instr.fieldAt 102 d7r 0))) f9E fun d7s f9F =>
 opK Tryd.prog E (gsem (asB b2f) true (xV (Instr.loadAt 4 d7s))) f9F fun d7t f9G =>
 opK Tryd.prog E (xPick b2f d7t (Value.bool false)) f9G fun d7u d8Z =>
 xcond d7u
 (opK Tryd.prog E (xV (Instr.fieldAt 88 x3 2)) d8Z fun d7v f9H =>
 opK Tryd.prog E (xV (Instr.loadAt 28 d7v)) f9H fun d7w f9I =>
 opK Tryd.prog E (xV (Instr.indexAt 28 d7w x7)) f9I fun d7x f9J =>
 opK Tryd.prog E (xV (Instr.loadAt 30 d7x)) f9J fun d7y f9K =>
 opK Tryd.prog E (xCall (Value.func (.func 59) #[] #[]) [x0, d7y]) f9K fun _t125_187 f9L =>
 opK Tryd.prog E (xBin .add 3 (.tmp 117) (.const (Value.int .i64 1)) x7 (Value.int .i64 1)) f9L fun d7z f9M =>
 next7 [d7z] f9M)
 (j3 [] d8Z)
def c6n (x0 x3 : Value) (w : World) (R : Value → World → Prop) (E : Pan) : Prop :=
 ∀ _τ : Fr, (xcut (fun _ f9N => c6m x0 x3 f9N R E) fun j3 =>
 xloop [7] [(Value.int .i64 0)] w fun τ_191 f9O next7 =>
 d4f x0 x3 (τ_191 7) f9O next7 j3 R E)
def d4g (x0 x3 x6 : Value) (w : World) (next8 : List Value → World → Prop) (j2 : List Value → World → Prop) (_R : Value → World → Prop) (E : Pan) : Prop :=
 opK Tryd.prog E (xV (Instr.fieldAt 88 x3 3)) w fun e2t f9P =>
 opK Tryd.prog E (xV (Instr.loadAt 31 e2t)) f9P fun e2u d8T =>
 opK Tryd.prog E (xBuiltin .len #[31] 3 [false] [e2u]) d8T fun e2v f9Q =>
 opK Tryd.prog E (xBin .lss 3 (.tmp 86) (.tmp 89) x6 e2v) f9Q fun b3K f9R =>
 opK Tryd.prog E (gsem (asB b3K) true (xNil (gval (asB b3K) true x0))) f9R fun e2w f9S =>
 opK Tryd.prog E (gsem (asB b3K) true (xV (Instr.fieldAt 102 e2w 0))) f9S fun e2x f9T =>
 opK Tryd.prog E (gsem (asB b3K) true (xV (Instr.loadAt 4 e2x))) f9T fun e2y f9U =>
 opK Tryd.prog E (xPick b3K e2y (Value.bool false)) f9U fun e2z d9a =>
 xcond e2z
 (opK Tryd.prog E (xV (Instr.fieldAt 88 x3 3)) d9a fun d7A f9V =>
 opK Tryd.prog E (xV (Instr.loadAt 31 d7A)) f9V fun d7B f9W =>
 opK Tryd.prog E (xV (Instr.indexAt 31 d7B x6)) f9W fun d7C f9X =>
 opK Tryd.prog E (xV (Instr.loadAt 33 d7C)) f9X fun d7D d9b =>
 opK Tryd.prog E (xCall (Value.func (.func 62) #[] #[]) [x0, d7D]) d9b fun _t105_219 f9Y =>
 opK Tryd.prog E (xBin .add 3 (.tmp 97) (.const (Value.int .i64 1)) x6 (Value.int .i64 1)) f9Y fun e2A f9Z =>
 next8 [e2A] f9Z)
 (j2 [] d9a)
def c6o (x0 x3 x4 x5 : Value) (w : World) (R : Value → World → Prop) (E : Pan) : Prop :=
 ∀ _τ : Fr, (opK Tryd.prog E (xV (Instr.fieldAt 88 x3 1)) w fun g0a w_4 =>
 opK Tryd.prog E (xV (Instr.loadAt 9 g0a)) w_4 fun g0b w_6 =>
 opK Tryd.prog E (xV (Instr.fieldAt 88 x3 0)) w_6 fun g0c w_8 =>
 opK Tryd.prog E (xV (Instr.loadAt 3 g0c)) w_8 fun g0d m1 =>
 opK Tryd.prog E (xBin .eql 3 (.tmp 30) (.const (Value.int .i64 1)) g0d (Value.int .i64 1)) m1 fun c0t k6 =>
 opK Tryd.prog E (gsem (asB c0t) false (xV (Instr.fieldAt 88 x3 0))) k6 fun b6k o3 =>
 opK Tryd.prog E (gsem (asB c0t) false (xV (Instr.loadAt 3 b6k))) o3 fun b6l q7 =>
 opK Tryd.prog E (gsem (asB c0t) false (xBin .eql 3 (.tmp 34) (.const (Value.int .i64 2)) b6l (Value.int .i64 2))) q7 fun c6p r6 =>
 opK Tryd.prog E (xPick c0t (Value.bool true) c6p) r6 fun c6q o7 =>
 opK Tryd.prog E (xCall (Value.func (.func 64) #[] #[]) [x0, g0b, c6q]) o7 fun _t37_21 r7 =>
 opK Tryd.prog E (xNil x0) r7 fun f3H r5 =>
 opK Tryd.prog E (xV (Instr.fieldAt 102 f3H 0)) r5 fun f3I u6 =>
 opK Tryd.prog E (xV (Instr.loadAt 4 f3I)) u6 fun b3L v8 =>
 opK Tryd.prog E (gsem (asB b3L) true (xV (Instr.fieldAt 88 x3 2))) v8 fun f3J t7 =>
 opK Tryd.prog E (gsem (asB b3L) true (xV (Instr.loadAt 28 f3J))) t7 fun f3K y8 =>
 opK Tryd.prog E (gsem (asB b3L) true (xBuiltin .len #[28] 3 [false] [f3K])) y8 fun f3L A8 =>
 opK Tryd.prog E (gsem (asB b3L) true (xBin .eql 3 (.tmp 46) (.tmp 47) f3L (gval (asB b3L) true x4))) A8 fun f3M B2 =>
 opK Tryd.prog E (xPick b3L f3M (Value.bool false)) B2 fun b3M v2 =>
 opK Tryd.prog E (gsem (asB b3M) true (xV (Instr.fieldAt 88 x3 3))) v2 fun f3N C3 =>
 opK Tryd.prog E (gsem (asB b3M) true (xV (Instr.loadAt 31 f3N))) C3 fun f3O G5 =>
 opK Tryd.prog E (gsem (asB b3M) true (xBuiltin .len #[31] 3 [false] [f3O])) G5 fun f3P E5 =>
 opK Tryd.prog E (gsem (asB b3M) true (xBin .eql 3 (.tmp 53) (.tmp 54) f3P (gval (asB b3M) true x5))) E5 fun f3Q K0 =>
 opK Tryd.prog E (xPick b3M f3Q (Value.bool false)) K0 fun a3C I8 =>
 opK Tryd.prog E (gsem (asB a3C) true (xV (Instr.fieldAt 88 x3 4))) I8 fun f3R I9 =>
 opK Tryd.prog E (gsem (asB a3C) true (xV (Instr.loadAt 23 f3R))) I9 fun f3S O7 =>
 opK Tryd.prog E (gsem (asB a3C) true (xBuiltin .len #[23] 3 [false] [f3S])) O7 fun f3T P6 =>
 opK Tryd.prog E (gsem (asB a3C) true (xBin .eql 3 (.tmp 60) (.const (Value.int .i64 0)) f3T (Value.int .i64 0))) P6 fun c0u L4 =>
 opK Tryd.prog E (gsem (asB (gval (asB a3C) true c0u)) false (xV (Instr.fieldAt 88 x3 0))) L4 fun c6r P7 =>
 opK Tryd.prog E (gsem (asB (gval (asB a3C) true c0u)) false (xV (Instr.loadAt 3 c6r))) P7 fun c6s W5 =>
 opK Tryd.prog E (gsem (asB (gval (asB a3C) true c0u)) false (xBin .eql 3 (.tmp 64) (.const (Value.int .i64 3)) c6s (Value.int .i64 3))) W5 fun f3U a0o =>
 opK Tryd.prog E (gsem (asB a3C) true (xPick (gval (asB a3C) true c0u) (Value.bool true) f3U)) a0o fun c0v V6 =>
 opK Tryd.prog E (gsem (asB (gval (asB a3C) true c0v)) false (xV (Instr.fieldAt 88 x3 0))) V6 fun f3V a0p =>
 opK Tryd.prog E (gsem (asB (gval (asB a3C) true c0v)) false (xV (Instr.loadAt 3 f3V))) a0p fun f3W a0F =>
 opK Tryd.prog E (gsem (asB (gval (asB a3C) true c0v)) false (xBin .eql 3 (.tmp 69) (.const (Value.int .i64 4)) f3W (Value.int .i64 4))) a0F fun f3X O8 =>
 opK Tryd.prog E (gsem (asB a3C) true (xPick (gval (asB a3C) true c0v) (Value.bool true) f3X)) O8 fun f3Y a0G =>
 opK Tryd.prog E (xPick a3C f3Y (Value.bool false)) a0G fun a6C a1h =>
 opK Tryd.prog E (gsem (asB a6C) true (xV (Instr.fieldAt 88 x3 5))) a1h fun f3Z a1i =>
 opK Tryd.prog E (gsem (asB a6C) true (xV (Instr.loadAt 23 f3Z))) a1i fun f4a a1Q =>
 opK Tryd.prog E (gsem (asB a6C) true (xBuiltin .len #[23] 3 [false] [f4a])) a1Q fun f4b a1R =>
 opK Tryd.prog E (gsem (asB a6C) true (xBin .eql 3 (.tmp 76) (.const (Value.int .i64 0)) f4b (Value.int .i64 0))) a1R fun c0w a2D =>
 opK Tryd.prog E (gsem (asB (gval (asB a6C) true c0w)) false (xV (Instr.fieldAt 88 x3 0))) a2D fun c6t a2R =>
 opK Tryd.prog E (gsem (asB (gval (asB a6C) true c0w)) false (xV (Instr.loadAt 3 c6t))) a2R fun c6u a2S =>
 opK Tryd.prog E (gsem (asB (gval (asB a6C) true c0w)) false (xBin .eql 3 (.tmp 80) (.const (Value.int .i64 3)) c6u (Value.int .i64 3))) a2S fun c6v a2T =>
 opK Tryd.prog E (gsem (asB a6C) true (xPick (gval (asB a6C) true c0w) (Value.bool true) c6v)) a2T fun c5X a4N =>
 opK Tryd.prog E (xPick a6C c5X (Value.bool false)) a4N fun c5Y a4O =>
 opK Tryd.prog E (xNil x0) a4O fun f4c a4r =>
 opK Tryd.prog E (xV (Instr.fieldAt 102 f4c 0)) a4r fun f4d a3R =>
 opK Tryd.prog E (xU (Instr.storeAt 4 f4d c5Y)) a3R fun _z_97 a4P =>
 xcut (fun _ g0e => c6n x0 x3 g0e R E) fun j2 =>
 xloop [6] [(Value.int .i64 0)] a4P fun τ_223 g0f next8 =>
 d4g x0 x3 (τ_223 6) g0f next8 j2 R E)
def c6w (x0 _x3 x4 x5 x11 x19 : Value) (w : World) (j1 : List Value → World → Prop) (_R : Value → World → Prop) (E : Pan) : Prop :=
 ∀ _τ : Fr, (xcond x19
 (j1 [x4, (Value.int .i64 1)] w)
 (opK Tryd.prog E (xBin .eql 3 (.tmp 11) (.const (Value.int .i64 7)) x11 (Value.int .i64 7)) w fun e2B d9c =>
 xcond e2B
 (j1 [x4, x5] d9c)
 (opK Tryd.prog E (xNil x0) d9c fun e2C g0g =>
 opK Tryd.prog E (xV (Instr.fieldAt 102 e2C 0)) g0g fun e2D g0h =>
 opK Tryd.prog E (xU (Instr.storeAt 4 e2D (Value.bool false))) g0h fun _z_241 g0i =>
 j1 [x4, x5] g0i)))
def F65 (x0 x1 : Value) (w : World) (R : Value → World → Prop) (E : Pan) : Prop :=
 opK Tryd.prog E (xV (Instr.box 88 x1)) w fun a4T w_2 =>
 xcut (fun d9d g0j => c6o x0 a4T (nth d9d 0) (nth d9d.tail 0) g0j R E) fun j1 =>
 opK Tryd.prog E (xV (Instr.fieldAt 88 a4T 0)) w_2 fun e2E g0k =>
 opK Tryd.prog E (xV (Instr.loadAt 3 e2E)) g0k fun a9h g0l =>
 opK Tryd.prog E (xBin .eql 3 (.tmp 11) (.const (Value.int .i64 1)) a9h (Value.int .i64 1)) g0l fun e2F d9e =>
 xcond e2F
 (j1 [(Value.int .i64 1), (Value.int .i64 0)] d9e)
 (opK Tryd.prog E (xBin .eql 3 (.tmp 11) (.const (Value.int .i64 2)) a9h (Value.int .i64 2)) d9e fun e2G d9f =>
 xcond e2G
 (j1 [(Value.int .i64 2), (Value.int .i64 0)] d9f)
 (xcut (fun g0m g0n => c6w x0 a4T (Value.int .i64 0) (Value.int .i64 0) a9h (nth g0m 0) g0n j1 R E) fun j9 =>
 opK Tryd.prog E (xBin .eql 3 (.tmp 11) (.const (Value.int .i64 3)) a9h (Value.int .i64 3)) d9f fun c8n d9g =>
 xcond c8n
 (j9 [c8n] d9g)
 (opK Tryd.prog E (xBin .eql 3 (.tmp 11) (.const (Value.int .i64 4)) a9h (Value.int .i64 4)) d9g fun c8o d9h =>
 xcond c8o
 (j9 [c8o] d9h)
 (opK Tryd.prog E (xBin .eql 3 (.tmp 11) (.const (Value.int .i64 5)) a9h (Value.int .i64 5)) d9h fun c8p d9i =>
 xcond c8p
 (j9 [c8p] d9i)
 (opK Tryd.prog E (xBin .eql 3 (.tmp 11) (.const (Value.int .i64 6)) a9h (Value.int .i64 6)) d9i fun e2H g0o =>
 j9 [e2H] g0o)))))
noncomputable def c65 : Code := Tryd.f65.body.getD .skip
def h65 : Hint := (.seq .none (.seq .none (.cut [4, 5] (.seq .none (.block (.seq .none (.cond .none (.seq .none (.cond .none (.cut [19] (.seq .none (.cond .none (.seq .none (.cond .none (.seq .none (.cond .none .none)))))) (.cond .none (.seq .none (.cond .none .none)))))))))) (.seq .none (.seq .none (.cut [] (.seq .none (.block (.loop [6] (.seq (.seq .none (.cond .none .none)) (.seq (.block .none) .none))))) (.cut [] (.seq .none (.block (.loop [7] (.seq (.seq .none (.cond .none .none)) (.seq (.block .none) .none))))) (.cut [] (.seq .none (.block (.loop [8] (.seq (.seq .none (.cond .none .none)) (.seq (.block .none) .none))))) (.seq .none (.block (.loop [9] (.seq (.seq .none (.cond .none .none)) (.seq (.block .none) .none)))))))))))))
theorem f4e (x0 x1 : Value) (w : World) (R : Value → World → Prop) (E : Pan) : F65 x0 x1 w R E = callX Tryd.prog [] c65 h65 [x0, x1] w R E := by kernel_rfl
theorem f4f {x0 x1 : Value} {w : World} {R : Value → World → Prop} {E : Pan} (h : F65 x0 x1 w R E) : Cv Tryd.prog 65 #[x0, x1] w R E := by
 refine g8 (args := [x0, x1]) (c := c65) (h := h65) (rs := []) Tryd.func65 (by kernel_rfl) (by kernel_rfl) (Nat.le_of_ble_eq_true (by kernel_rfl)) (by kernel_rfl) (by kernel_rfl) (by kernel_rfl) ?_
 rw [← f4e]
 exact h
def c6x (x3 : Value) (w : World) (R : Value → World → Prop) (E : Pan) : Prop :=
 ∀ _τ : Fr, (opK Tryd.prog E (xBin .leq 3 (.tmp 52) (.const (Value.int .i64 32)) x3 (Value.int .i64 32)) w fun f4g o3 =>
 R f4g o3)
def d4h (x0 x3 x4 : Value) (w : World) (next2 : List Value → World → Prop) (j1 : List Value → World → Prop) (R : Value → World → Prop) (E : Pan) : Prop :=
 opK Tryd.prog E (xBuiltin .len #[9] 3 [false] [x0]) w fun c4z r6 =>
 opK Tryd.prog E (xBin .lss 3 (.tmp 20) (.tmp 22) x4 c4z) r6 fun f4h o7 =>
 xcond f4h
 (opK Tryd.prog E (xCall (Value.func (.func 118) #[] #[]) [x0, x4]) o7 fun b6Y r7 =>
 opK Tryd.prog E (xV (Instr.extract b6Y 0)) r7 fun a3v r5 =>
 opK Tryd.prog E (xV (Instr.extract b6Y 1)) r5 fun f4i u6 =>
 opK Tryd.prog E (xV (Instr.extract b6Y 2)) u6 fun f4j v8 =>
 opK Tryd.prog E (xCall (Value.func (.func 119) #[] #[]) [a3v]) v8 fun b6s t7 =>
 opK Tryd.prog E (xV (Op.unary .not f4j)) t7 fun a5W y8 =>
 opK Tryd.prog E (gsem (asB a5W) false (xBin .neq 3 (.tmp 36) (.const (Value.int .i64 3)) (gval (asB a5W) false b6s) (Value.int .i64 3))) y8 fun b2g A8 =>
 opK Tryd.prog E (gsem (asB (gval (asB a5W) false b2g)) true (xBin .neq 3 (.tmp 39) (.const (Value.int .i64 4)) (gval (asB (gval (asB a5W) false b2g)) true b6s) (Value.int .i64 4))) A8 fun a5X B2 =>
 opK Tryd.prog E (gsem (asB (gval (asB (gval (asB a5W) false b2g)) true a5X)) false (xBin .eql 3 (.tmp 42) (.const (Value.int .i64 0)) (gval (asB (gval (asB (gval (asB a5W) false b2g)) true a5X)) false x3) (Value.int .i64 0))) B2 fun b6Z v2 =>
 opK Tryd.prog E (gsem (asB (gval (asB a5W) false b2g)) true (xPick (gval (asB (gval (asB a5W) false b2g)) true a5X) (Value.bool true) b6Z)) v2 fun f4k C3 =>
 opK Tryd.prog E (gsem (asB a5W) false (xPick (gval (asB a5W) false b2g) f4k (Value.bool false))) C3 fun f4l G5 =>
 opK Tryd.prog E (xPick a5W (Value.bool true) f4l) G5 fun f4m E5 =>
 xcond f4m
 (R (Value.bool false) E5)
 (opK Tryd.prog E (xBin .add 3 (.tmp 47) (.const (Value.int .i64 1)) x3 (Value.int .i64 1)) E5 fun f4n K0 =>
 opK Tryd.prog E (xBin .add 3 (.tmp 49) (.tmp 50) x4 f4i) K0 fun f4o I8 =>
 next2 [f4n, f4o] I8))
 (j1 [x3] o7)
def F93 (x0 : Value) (w : World) (R : Value → World → Prop) (E : Pan) : Prop :=
 opK Tryd.prog E (xBin .eql 9 (.tmp 9) (.const (Value.string ⟨#[]⟩)) x0 (Value.string ⟨#[]⟩)) w fun b7f w_2 =>
 opK Tryd.prog E (gsem (asB b7f) false (xBuiltin .len #[9] 3 [false] [(gval (asB b7f) false x0)])) w_2 fun b0h w_4 =>
 opK Tryd.prog E (gsem (asB b7f) false (xBin .gtr 3 (.tmp 13) (.const (Value.int .i64 128)) b0h (Value.int .i64 128))) w_4 fun b0i w_6 =>
 opK Tryd.prog E (xPick b7f (Value.bool true) b0i) w_6 fun d0L w_8 =>
 opK Tryd.prog E (gsem (asB d0L) false (xCall (Value.func (.func 117) #[] #[]) [(gval (asB d0L) false x0)])) w_8 fun g0p m1 =>
 opK Tryd.prog E (xPick d0L (Value.bool true) g0p) m1 fun f4p k6 =>
 xcond f4p
 (R (Value.bool false) k6)
 (xcut (fun c1D q7 => c6x (nth c1D 0) q7 R E) fun j1 =>
 xloop [3, 4] [(Value.int .i64 0), (Value.int .i64 0)] k6 fun τ_49 I9 next2 =>
 d4h x0 (τ_49 3) (τ_49 4) I9 next2 j1 R E)
noncomputable def c93 : Code := Tryd.f93.body.getD .skip
def h93 : Hint := (.seq .none (.seq (.seq .none (.cond (.seq .none .none) .none)) (.seq .none (.cut [3] (.seq .none (.block (.loop [3, 4] (.seq (.seq .none (.cond .none .none)) (.block (.seq .none (.seq .none (.seq (.seq .none (.cond (.seq .none .none) .none)) (.seq .none .none))))))))) (.seq .none .none)))))
theorem f4q (x0 : Value) (w : World) (R : Value → World → Prop) (E : Pan) : F93 x0 w R E = callX Tryd.prog [.tmp 2] c93 h93 [x0] w R E := by kernel_rfl
theorem f4r {x0 : Value} {w : World} {R : Value → World → Prop} {E : Pan} (h : F93 x0 w R E) : Cv Tryd.prog 93 #[x0] w R E := by
 refine g8 (args := [x0]) (c := c93) (h := h93) (rs := [.tmp 2]) Tryd.func93 (by kernel_rfl) (by kernel_rfl) (Nat.le_of_ble_eq_true (by kernel_rfl)) (by kernel_rfl) (by kernel_rfl) (by kernel_rfl) ?_
 rw [← f4q]
 exact h
def c1W (x4 : Value) (w : World) (R : Value → World → Prop) (_E : Pan) : Prop :=
 ∀ _τ : Fr, (xcond x4
 (R (Value.bool true) w)
 (R (Value.bool false) w))
def d0M (x0 : Value) (w : World) (R : Value → World → Prop) (E : Pan) : Prop :=
 xcut (fun l_1 w_2 => c1W (nth l_1 0) w_2 R E) fun j1 =>
 opK Tryd.prog E (xBin .eql 9 (.tmp 3) (.const (Value.string ⟨#[118, 97, 114]⟩)) x0 (Value.string ⟨#[118, 97, 114]⟩)) w fun a6O w_4 =>
 xcond a6O
 (j1 [a6O] w_4)
 (opK Tryd.prog E (xBin .eql 9 (.tmp 3) (.const (Value.string ⟨#[97, 114, 114, 97, 121]⟩)) x0 (Value.string ⟨#[97, 114, 114, 97, 121]⟩)) w_4 fun a2Q w_6 =>
 xcond a2Q
 (j1 [a2Q] w_6)
 (opK Tryd.prog E (xBin .eql 9 (.tmp 3) (.const (Value.string ⟨#[105, 102]⟩)) x0 (Value.string ⟨#[105, 102]⟩)) w_6 fun b0X w_8 =>
 xcond b0X
 (j1 [b0X] w_8)
 (opK Tryd.prog E (xBin .eql 9 (.tmp 3) (.const (Value.string ⟨#[101, 108, 115, 101]⟩)) x0 (Value.string ⟨#[101, 108, 115, 101]⟩)) w_8 fun b0M m1 =>
 xcond b0M
 (j1 [b0M] m1)
 (opK Tryd.prog E (xBin .eql 9 (.tmp 3) (.const (Value.string ⟨#[119, 104, 105, 108, 101]⟩)) x0 (Value.string ⟨#[119, 104, 105, 108, 101]⟩)) m1 fun b0g k6 =>
 xcond b0g
 (j1 [b0g] k6)
 (opK Tryd.prog E (xBin .eql 9 (.tmp 3) (.const (Value.string ⟨#[97, 115, 115, 101, 114, 116]⟩)) x0 (Value.string ⟨#[97, 115, 115, 101, 114, 116]⟩)) k6 fun a4c o3 =>
 xcond a4c
 (j1 [a4c] o3)
 (opK Tryd.prog E (xBin .eql 9 (.tmp 3) (.const (Value.string ⟨#[97, 115, 115, 117, 109, 101]⟩)) x0 (Value.string ⟨#[97, 115, 115, 117, 109, 101]⟩)) o3 fun a4I q7 =>
 xcond a4I
 (j1 [a4I] q7)
 (opK Tryd.prog E (xBin .eql 9 (.tmp 3) (.const (Value.string ⟨#[115, 107, 105, 112]⟩)) x0 (Value.string ⟨#[115, 107, 105, 112]⟩)) q7 fun a4J r6 =>
 xcond a4J
 (j1 [a4J] r6)
 (opK Tryd.prog E (xBin .eql 9 (.tmp 3) (.const (Value.string ⟨#[105, 110, 112, 117, 116]⟩)) x0 (Value.string ⟨#[105, 110, 112, 117, 116]⟩)) r6 fun a4K o7 =>
 xcond a4K
 (j1 [a4K] o7)
 (opK Tryd.prog E (xBin .eql 9 (.tmp 3) (.const (Value.string ⟨#[116, 114, 117, 101]⟩)) x0 (Value.string ⟨#[116, 114, 117, 101]⟩)) o7 fun a4L r7 =>
 xcond a4L
 (j1 [a4L] r7)
 (opK Tryd.prog E (xBin .eql 9 (.tmp 3) (.const (Value.string ⟨#[102, 97, 108, 115, 101]⟩)) x0 (Value.string ⟨#[102, 97, 108, 115, 101]⟩)) r7 fun a7H r5 =>
 j1 [a7H] r5))))))))))
noncomputable def f4s : Code := Tryd.f117.body.getD .skip
def f4t : Hint := (.seq .none (.seq (.seq .none (.block (.cut [4] (.seq .none (.cond .none (.seq .none (.cond .none (.seq .none (.cond .none (.seq .none (.cond .none (.seq .none (.cond .none (.seq .none (.cond .none (.seq .none (.cond .none (.seq .none (.cond .none (.seq .none (.cond .none (.seq .none (.cond .none .none)))))))))))))))))))) (.cond (.seq .none .none) .none)))) (.seq .none .none)))
theorem e2I (x0 : Value) (w : World) (R : Value → World → Prop) (E : Pan) : d0M x0 w R E = callX Tryd.prog [.tmp 2] f4s f4t [x0] w R E := by kernel_rfl
theorem e2J {x0 : Value} {w : World} {R : Value → World → Prop} {E : Pan} (h : d0M x0 w R E) : Cv Tryd.prog 117 #[x0] w R E := by
 refine g8 (args := [x0]) (c := f4s) (h := f4t) (rs := [.tmp 2]) Tryd.func117 (by kernel_rfl) (by kernel_rfl) (Nat.le_of_ble_eq_true (by kernel_rfl)) (by kernel_rfl) (by kernel_rfl) (by kernel_rfl) ?_
 rw [← e2I]
 exact h
def c1X (x8 x9 x10 : Value) (w : World) (R : Value → World → Prop) (E : Pan) : Prop :=
 ∀ _τ : Fr, (opK Tryd.prog E (xBin .lss 3 (.tmp 84) (.tmp 85) x10 x9) w fun d0N w_6 =>
 opK Tryd.prog E (gsem (asB d0N) false (xBin .gtr 3 (.tmp 88) (.const (Value.int .i64 1114111)) (gval (asB d0N) false x10) (Value.int .i64 1114111))) w_6 fun g0q w_8 =>
 opK Tryd.prog E (xPick d0N (Value.bool true) g0q) w_8 fun b5m m1 =>
 opK Tryd.prog E (gsem (asB b5m) false (xBin .geq 3 (.tmp 92) (.const (Value.int .i64 55296)) (gval (asB b5m) false x10) (Value.int .i64 55296))) m1 fun c6y k6 =>
 opK Tryd.prog E (gsem (asB (gval (asB b5m) false c6y)) true (xBin .lss 3 (.tmp 95) (.const (Value.int .i64 57344)) (gval (asB (gval (asB b5m) false c6y)) true x10) (Value.int .i64 57344))) k6 fun f4u o3 =>
 opK Tryd.prog E (gsem (asB b5m) false (xPick (gval (asB b5m) false c6y) f4u (Value.bool false))) o3 fun f4v q7 =>
 opK Tryd.prog E (xPick b5m (Value.bool true) f4v) q7 fun f4w r6 =>
 xcond f4w
 (R (Value.tuple #[(Value.int .i64 65533), (Value.int .i64 1), (Value.bool false)]) r6)
 (R (Value.tuple #[x10, x8, (Value.bool true)]) r6))
def c8q (x0 x1 x8 _x9 x10 x11 : Value) (w : World) (next3 : List Value → World → Prop) (j2 : List Value → World → Prop) (R : Value → World → Prop) (E : Pan) : Prop :=
 opK Tryd.prog E (xBin .lss 3 (.tmp 47) (.tmp 48) x11 x8) w fun c6h r7 =>
 xcond c6h
 (opK Tryd.prog E (xBin .add 3 (.tmp 52) (.tmp 53) x1 x11) r7 fun f4x r5 =>
 opK Tryd.prog E (xBuiltin .len #[9] 3 [false] [x0]) r5 fun f4y u6 =>
 opK Tryd.prog E (xBin .geq 3 (.tmp 54) (.tmp 56) f4x f4y) u6 fun b2h v8 =>
 opK Tryd.prog E (gsem (asB b2h) false (xBin .add 3 (.tmp 60) (.tmp 61) (gval (asB b2h) false x1) (gval (asB b2h) false x11))) v8 fun f4z t7 =>
 opK Tryd.prog E (gsem (asB b2h) false (xV (Instr.index 9 (gval (asB b2h) false x0) f4z))) t7 fun f4A y8 =>
 opK Tryd.prog E (gsem (asB b2h) false (xBin .lss 5 (.tmp 63) (.const (Value.int .u8 128)) f4A (Value.int .u8 128))) y8 fun f4B A8 =>
 opK Tryd.prog E (xPick b2h (Value.bool true) f4B) A8 fun b2i B2 =>
 opK Tryd.prog E (gsem (asB b2i) false (xBin .add 3 (.tmp 68) (.tmp 69) (gval (asB b2i) false x1) (gval (asB b2i) false x11))) B2 fun f4C v2 =>
 opK Tryd.prog E (gsem (asB b2i) false (xV (Instr.index 9 (gval (asB b2i) false x0) f4C))) v2 fun f4D C3 =>
 opK Tryd.prog E (gsem (asB b2i) false (xBin .geq 5 (.tmp 71) (.const (Value.int .u8 192)) f4D (Value.int .u8 192))) C3 fun f4E G5 =>
 opK Tryd.prog E (xPick b2i (Value.bool true) f4E) G5 fun f4F E5 =>
 xcond f4F
 (R (Value.tuple #[(Value.int .i64 65533), (Value.int .i64 1), (Value.bool false)]) E5)
 (opK Tryd.prog E (xBin .mul 3 (.const (Value.int .i64 64)) (.tmp 74) (Value.int .i64 64) x10) E5 fun f4G K0 =>
 opK Tryd.prog E (xBin .add 3 (.tmp 77) (.tmp 78) x1 x11) K0 fun f4H I8 =>
 opK Tryd.prog E (xV (Instr.index 9 x0 f4H)) I8 fun f4I I9 =>
 opK Tryd.prog E (xV (convert 5 3 f4I)) I9 fun f4J O7 =>
 opK Tryd.prog E (xBin .add 3 (.tmp 75) (.tmp 81) f4G f4J) O7 fun f4K P6 =>
 opK Tryd.prog E (xBin .sub 3 (.tmp 82) (.const (Value.int .i64 128)) f4K (Value.int .i64 128)) P6 fun f4L L4 =>
 opK Tryd.prog E (xBin .add 3 (.tmp 50) (.const (Value.int .i64 1)) x11 (Value.int .i64 1)) L4 fun f4M P7 =>
 next3 [f4L, f4M] P7))
 (j2 [x10] r7)
def c1Y (x0 x1 x8 x9 x10 : Value) (w : World) (R : Value → World → Prop) (E : Pan) : Prop :=
 ∀ _τ : Fr, (xcut (fun d4U o7 => c1X x8 x9 (nth d4U 0) o7 R E) fun j2 =>
 xloop [10, 11] [x10, (Value.int .i64 1)] w fun τ_59 W5 next3 =>
 c8q x0 x1 x8 x9 (τ_59 10) (τ_59 11) W5 next3 j2 R E)
def d0O (x0 x1 : Value) (w : World) (R : Value → World → Prop) (E : Pan) : Prop :=
 opK Tryd.prog E (xV (Instr.index 9 x0 x1)) w fun g0r w_2 =>
 opK Tryd.prog E (xV (convert 5 3 g0r)) w_2 fun a8m w_4 =>
 xcut (fun d7E a0o => c1Y x0 x1 (nth d7E 0) (nth d7E.tail 0) (nth d7E.tail.tail 0) a0o R E) fun j1 =>
 opK Tryd.prog E (xBin .lss 3 (.tmp 17) (.const (Value.int .i64 128)) a8m (Value.int .i64 128)) w_4 fun f4N V6 =>
 xcond f4N
 (R (Value.tuple #[a8m, (Value.int .i64 1), (Value.bool true)]) V6)
 (opK Tryd.prog E (xBin .geq 3 (.tmp 21) (.const (Value.int .i64 194)) a8m (Value.int .i64 194)) V6 fun c6z a0p =>
 opK Tryd.prog E (gsem (asB c6z) true (xBin .lss 3 (.tmp 24) (.const (Value.int .i64 224)) (gval (asB c6z) true a8m) (Value.int .i64 224))) a0p fun f4O a0F =>
 opK Tryd.prog E (xPick c6z f4O (Value.bool false)) a0F fun f4P O8 =>
 xcond f4P
 (opK Tryd.prog E (xBin .sub 3 (.tmp 27) (.const (Value.int .i64 192)) a8m (Value.int .i64 192)) O8 fun f4Q a0G =>
 j1 [(Value.int .i64 2), (Value.int .i64 128), f4Q] a0G)
 (opK Tryd.prog E (xBin .geq 3 (.tmp 30) (.const (Value.int .i64 224)) a8m (Value.int .i64 224)) O8 fun c6A a1h =>
 opK Tryd.prog E (gsem (asB c6A) true (xBin .lss 3 (.tmp 33) (.const (Value.int .i64 240)) (gval (asB c6A) true a8m) (Value.int .i64 240))) a1h fun f4R a1i =>
 opK Tryd.prog E (xPick c6A f4R (Value.bool false)) a1i fun f4S a1Q =>
 xcond f4S
 (opK Tryd.prog E (xBin .sub 3 (.tmp 36) (.const (Value.int .i64 224)) a8m (Value.int .i64 224)) a1Q fun f4T a1R =>
 j1 [(Value.int .i64 3), (Value.int .i64 2048), f4T] a1R)
 (opK Tryd.prog E (xBin .geq 3 (.tmp 39) (.const (Value.int .i64 240)) a8m (Value.int .i64 240)) a1Q fun c6B a2D =>
 opK Tryd.prog E (gsem (asB c6B) true (xBin .lss 3 (.tmp 42) (.const (Value.int .i64 245)) (gval (asB c6B) true a8m) (Value.int .i64 245))) a2D fun f4U a2R =>
 opK Tryd.prog E (xPick c6B f4U (Value.bool false)) a2R fun f4V a2S =>
 xcond f4V
 (opK Tryd.prog E (xBin .sub 3 (.tmp 45) (.const (Value.int .i64 240)) a8m (Value.int .i64 240)) a2S fun f4W a2T =>
 j1 [(Value.int .i64 4), (Value.int .i64 65536), f4W] a2T)
 (R (Value.tuple #[(Value.int .i64 65533), (Value.int .i64 1), (Value.bool false)]) a2S))))
noncomputable def f4X : Code := Tryd.f118.body.getD .skip
def f4Y : Hint := (.seq .none (.seq .none (.seq .none (.cut [8, 9, 10] (.block (.seq .none (.cond (.seq .none .none) (.seq .none (.cond .none (.seq .none (.cond .none (.seq .none (.cond .none (.seq .none .none)))))))))) (.cut [10] (.seq .none (.block (.loop [10, 11] (.seq (.seq .none (.cond .none .none)) (.seq (.block (.seq (.seq .none (.cond (.seq .none .none) .none)) .none)) .none))))) (.seq (.seq .none (.cond (.seq .none .none) .none)) (.seq .none .none)))))))
theorem e2K (x0 x1 : Value) (w : World) (R : Value → World → Prop) (E : Pan) : d0O x0 x1 w R E = callX Tryd.prog [.tmp 4, .tmp 5, .tmp 6] f4X f4Y [x0, x1] w R E := by kernel_rfl
theorem e2L {x0 x1 : Value} {w : World} {R : Value → World → Prop} {E : Pan} (h : d0O x0 x1 w R E) : Cv Tryd.prog 118 #[x0, x1] w R E := by
 refine g8 (args := [x0, x1]) (c := f4X) (h := f4Y) (rs := [.tmp 4, .tmp 5, .tmp 6]) Tryd.func118 (by kernel_rfl) (by kernel_rfl) (Nat.le_of_ble_eq_true (by kernel_rfl)) (by kernel_rfl) (by kernel_rfl) (by kernel_rfl) ?_
 rw [← e2K]
 exact h
def c1Z (w : World) (R : Value → World → Prop) (_E : Pan) : Prop :=
 ∀ _τ : Fr, (R (Value.int .i64 6) w)
def c8r (x0 x3 x4 : Value) (w : World) (next2 : List Value → World → Prop) (j1 : List Value → World → Prop) (R : Value → World → Prop) (E : Pan) : Prop :=
 opK Tryd.prog E (xBuiltin .len #[9] 3 [false] [x3]) w fun f4Z O7 =>
 opK Tryd.prog E (xBin .lss 3 (.tmp 53) (.tmp 55) x4 f4Z) O7 fun f5a P6 =>
 xcond f5a
 (opK Tryd.prog E (xV (Instr.index 9 x3 x4)) P6 fun f5b L4 =>
 opK Tryd.prog E (xV (convert 5 3 f5b)) L4 fun c6r P7 =>
 opK Tryd.prog E (xBin .eql 3 (.tmp 59) (.tmp 63) x0 c6r) P7 fun c6s W5 =>
 xcond c6s
 (R (Value.int .i64 5) W5)
 (opK Tryd.prog E (xBin .add 3 (.tmp 57) (.const (Value.int .i64 1)) x4 (Value.int .i64 1)) W5 fun f5c a0o =>
 next2 [f5c] a0o))
 (j1 [] P6)
def d0P (x0 : Value) (w : World) (R : Value → World → Prop) (E : Pan) : Prop :=
 opK Tryd.prog E (xBin .eql 3 (.tmp 5) (.const (Value.int .i64 32)) x0 (Value.int .i64 32)) w fun a7B w_2 =>
 opK Tryd.prog E (gsem (asB a7B) false (xBin .eql 3 (.tmp 8) (.const (Value.int .i64 9)) (gval (asB a7B) false x0) (Value.int .i64 9))) w_2 fun a5a w_4 =>
 opK Tryd.prog E (xPick a7B (Value.bool true) a5a) w_4 fun a2Y w_6 =>
 opK Tryd.prog E (gsem (asB a2Y) false (xBin .eql 3 (.tmp 12) (.const (Value.int .i64 13)) (gval (asB a2Y) false x0) (Value.int .i64 13))) w_6 fun b4e w_8 =>
 opK Tryd.prog E (xPick a2Y (Value.bool true) b4e) w_8 fun a7K m1 =>
 xcond a7K
 (R (Value.int .i64 1) m1)
 (opK Tryd.prog E (xBin .eql 3 (.tmp 15) (.const (Value.int .i64 10)) x0 (Value.int .i64 10)) m1 fun a4Q k6 =>
 xcond a4Q
 (R (Value.int .i64 2) k6)
 (opK Tryd.prog E (xCall (Value.func (.func 128) #[] #[]) [x0, (Value.int .i64 48), (Value.int .i64 57)]) k6 fun a5t o3 =>
 xcond a5t
 (R (Value.int .i64 4) o3)
 (opK Tryd.prog E (xCall (Value.func (.func 128) #[] #[]) [x0, (Value.int .i64 97), (Value.int .i64 122)]) o3 fun b6q q7 =>
 opK Tryd.prog E (gsem (asB b6q) false (xCall (Value.func (.func 128) #[] #[]) [(gval (asB b6q) false x0), (Value.int .i64 65), (Value.int .i64 90)])) q7 fun c3N r6 =>
 opK Tryd.prog E (xPick b6q (Value.bool true) c3N) r6 fun b6r o7 =>
 opK Tryd.prog E (gsem (asB b6r) false (xBin .eql 3 (.tmp 26) (.const (Value.int .i64 95)) (gval (asB b6r) false x0) (Value.int .i64 95))) o7 fun b6Y r7 =>
 opK Tryd.prog E (xPick b6r (Value.bool true) b6Y) r7 fun a3v r5 =>
 opK Tryd.prog E (gsem (asB a3v) false (xCall (Value.func (.func 128) #[] #[]) [(gval (asB a3v) false x0), (Value.int .i64 192), (Value.int .i64 591)])) r5 fun c6C u6 =>
 opK Tryd.prog E (gsem (asB (gval (asB a3v) false c6C)) true (xBin .neq 3 (.tmp 33) (.const (Value.int .i64 215)) (gval (asB (gval (asB a3v) false c6C)) true x0) (Value.int .i64 215))) u6 fun f5d v8 =>
 opK Tryd.prog E (gsem (asB a3v) false (xPick (gval (asB a3v) false c6C) f5d (Value.bool false))) v8 fun c6D t7 =>
 opK Tryd.prog E (gsem (asB (gval (asB a3v) false c6D)) true (xBin .neq 3 (.tmp 37) (.const (Value.int .i64 247)) (gval (asB (gval (asB a3v) false c6D)) true x0) (Value.int .i64 247))) t7 fun f5e y8 =>
 opK Tryd.prog E (gsem (asB a3v) false (xPick (gval (asB a3v) false c6D) f5e (Value.bool false))) y8 fun f5f A8 =>
 opK Tryd.prog E (xPick a3v (Value.bool true) f5f) A8 fun a5X B2 =>
 opK Tryd.prog E (gsem (asB a5X) false (xCall (Value.func (.func 128) #[] #[]) [(gval (asB a5X) false x0), (Value.int .i64 913), (Value.int .i64 969)])) B2 fun b6Z v2 =>
 opK Tryd.prog E (gsem (asB (gval (asB a5X) false b6Z)) true (xBin .neq 3 (.tmp 45) (.const (Value.int .i64 930)) (gval (asB (gval (asB a5X) false b6Z)) true x0) (Value.int .i64 930))) v2 fun f5g C3 =>
 opK Tryd.prog E (gsem (asB a5X) false (xPick (gval (asB a5X) false b6Z) f5g (Value.bool false))) C3 fun f5h G5 =>
 opK Tryd.prog E (xPick a5X (Value.bool true) f5h) G5 fun c6E E5 =>
 opK Tryd.prog E (gsem (asB c6E) false (xCall (Value.func (.func 128) #[] #[]) [(gval (asB c6E) false x0), (Value.int .i64 1040), (Value.int .i64 1103)])) E5 fun f5i K0 =>
 opK Tryd.prog E (xPick c6E (Value.bool true) f5i) K0 fun f5j I8 =>
 xcond f5j
 (R (Value.int .i64 3) I8)
 (xcut (fun _ I9 => c1Z I9 R E) fun j1 =>
 xloop [4] [(Value.int .i64 0)] I8 fun τ_63 V6 next2 =>
 c8r x0 (Value.string ⟨#[59, 44, 123, 125, 40, 41, 91, 93, 61, 33, 60, 62, 43, 45, 42, 47, 37, 38, 124]⟩) (τ_63 4) V6 next2 j1 R E))))
noncomputable def f5k : Code := Tryd.f119.body.getD .skip
def f5l : Hint := (.seq .none (.seq (.seq .none (.cond (.seq .none .none) .none)) (.seq (.seq .none (.cond (.seq .none .none) .none)) (.seq (.seq .none (.cond (.seq .none .none) .none)) (.seq (.seq .none (.cond (.seq .none .none) .none)) (.seq .none (.cut [] (.seq .none (.block (.loop [4] (.seq (.seq .none (.cond .none .none)) (.seq (.block (.seq .none (.cond (.seq .none .none) .none))) .none))))) (.seq .none .none))))))))
theorem e2M (x0 : Value) (w : World) (R : Value → World → Prop) (E : Pan) : d0P x0 w R E = callX Tryd.prog [.tmp 2] f5k f5l [x0] w R E := by kernel_rfl
theorem e2N {x0 : Value} {w : World} {R : Value → World → Prop} {E : Pan} (h : d0P x0 w R E) : Cv Tryd.prog 119 #[x0] w R E := by
 refine g8 (args := [x0]) (c := f5k) (h := f5l) (rs := [.tmp 2]) Tryd.func119 (by kernel_rfl) (by kernel_rfl) (Nat.le_of_ble_eq_true (by kernel_rfl)) (by kernel_rfl) (by kernel_rfl) (by kernel_rfl) ?_
 rw [← e2M]
 exact h
def d0Q (x0 x1 x2 : Value) (w : World) (R : Value → World → Prop) (E : Pan) : Prop :=
 opK Tryd.prog E (xBin .geq 3 (.tmp 7) (.tmp 8) x0 x1) w fun d0R w_2 =>
 opK Tryd.prog E (gsem (asB d0R) true (xBin .leq 3 (.tmp 11) (.tmp 12) (gval (asB d0R) true x0) (gval (asB d0R) true x2))) w_2 fun b0h w_4 =>
 opK Tryd.prog E (xPick d0R b0h (Value.bool false)) w_4 fun b0i w_6 =>
 R b0i w_6
noncomputable def f5m : Code := Tryd.f128.body.getD .skip
def f5n : Hint := (.seq .none (.seq .none .none))
theorem e2O (x0 x1 x2 : Value) (w : World) (R : Value → World → Prop) (E : Pan) : d0Q x0 x1 x2 w R E = callX Tryd.prog [.tmp 6] f5m f5n [x0, x1, x2] w R E := by kernel_rfl
theorem e2P {x0 x1 x2 : Value} {w : World} {R : Value → World → Prop} {E : Pan} (h : d0Q x0 x1 x2 w R E) : Cv Tryd.prog 128 #[x0, x1, x2] w R E := by
 refine g8 (args := [x0, x1, x2]) (c := f5m) (h := f5n) (rs := [.tmp 6]) Tryd.func128 (by kernel_rfl) (by kernel_rfl) (Nat.le_of_ble_eq_true (by kernel_rfl)) (by kernel_rfl) (by kernel_rfl) (by kernel_rfl) ?_
 rw [← e2O]
 exact h
end Go.Proofs.YthldnpmfelniiaaDoor
