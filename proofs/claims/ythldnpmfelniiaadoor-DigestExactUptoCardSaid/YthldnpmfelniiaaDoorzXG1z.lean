/- The second reading of some of the program's functions, printed by gen2.py off the code; each is held against the code by the kernel. -/
import Derived.Test.YthldnpmfelniiaaDoorProg
import Derived.Test.YthldnpmfelniiaaDoorzXK0
import Derived.KernelRfl
namespace Go.Proofs.YthldnpmfelniiaaDoor
open Go.RowKit
set_option maxRecDepth 100000
def F4 (x0 x1 : Value) (w : World) (R : Value → World → Prop) (E : Pan) : Prop :=
 opK Tryd.prog E (xV (Instr.box 30 x0)) w fun a4h w_2 =>
 opK Tryd.prog E (xV (Instr.box 33 x1)) w_2 fun Y9 w_4 =>
 dX w_4 fun w_5 =>
 opK Tryd.prog E (xCall (Value.func (.func 14) #[] #[]) []) w_5 fun a6G w_7 =>
 keepX [] w_5 w_7 (qL Tryd.prog w_7 (blk a4h) (gsem (asB a6G) true (xV (Instr.loadAt 30 a4h))) fun d5S =>
 qL Tryd.prog w_7 (blk a4h) (gsem (asB a6G) true (xV (Instr.loadAt 30 a4h))) fun b2D =>
 opK Tryd.prog E (gsem (asB a6G) true (xCall (Value.func (.func 17) #[] #[]) [d5S])) w_7 fun c9b a0P =>
 keepX [(blk a4h)] w_7 a0P (opK Tryd.prog E (gsem (asB a6G) true (xCall (Value.func (.func 18) #[] #[]) [b2D])) a0P fun c4s a2K =>
 keepX [] a0P a2K (qP Tryd.prog (gsem (asB a6G) true (xBin .eql 3 (.tmp 8) (.tmp 10) c9b c4s)) fun c4t =>
 qP Tryd.prog (xPick a6G c4t (Value.bool false)) fun a6u =>
 qL Tryd.prog a2K (blk Y9) (gsem (asB a6u) true (xV (Instr.loadAt 33 Y9))) fun f1H =>
 qL Tryd.prog a2K (blk Y9) (gsem (asB a6u) true (xV (Instr.loadAt 33 Y9))) fun b5s =>
 opK Tryd.prog E (gsem (asB a6u) true (xCall (Value.func (.func 19) #[] #[]) [f1H])) a2K fun f1I a6I =>
 keepX [(blk Y9)] a2K a6I (opK Tryd.prog E (gsem (asB a6u) true (xCall (Value.func (.func 20) #[] #[]) [b5s])) a6I fun f1J a8S =>
 keepX [] a6I a8S (qP Tryd.prog (gsem (asB a6u) true (xBin .eql 3 (.tmp 15) (.tmp 17) f1I f1J)) fun b5l =>
 qP Tryd.prog (xPick a6u b5l (Value.bool false)) fun b5t =>
 R b5t a8S)))))
def h4 : Hint := (.seq .none (.seq (.reg [(0, 32, 0), (1, 64, 32), (2, 128, 68), (6, 256, 192), (2, 512, 68), (26, 1024, 576), (42, 2048, 1344), (66, 4096, 2112), (160, 8192, 4096), (256, 16384, 8200), (768, 32768, 24576), (256, 65536, 8200), (3328, 131072, 73728), (5376, 262144, 172032), (8448, 524288, 270336), (32767, 16, 524288)] [0, 2580, 2576, 16, 2564, 0, 2580, 2580, 2580, 2068, 2048, 532, 0, 2580, 2580, 2580] (.step 0 (.early 1 (.load 2 (.load 4 (.step 3 (.step 5 (.early 6 (.early 7 (.early 8 (.load 9 (.load 11 (.step 10 (.step 12 (.early 13 (.early 14 (.early 15 .done))))))))))))))))) .none))
def c5y (x4 : Value) (w : World) (R : Value → World → Prop) (E : Pan) : Prop :=
 ∀ _τ : Fr, (opK Tryd.prog E (xV (Instr.loadAt 102 x4)) w fun f1K w9 =>
 opK Tryd.prog E (xCall (Value.func (.func 60) #[] #[]) [f1K]) w9 fun f1L z6 =>
 R f1L z6)
def d4E (x1 x4 x6 : Value) (w : World) (next3 : List Value → World → Prop) (j2 : List Value → World → Prop) (_R : Value → World → Prop) (E : Pan) : Prop :=
 opK Tryd.prog E (xV (Instr.fieldAt 25 x1 1)) w fun f1M z7 =>
 opK Tryd.prog E (xV (Instr.loadAt 23 f1M)) z7 fun f1N B3 =>
 opK Tryd.prog E (xBuiltin .len #[23] 3 [false] [f1N]) B3 fun f1O w3 =>
 opK Tryd.prog E (xBin .lss 3 (.tmp 50) (.tmp 53) x6 f1O) w3 fun c5z B8 =>
 opK Tryd.prog E (gsem (asB c5z) true (xV (Instr.fieldAt 102 x4 0))) B8 fun f1P C7 =>
 opK Tryd.prog E (gsem (asB c5z) true (xV (Instr.loadAt 4 f1P))) C7 fun f1Q B9 =>
 opK Tryd.prog E (xPick c5z f1Q (Value.bool false)) B9 fun f1R D4 =>
 xcond f1R
 (opK Tryd.prog E (xV (Instr.fieldAt 25 x1 1)) D4 fun f1S E6 =>
 opK Tryd.prog E (xV (Instr.loadAt 23 f1S)) E6 fun f1T D7 =>
 opK Tryd.prog E (xV (Instr.indexAt 23 f1T x6)) D7 fun f1U D8 =>
 opK Tryd.prog E (xV (Instr.loadAt 88 f1U)) D8 fun f1V I9 =>
 opK Tryd.prog E (xCall (Value.func (.func 65) #[] #[]) [x4, f1V]) I9 fun _t66_55 K7 =>
 opK Tryd.prog E (xBin .add 3 (.tmp 59) (.const (Value.int .i64 1)) x6 (Value.int .i64 1)) K7 fun b6q H9 =>
 next3 [b6q] H9)
 (j2 [] D4)
def c5A (x1 x4 : Value) (w : World) (R : Value → World → Prop) (E : Pan) : Prop :=
 ∀ _τ : Fr, (xcut (fun _ w8 => c5y x4 w8 R E) fun j2 =>
 xloop [6] [(Value.int .i64 0)] w fun τ_59 J1 next3 =>
 d4E x1 x4 (τ_59 6) J1 next3 j2 R E)
def d4F (x1 x4 x5 : Value) (w : World) (next4 : List Value → World → Prop) (j1 : List Value → World → Prop) (_R : Value → World → Prop) (E : Pan) : Prop :=
 opK Tryd.prog E (xV (Instr.fieldAt 25 x1 0)) w fun f1W J7 =>
 opK Tryd.prog E (xV (Instr.loadAt 22 f1W)) J7 fun f1X Q4 =>
 opK Tryd.prog E (xBuiltin .len #[22] 3 [false] [f1X]) Q4 fun f1Y V4 =>
 opK Tryd.prog E (xBin .lss 3 (.tmp 15) (.tmp 18) x5 f1Y) V4 fun f1Z K8 =>
 xcond f1Z
 (opK Tryd.prog E (xV (Instr.fieldAt 102 x4 0)) K8 fun f2a V9 =>
 opK Tryd.prog E (xV (Instr.loadAt 4 f2a)) V9 fun a9D Y3 =>
 opK Tryd.prog E (gsem (asB a9D) true (xV (Instr.fieldAt 25 x1 0))) Y3 fun f2b S7 =>
 opK Tryd.prog E (gsem (asB a9D) true (xV (Instr.loadAt 22 f2b))) S7 fun f2c a0v =>
 opK Tryd.prog E (gsem (asB a9D) true (xV (Instr.indexAt 22 f2c (gval (asB a9D) true x5)))) a0v fun f2d Z0 =>
 opK Tryd.prog E (gsem (asB a9D) true (xV (Instr.fieldAt 67 f2d 1))) Z0 fun f2e a1s =>
 opK Tryd.prog E (gsem (asB a9D) true (xV (Instr.loadAt 3 f2e))) a1s fun f2f a2k =>
 opK Tryd.prog E (gsem (asB a9D) true (xBin .geq 3 (.tmp 30) (.const (Value.int .i64 0)) f2f (Value.int .i64 0))) a2k fun f2g a2C =>
 opK Tryd.prog E (xPick a9D f2g (Value.bool false)) a2C fun a9E a2l =>
 opK Tryd.prog E (gsem (asB a9E) true (xV (Instr.fieldAt 25 x1 0))) a2l fun f2h a3I =>
 opK Tryd.prog E (gsem (asB a9E) true (xV (Instr.loadAt 22 f2h))) a3I fun f2i a3J =>
 opK Tryd.prog E (gsem (asB a9E) true (xV (Instr.indexAt 22 f2i (gval (asB a9E) true x5)))) a3J fun f2j a3K =>
 opK Tryd.prog E (gsem (asB a9E) true (xV (Instr.fieldAt 67 f2j 1))) a3K fun f2k a2L =>
 opK Tryd.prog E (gsem (asB a9E) true (xV (Instr.loadAt 3 f2k))) a2L fun f2l a3L =>
 opK Tryd.prog E (gsem (asB a9E) true (xBin .leq 3 (.tmp 39) (.const (Value.int .i64 2147483647)) f2l (Value.int .i64 2147483647))) a3L fun f2m a0E =>
 opK Tryd.prog E (xPick a9E f2m (Value.bool false)) a0E fun e3d a1u =>
 opK Tryd.prog E (xV (Instr.fieldAt 102 x4 0)) a1u fun e3e a2r =>
 opK Tryd.prog E (xU (Instr.storeAt 4 e3e e3d)) a2r fun _z_105 a2s =>
 opK Tryd.prog E (xV (Instr.fieldAt 25 x1 0)) a2s fun e3f a2M =>
 opK Tryd.prog E (xV (Instr.loadAt 22 e3f)) a2M fun e3g a3x =>
 opK Tryd.prog E (xV (Instr.indexAt 22 e3g x5)) a3x fun e3h a3y =>
 opK Tryd.prog E (xV (Instr.fieldAt 67 e3h 0)) a3y fun e3i a2N =>
 opK Tryd.prog E (xV (Instr.loadAt 9 e3i)) a2N fun e3j a3z =>
 opK Tryd.prog E (xCall (Value.func (.func 64) #[] #[]) [x4, e3j, (Value.bool true)]) a3z fun _t49_117 a4n =>
 opK Tryd.prog E (xBin .add 3 (.tmp 20) (.const (Value.int .i64 1)) x5 (Value.int .i64 1)) a4n fun e3k a4o =>
 next4 [e3k] a4o)
 (j1 [] K8)
def F23 (x0 : Value) (w : World) (R : Value → World → Prop) (E : Pan) : Prop :=
 opK Tryd.prog E (xV (Instr.box 25 x0)) w fun t8 w_2 =>
 opK Tryd.prog E (xV (Instr.loadAt 25 t8)) w_2 fun a3i w_4 =>
 opK Tryd.prog E (xCall (Value.func (.func 63) #[] #[]) [a3i]) w_4 fun a6l w_6 =>
 opK Tryd.prog E (xV (Instr.alloc 99 true (.tuple #[]))) w_6 fun b7J w_8 =>
 opK Tryd.prog E (xU (Instr.storeAt 99 b7J a6l)) w_8 fun _z_9 m2 =>
 opK Tryd.prog E (xV (Instr.fieldAt 99 b7J 2)) m2 fun b0g m8 =>
 opK Tryd.prog E (xV (Instr.loadAt 3 b0g)) m8 fun b0R m5 =>
 opK Tryd.prog E (xBin .neq 3 (.tmp 10) (.const (Value.int .i64 0)) b0R (Value.int .i64 0)) m5 fun b0S o6 =>
 xcond b0S
 (opK Tryd.prog E (xV (Instr.fieldAt 99 b7J 2)) o6 fun b0T p8 =>
 opK Tryd.prog E (xV (Instr.loadAt 3 b0T)) p8 fun b0U o4 =>
 R b0U o4)
 (opK Tryd.prog E (xV (Instr.build 102 #[(0, (Value.bool true)), (1, (Value.bool true))])) o6 fun b0V r6 =>
 opK Tryd.prog E (xV (Instr.alloc 102 true (.tuple #[]))) r6 fun d0K q6 =>
 opK Tryd.prog E (xU (Instr.storeAt 102 d0K b0V)) q6 fun _z_25 u1 =>
 xcut (fun _ N9 => c5A t8 d0K N9 R E) fun j1 =>
 xloop [5] [(Value.int .i64 0)] u1 fun τ_121 a5Z next4 =>
 d4F t8 d0K (τ_121 5) a5Z next4 j1 R E)
noncomputable def c23 : Code := Tryd.f23.body.getD .skip
def h23 : Hint := (.seq .none (.seq .none (.seq (.seq .none (.cond (.seq .none .none) .none)) (.seq .none (.cut [] (.seq .none (.block (.loop [5] (.seq (.seq .none (.cond .none .none)) (.seq (.block (.seq .none .none)) .none))))) (.cut [] (.seq .none (.block (.loop [6] (.seq (.seq .none (.cond .none .none)) (.seq (.block .none) .none))))) (.seq .none .none)))))))
theorem f2n (x0 : Value) (w : World) (R : Value → World → Prop) (E : Pan) : F23 x0 w R E = callX Tryd.prog [.tmp 2] c23 h23 [x0] w R E := by kernel_rfl
theorem f2o {x0 : Value} {w : World} {R : Value → World → Prop} {E : Pan} (h : F23 x0 w R E) : Cv Tryd.prog 23 #[x0] w R E := by
 refine h8 (args := [x0]) (c := c23) (h := h23) (rs := [.tmp 2]) Tryd.func23 (by kernel_rfl) (by kernel_rfl) (Nat.le_of_ble_eq_true (by kernel_rfl)) (by kernel_rfl) (by kernel_rfl) (by kernel_rfl) ?_
 rw [← f2n]
 exact h
def d4G (x0 x3 x5 : Value) (w : World) (next2 : List Value → World → Prop) (R : Value → World → Prop) (E : Pan) : Prop :=
 opK Tryd.prog E (xV (Instr.fieldAt 30 x3 3)) w fun f2p K8 =>
 opK Tryd.prog E (xV (Instr.loadAt 28 f2p)) K8 fun f2q V9 =>
 opK Tryd.prog E (xBuiltin .len #[28] 3 [false] [f2q]) V9 fun f2r Y3 =>
 opK Tryd.prog E (xBin .lss 3 (.tmp 65) (.tmp 68) x5 f2r) Y3 fun b6r S7 =>
 opK Tryd.prog E (gsem (asB b6r) true (xNil (gval (asB b6r) true x0))) S7 fun f2s a0v =>
 opK Tryd.prog E (gsem (asB b6r) true (xV (Instr.fieldAt 102 f2s 0))) a0v fun f2t Z0 =>
 opK Tryd.prog E (gsem (asB b6r) true (xV (Instr.loadAt 4 f2t))) Z0 fun f2u a1s =>
 opK Tryd.prog E (xPick b6r f2u (Value.bool false)) a1s fun f2v a2k =>
 xcond f2v
 (opK Tryd.prog E (xV (Instr.fieldAt 30 x3 3)) a2k fun f2w a2C =>
 opK Tryd.prog E (xV (Instr.loadAt 28 f2w)) a2C fun f2x a2l =>
 opK Tryd.prog E (xV (Instr.indexAt 28 f2x x5)) a2l fun c5B a3I =>
 opK Tryd.prog E (xV (Instr.loadAt 30 c5B)) a3I fun c5C a3J =>
 opK Tryd.prog E (xCall (Value.func (.func 59) #[] #[]) [x0, c5C]) a3J fun _t84_93 a3K =>
 opK Tryd.prog E (xBin .add 3 (.tmp 76) (.const (Value.int .i64 1)) x5 (Value.int .i64 1)) a3K fun f2y a2L =>
 next2 [f2y] a2L)
 (R (Value.tuple #[]) a2k)
def c5D (x0 x3 x4 : Value) (w : World) (R : Value → World → Prop) (E : Pan) : Prop :=
 ∀ _τ : Fr, (opK Tryd.prog E (xV (Instr.fieldAt 30 x3 2)) w fun g0T w_4 =>
 opK Tryd.prog E (xV (Instr.loadAt 9 g0T)) w_4 fun c9e w_6 =>
 opK Tryd.prog E (xV (Instr.fieldAt 30 x3 0)) w_6 fun g0U w_8 =>
 opK Tryd.prog E (xV (Instr.loadAt 3 g0U)) w_8 fun g0V m2 =>
 opK Tryd.prog E (xBin .eql 3 (.tmp 28) (.const (Value.int .i64 2)) g0V (Value.int .i64 2)) m2 fun b9V m8 =>
 opK Tryd.prog E (gsem (asB b9V) false (xV (Instr.fieldAt 30 x3 0))) m8 fun f2z m5 =>
 opK Tryd.prog E (gsem (asB b9V) false (xV (Instr.loadAt 3 f2z))) m5 fun f2A o6 =>
 opK Tryd.prog E (gsem (asB b9V) false (xBin .eql 3 (.tmp 32) (.const (Value.int .i64 4)) f2A (Value.int .i64 4))) o6 fun f2B p8 =>
 opK Tryd.prog E (xPick b9V (Value.bool true) f2B) p8 fun f2C o4 =>
 opK Tryd.prog E (xCall (Value.func (.func 64) #[] #[]) [x0, c9e, f2C]) o4 fun _t35_21 r6 =>
 opK Tryd.prog E (xNil x0) r6 fun f2D q6 =>
 opK Tryd.prog E (xV (Instr.fieldAt 102 f2D 0)) q6 fun f2E u1 =>
 opK Tryd.prog E (xV (Instr.loadAt 4 f2E)) u1 fun b3m w9 =>
 opK Tryd.prog E (gsem (asB b3m) true (xV (Instr.fieldAt 30 x3 3))) w9 fun f2F z6 =>
 opK Tryd.prog E (gsem (asB b3m) true (xV (Instr.loadAt 28 f2F))) z6 fun f2G w8 =>
 opK Tryd.prog E (gsem (asB b3m) true (xBuiltin .len #[28] 3 [false] [f2G])) w8 fun f2H z7 =>
 opK Tryd.prog E (gsem (asB b3m) true (xBin .eql 3 (.tmp 44) (.tmp 45) f2H (gval (asB b3m) true x4))) z7 fun f2I B3 =>
 opK Tryd.prog E (xPick b3m f2I (Value.bool false)) B3 fun a4b w3 =>
 opK Tryd.prog E (gsem (asB a4b) true (xV (Instr.fieldAt 30 x3 1))) w3 fun f2J B8 =>
 opK Tryd.prog E (gsem (asB a4b) true (xV (Instr.loadAt 2 f2J))) B8 fun f2K C7 =>
 opK Tryd.prog E (gsem (asB a4b) true (xBin .eql 2 (.tmp 50) (.const (Value.int .i64 0)) f2K (Value.int .i64 0))) C7 fun a8m B9 =>
 opK Tryd.prog E (gsem (asB (gval (asB a4b) true a8m)) false (xV (Instr.fieldAt 30 x3 0))) B9 fun f2L D4 =>
 opK Tryd.prog E (gsem (asB (gval (asB a4b) true a8m)) false (xV (Instr.loadAt 3 f2L))) D4 fun f2M E6 =>
 opK Tryd.prog E (gsem (asB (gval (asB a4b) true a8m)) false (xBin .eql 3 (.tmp 54) (.const (Value.int .i64 1)) f2M (Value.int .i64 1))) E6 fun b9W D7 =>
 opK Tryd.prog E (gsem (asB (gval (asB (gval (asB a4b) true a8m)) false b9W)) true (xV (Instr.fieldAt 30 x3 1))) D7 fun f2N D8 =>
 opK Tryd.prog E (gsem (asB (gval (asB (gval (asB a4b) true a8m)) false b9W)) true (xV (Instr.loadAt 2 f2N))) D8 fun f2O I9 =>
 opK Tryd.prog E (gsem (asB (gval (asB (gval (asB a4b) true a8m)) false b9W)) true (xBin .gtr 2 (.tmp 58) (.const (Value.int .i64 0)) f2O (Value.int .i64 0))) I9 fun c5E K7 =>
 opK Tryd.prog E (gsem (asB (gval (asB a4b) true a8m)) false (xPick (gval (asB (gval (asB a4b) true a8m)) false b9W) c5E (Value.bool false))) K7 fun b6q H9 =>
 opK Tryd.prog E (gsem (asB a4b) true (xPick (gval (asB a4b) true a8m) (Value.bool true) b6q)) H9 fun c5F J1 =>
 opK Tryd.prog E (xPick a4b c5F (Value.bool false)) J1 fun f2P N9 =>
 opK Tryd.prog E (xNil x0) N9 fun c5G J7 =>
 opK Tryd.prog E (xV (Instr.fieldAt 102 c5G 0)) J7 fun c5H Q4 =>
 opK Tryd.prog E (xU (Instr.storeAt 4 c5H f2P)) Q4 fun _z_67 V4 =>
 xloop [5] [(Value.int .i64 0)] V4 fun τ_97 a3L next2 =>
 d4G x0 x3 (τ_97 5) a3L next2 R E)
def c5I (x0 _x3 x4 x18 : Value) (w : World) (j1 : List Value → World → Prop) (_R : Value → World → Prop) (E : Pan) : Prop :=
 ∀ _τ : Fr, (xcond x18
 (j1 [(Value.int .i64 2)] w)
 (opK Tryd.prog E (xNil x0) w fun f2Q a2s =>
 opK Tryd.prog E (xV (Instr.fieldAt 102 f2Q 0)) a2s fun e3l a2M =>
 opK Tryd.prog E (xU (Instr.storeAt 4 e3l (Value.bool false))) a2M fun _z_109 a3x =>
 j1 [x4] a3x))
def c5J (x0 x3 x4 x7 x15 : Value) (w : World) (j1 : List Value → World → Prop) (R : Value → World → Prop) (E : Pan) : Prop :=
 ∀ _τ : Fr, (xcond x15
 (j1 [(Value.int .i64 1)] w)
 (xcut (fun b9J a3y => c5I x0 x3 x4 (nth b9J 0) a3y j1 R E) fun j5 =>
 opK Tryd.prog E (xBin .eql 3 (.tmp 7) (.const (Value.int .i64 6)) x7 (Value.int .i64 6)) w fun c8p a2N =>
 xcond c8p
 (j5 [c8p] a2N)
 (opK Tryd.prog E (xBin .eql 3 (.tmp 7) (.const (Value.int .i64 7)) x7 (Value.int .i64 7)) a2N fun c8q a3z =>
 xcond c8q
 (j5 [c8q] a3z)
 (opK Tryd.prog E (xBin .eql 3 (.tmp 7) (.const (Value.int .i64 8)) x7 (Value.int .i64 8)) a3z fun c8r a4n =>
 xcond c8r
 (j5 [c8r] a4n)
 (opK Tryd.prog E (xBin .eql 3 (.tmp 7) (.const (Value.int .i64 9)) x7 (Value.int .i64 9)) a4n fun c8s a4o =>
 xcond c8s
 (j5 [c8s] a4o)
 (opK Tryd.prog E (xBin .eql 3 (.tmp 7) (.const (Value.int .i64 10)) x7 (Value.int .i64 10)) a4o fun e3m a5Z =>
 j5 [e3m] a5Z))))))
def c5K (x0 x3 x4 x7 x11 : Value) (w : World) (j1 : List Value → World → Prop) (R : Value → World → Prop) (E : Pan) : Prop :=
 ∀ _τ : Fr, (xcond x11
 (j1 [x4] w)
 (xcut (fun g0W a7I => c5J x0 x3 x4 x7 (nth g0W 0) a7I j1 R E) fun j4 =>
 opK Tryd.prog E (xBin .eql 3 (.tmp 7) (.const (Value.int .i64 4)) x7 (Value.int .i64 4)) w fun c8t a6a =>
 xcond c8t
 (j4 [c8t] a6a)
 (opK Tryd.prog E (xBin .eql 3 (.tmp 7) (.const (Value.int .i64 5)) x7 (Value.int .i64 5)) a6a fun e3n a7J =>
 j4 [e3n] a7J)))
def F59 (x0 x1 : Value) (w : World) (R : Value → World → Prop) (E : Pan) : Prop :=
 opK Tryd.prog E (xV (Instr.box 30 x1)) w fun a0S w_2 =>
 xcut (fun d6c a0E => c5D x0 a0S (nth d6c 0) a0E R E) fun j1 =>
 opK Tryd.prog E (xV (Instr.fieldAt 30 a0S 0)) w_2 fun f2R a1u =>
 opK Tryd.prog E (xV (Instr.loadAt 3 f2R)) a1u fun b9X a2r =>
 xcut (fun g0X a7K => c5K x0 a0S (Value.int .i64 0) b9X (nth g0X 0) a7K j1 R E) fun j3 =>
 opK Tryd.prog E (xBin .eql 3 (.tmp 7) (.const (Value.int .i64 1)) b9X (Value.int .i64 1)) a2r fun c8u a6B =>
 xcond c8u
 (j3 [c8u] a6B)
 (opK Tryd.prog E (xBin .eql 3 (.tmp 7) (.const (Value.int .i64 2)) b9X (Value.int .i64 2)) a6B fun c8v a7L =>
 xcond c8v
 (j3 [c8v] a7L)
 (opK Tryd.prog E (xBin .eql 3 (.tmp 7) (.const (Value.int .i64 3)) b9X (Value.int .i64 3)) a7L fun e3o a9n =>
 j3 [e3o] a9n))
noncomputable def c59 : Code := Tryd.f59.body.getD .skip
def h59 : Hint := (.seq .none (.seq .none (.cut [4] (.seq .none (.block (.cut [11] (.seq .none (.cond .none (.seq .none (.cond .none .none)))) (.cond .none (.cut [15] (.seq .none (.cond .none .none)) (.cond .none (.cut [18] (.seq .none (.cond .none (.seq .none (.cond .none (.seq .none (.cond .none (.seq .none (.cond .none .none)))))))) (.cond .none .none)))))))) (.seq .none (.seq .none (.seq .none (.block (.loop [5] (.seq (.seq .none (.cond .none .none)) (.seq (.block .none) .none))))))))))
theorem f2S (x0 x1 : Value) (w : World) (R : Value → World → Prop) (E : Pan) : F59 x0 x1 w R E = callX Tryd.prog [] c59 h59 [x0, x1] w R E := by kernel_rfl
theorem f2T {x0 x1 : Value} {w : World} {R : Value → World → Prop} {E : Pan} (h : F59 x0 x1 w R E) : Cv Tryd.prog 59 #[x0, x1] w R E := by
 refine h8 (args := [x0, x1]) (c := c59) (h := h59) (rs := []) Tryd.func59 (by kernel_rfl) (by kernel_rfl) (Nat.le_of_ble_eq_true (by kernel_rfl)) (by kernel_rfl) (by kernel_rfl) (by kernel_rfl) ?_
 rw [← f2S]
 exact h
def F60 (x0 : Value) (w : World) (R : Value → World → Prop) (E : Pan) : Prop :=
 opK Tryd.prog E (xV (Instr.box 102 x0)) w fun t8 w_2 =>
 opK Tryd.prog E (xV (Instr.fieldAt 102 t8 0)) w_2 fun Y9 w_4 =>
 opK Tryd.prog E (xV (Instr.loadAt 4 Y9)) w_4 fun a4i w_6 =>
 opK Tryd.prog E (xV (Op.unary .not a4i)) w_6 fun a6H w_8 =>
 xcond a6H
 (R (Value.int .i64 30) w_8)
 (opK Tryd.prog E (xV (Instr.fieldAt 102 t8 1)) w_8 fun b0K m2 =>
 opK Tryd.prog E (xV (Instr.loadAt 4 b0K)) m2 fun a4Q m8 =>
 opK Tryd.prog E (xV (Op.unary .not a4Q)) m8 fun g0Y m5 =>
 xcond g0Y
 (R (Value.int .i64 31) m5)
 (R (Value.int .i64 0) m5))
noncomputable def c60 : Code := Tryd.f60.body.getD .skip
def h60 : Hint := (.seq .none (.seq (.seq .none (.cond (.seq .none .none) .none)) (.seq (.seq .none (.cond (.seq .none .none) .none)) (.seq .none .none))))
theorem f2U (x0 : Value) (w : World) (R : Value → World → Prop) (E : Pan) : F60 x0 w R E = callX Tryd.prog [.tmp 2] c60 h60 [x0] w R E := by kernel_rfl
theorem f2V {x0 : Value} {w : World} {R : Value → World → Prop} {E : Pan} (h : F60 x0 w R E) : Cv Tryd.prog 60 #[x0] w R E := by
 refine h8 (args := [x0]) (c := c60) (h := h60) (rs := [.tmp 2]) Tryd.func60 (by kernel_rfl) (by kernel_rfl) (Nat.le_of_ble_eq_true (by kernel_rfl)) (by kernel_rfl) (by kernel_rfl) (by kernel_rfl) ?_
 rw [← f2U]
 exact h
def d4H (x0 x3 x8 : Value) (w : World) (next4 : List Value → World → Prop) (R : Value → World → Prop) (E : Pan) : Prop :=
 opK Tryd.prog E (xV (Instr.fieldAt 33 x3 3)) w fun f2W B9 =>
 opK Tryd.prog E (xV (Instr.loadAt 31 f2W)) B9 fun f2X D4 =>
 opK Tryd.prog E (xBuiltin .len #[31] 3 [false] [f2X]) D4 fun f2Y E6 =>
 opK Tryd.prog E (xBin .lss 3 (.tmp 82) (.tmp 85) x8 f2Y) E6 fun b6s D7 =>
 opK Tryd.prog E (gsem (asB b6s) true (xNil (gval (asB b6s) true x0))) D7 fun f2Z D8 =>
 opK Tryd.prog E (gsem (asB b6s) true (xV (Instr.fieldAt 102 f2Z 0))) D8 fun f3a I9 =>
 opK Tryd.prog E (gsem (asB b6s) true (xV (Instr.loadAt 4 f3a))) I9 fun f3b K7 =>
 opK Tryd.prog E (xPick b6s f3b (Value.bool false)) K7 fun f3c H9 =>
 xcond f3c
 (opK Tryd.prog E (xV (Instr.fieldAt 33 x3 3)) H9 fun f3d J1 =>
 opK Tryd.prog E (xV (Instr.loadAt 31 f3d)) J1 fun f3e N9 =>
 opK Tryd.prog E (xV (Instr.indexAt 31 f3e x8)) N9 fun f3f J7 =>
 opK Tryd.prog E (xV (Instr.loadAt 33 f3f)) J7 fun e3p Q4 =>
 opK Tryd.prog E (xCall (Value.func (.func 62) #[] #[]) [x0, e3p]) Q4 fun _t101_67 V4 =>
 opK Tryd.prog E (xBin .add 3 (.tmp 93) (.const (Value.int .i64 1)) x8 (Value.int .i64 1)) V4 fun f3g K8 =>
 next4 [f3g] K8)
 (R (Value.tuple #[]) H9)
def c5L (x0 x3 : Value) (w : World) (R : Value → World → Prop) (E : Pan) : Prop :=
 ∀ _τ : Fr, (xloop [8] [(Value.int .i64 0)] w fun τ_71 V9 next4 =>
 d4H x0 x3 (τ_71 8) V9 next4 R E)
def d4I (x0 x3 x7 : Value) (w : World) (next5 : List Value → World → Prop) (j3 : List Value → World → Prop) (_R : Value → World → Prop) (E : Pan) : Prop :=
 opK Tryd.prog E (xV (Instr.fieldAt 33 x3 2)) w fun f3h S7 =>
 opK Tryd.prog E (xV (Instr.loadAt 28 f3h)) S7 fun f3i a0v =>
 opK Tryd.prog E (xBuiltin .len #[28] 3 [false] [f3i]) a0v fun f3j Z0 =>
 opK Tryd.prog E (xBin .lss 3 (.tmp 62) (.tmp 65) x7 f3j) Z0 fun b6t a1s =>
 opK Tryd.prog E (gsem (asB b6t) true (xNil (gval (asB b6t) true x0))) a1s fun f3k a2k =>
 opK Tryd.prog E (gsem (asB b6t) true (xV (Instr.fieldAt 102 f3k 0))) a2k fun f3l a2C =>
 opK Tryd.prog E (gsem (asB b6t) true (xV (Instr.loadAt 4 f3l))) a2C fun f3m a2l =>
 opK Tryd.prog E (xPick b6t f3m (Value.bool false)) a2l fun f3n a3I =>
 xcond f3n
 (opK Tryd.prog E (xV (Instr.fieldAt 33 x3 2)) a3I fun f3o a3J =>
 opK Tryd.prog E (xV (Instr.loadAt 28 f3o)) a3J fun f3p a3K =>
 opK Tryd.prog E (xV (Instr.indexAt 28 f3p x7)) a3K fun f3q a2L =>
 opK Tryd.prog E (xV (Instr.loadAt 30 f3q)) a2L fun f3r a3L =>
 opK Tryd.prog E (xCall (Value.func (.func 59) #[] #[]) [x0, f3r]) a3L fun _t81_99 a0E =>
 opK Tryd.prog E (xBin .add 3 (.tmp 73) (.const (Value.int .i64 1)) x7 (Value.int .i64 1)) a0E fun e3q a1u =>
 next5 [e3q] a1u)
 (j3 [] a3I)
def c5M (x0 x3 x4 x5 x6 : Value) (w : World) (R : Value → World → Prop) (E : Pan) : Prop :=
 ∀ _τ : Fr, (opK Tryd.prog E (xNil x0) w fun g0Z m2 =>
 opK Tryd.prog E (xV (Instr.fieldAt 102 g0Z 0)) m2 fun f3s m8 =>
 opK Tryd.prog E (xV (Instr.loadAt 4 f3s)) m8 fun d4J m5 =>
 opK Tryd.prog E (xPick d4J (gval (asB d4J) true x6) (Value.bool false)) m5 fun b3n o6 =>
 opK Tryd.prog E (gsem (asB b3n) true (xV (Instr.fieldAt 33 x3 2))) o6 fun f3t p8 =>
 opK Tryd.prog E (gsem (asB b3n) true (xV (Instr.loadAt 28 f3t))) p8 fun f3u o4 =>
 opK Tryd.prog E (gsem (asB b3n) true (xBuiltin .len #[28] 3 [false] [f3u])) o4 fun c5N r6 =>
 opK Tryd.prog E (gsem (asB b3n) true (xBin .eql 3 (.tmp 49) (.tmp 50) c5N (gval (asB b3n) true x4))) r6 fun f3v q6 =>
 opK Tryd.prog E (xPick b3n f3v (Value.bool false)) q6 fun b3o u1 =>
 opK Tryd.prog E (gsem (asB b3o) true (xV (Instr.fieldAt 33 x3 3))) u1 fun f3w w9 =>
 opK Tryd.prog E (gsem (asB b3o) true (xV (Instr.loadAt 31 f3w))) w9 fun f3x z6 =>
 opK Tryd.prog E (gsem (asB b3o) true (xBuiltin .len #[31] 3 [false] [f3x])) z6 fun f3y w8 =>
 opK Tryd.prog E (gsem (asB b3o) true (xBin .eql 3 (.tmp 56) (.tmp 57) f3y (gval (asB b3o) true x5))) w8 fun f3z z7 =>
 opK Tryd.prog E (xPick b3o f3z (Value.bool false)) z7 fun f3A B3 =>
 opK Tryd.prog E (xNil x0) B3 fun f3B w3 =>
 opK Tryd.prog E (xV (Instr.fieldAt 102 f3B 0)) w3 fun f3C B8 =>
 opK Tryd.prog E (xU (Instr.storeAt 4 f3C f3A)) B8 fun _z_41 C7 =>
 xcut (fun _ Y3 => c5L x0 x3 Y3 R E) fun j3 =>
 xloop [7] [(Value.int .i64 0)] C7 fun τ_103 a2r next5 =>
 d4I x0 x3 (τ_103 7) a2r next5 j3 R E)
def c5O (x0 x3 x4 x5 : Value) (w : World) (R : Value → World → Prop) (E : Pan) : Prop :=
 ∀ _τ : Fr, (opK Tryd.prog E (xV (Instr.fieldAt 33 x3 1)) w fun g1a w_4 =>
 opK Tryd.prog E (xV (Instr.loadAt 3 g1a)) w_4 fun g1b w_6 =>
 opK Tryd.prog E (xBin .eql 3 (.tmp 25) (.const (Value.int .i64 0)) g1b (Value.int .i64 0)) w_6 fun g1c w_8 =>
 xcut (fun d9Q a2s => c5M x0 x3 x4 x5 (nth d9Q 0) a2s R E) fun j2 =>
 opK Tryd.prog E (xV (Instr.fieldAt 33 x3 0)) w_8 fun e3r a2M =>
 opK Tryd.prog E (xV (Instr.loadAt 3 e3r)) a2M fun e3s a3x =>
 opK Tryd.prog E (xBin .eql 3 (.tmp 28) (.const (Value.int .i64 3)) e3s (Value.int .i64 3)) a3x fun e3t a3y =>
 xcond e3t
 (opK Tryd.prog E (xV (Instr.fieldAt 33 x3 1)) a3y fun e3u a2N =>
 opK Tryd.prog E (xV (Instr.loadAt 3 e3u)) a2N fun e3v a3z =>
 opK Tryd.prog E (xBin .geq 3 (.tmp 31) (.const (Value.int .i64 1)) e3v (Value.int .i64 1)) a3z fun b7c a4n =>
 opK Tryd.prog E (gsem (asB b7c) true (xV (Instr.fieldAt 33 x3 1))) a4n fun e3w a4o =>
 opK Tryd.prog E (gsem (asB b7c) true (xV (Instr.loadAt 3 e3w))) a4o fun e3x a5Z =>
 opK Tryd.prog E (gsem (asB b7c) true (xBin .leq 3 (.tmp 35) (.const (Value.int .i64 6)) e3x (Value.int .i64 6))) a5Z fun e3y a7I =>
 opK Tryd.prog E (xPick b7c e3y (Value.bool false)) a7I fun e3z a6a =>
 j2 [e3z] a6a)
 (j2 [g1c] a3y))
def c5P (x0 _x3 x4 x5 x21 : Value) (w : World) (j1 : List Value → World → Prop) (_R : Value → World → Prop) (E : Pan) : Prop :=
 ∀ _τ : Fr, (xcond x21
 (j1 [x4, (Value.int .i64 2)] w)
 (opK Tryd.prog E (xNil x0) w fun e3A b2g =>
 opK Tryd.prog E (xV (Instr.fieldAt 102 e3A 0)) b2g fun e3B b3K =>
 opK Tryd.prog E (xU (Instr.storeAt 4 e3B (Value.bool false))) b3K fun _z_141 b3L =>
 j1 [x4, x5] b3L))
def c5Q (x0 x3 x4 x5 x10 x14 : Value) (w : World) (j1 : List Value → World → Prop) (R : Value → World → Prop) (E : Pan) : Prop :=
 ∀ _τ : Fr, (xcond x14
 (j1 [x4, x5] w)
 (opK Tryd.prog E (xBin .eql 3 (.tmp 10) (.const (Value.int .i64 3)) x10 (Value.int .i64 3)) w fun e3C a7L =>
 xcond e3C
 (j1 [(Value.int .i64 2), x5] a7L)
 (opK Tryd.prog E (xBin .eql 3 (.tmp 10) (.const (Value.int .i64 4)) x10 (Value.int .i64 4)) a7L fun e3D a9n =>
 xcond e3D
 (j1 [x4, (Value.int .i64 1)] a9n)
 (xcut (fun g1d b0f => c5P x0 x3 x4 x5 (nth g1d 0) b0f j1 R E) fun j7 =>
 opK Tryd.prog E (xBin .eql 3 (.tmp 10) (.const (Value.int .i64 5)) x10 (Value.int .i64 5)) a9n fun c8w a9o =>
 xcond c8w
 (j7 [c8w] a9o)
 (opK Tryd.prog E (xBin .eql 3 (.tmp 10) (.const (Value.int .i64 6)) x10 (Value.int .i64 6)) a9o fun e3E b3M =>
 j7 [e3E] b3M)))))
def F62 (x0 x1 : Value) (w : World) (R : Value → World → Prop) (E : Pan) : Prop :=
 opK Tryd.prog E (xV (Instr.box 33 x1)) w fun a0S w_2 =>
 xcut (fun d9R a7J => c5O x0 a0S (nth d9R 0) (nth d9R.tail 0) a7J R E) fun j1 =>
 opK Tryd.prog E (xV (Instr.fieldAt 33 a0S 0)) w_2 fun f3D a7K =>
 opK Tryd.prog E (xV (Instr.loadAt 3 f3D)) a7K fun c1v a6B =>
 xcut (fun g1e b9x => c5Q x0 a0S (Value.int .i64 0) (Value.int .i64 0) c1v (nth g1e 0) b9x j1 R E) fun j6 =>
 opK Tryd.prog E (xBin .eql 3 (.tmp 10) (.const (Value.int .i64 1)) c1v (Value.int .i64 1)) a6B fun c8x b6M =>
 xcond c8x
 (j6 [c8x] b6M)
 (opK Tryd.prog E (xBin .eql 3 (.tmp 10) (.const (Value.int .i64 2)) c1v (Value.int .i64 2)) b6M fun e3F b9C =>
 j6 [e3F] b9C)
noncomputable def c62 : Code := Tryd.f62.body.getD .skip
def h62 : Hint := (.seq .none (.seq .none (.cut [4, 5] (.seq .none (.block (.cut [14] (.seq .none (.cond .none .none)) (.cond .none (.seq .none (.cond .none (.seq .none (.cond .none (.cut [21] (.seq .none (.cond .none .none)) (.cond .none .none)))))))))) (.seq .none (.cut [6] (.seq .none (.cond .none .none)) (.seq .none (.cut [] (.seq .none (.block (.loop [7] (.seq (.seq .none (.cond .none .none)) (.seq (.block .none) .none))))) (.seq .none (.block (.loop [8] (.seq (.seq .none (.cond .none .none)) (.seq (.block .none) .none))))))))))))
theorem f3E (x0 x1 : Value) (w : World) (R : Value → World → Prop) (E : Pan) : F62 x0 x1 w R E = callX Tryd.prog [] c62 h62 [x0, x1] w R E := by kernel_rfl
theorem f3F {x0 x1 : Value} {w : World} {R : Value → World → Prop} {E : Pan} (h : F62 x0 x1 w R E) : Cv Tryd.prog 62 #[x0, x1] w R E := by
 refine h8 (args := [x0, x1]) (c := c62) (h := h62) (rs := []) Tryd.func62 (by kernel_rfl) (by kernel_rfl) (Nat.le_of_ble_eq_true (by kernel_rfl)) (by kernel_rfl) (by kernel_rfl) (by kernel_rfl) ?_
 rw [← f3E]
 exact h
def F64 (x0 x1 x2 : Value) (w : World) (R : Value → World → Prop) (E : Pan) : Prop :=
 opK Tryd.prog E (xV (Op.unary .not x2)) w fun c3X w_2 =>
 xcond c3X
 (opK Tryd.prog E (xNil x0) w_2 fun b3G w_4 =>
 opK Tryd.prog E (xV (Instr.fieldAt 102 b3G 0)) w_4 fun a7E w_6 =>
 opK Tryd.prog E (xV (Instr.loadAt 4 a7E)) w_6 fun a4R w_8 =>
 opK Tryd.prog E (gsem (asB a4R) true (xBin .eql 9 (.tmp 14) (.const (Value.string ⟨#[]⟩)) (gval (asB a4R) true x1) (Value.string ⟨#[]⟩))) w_8 fun b9t m2 =>
 opK Tryd.prog E (xPick a4R b9t (Value.bool false)) m2 fun a3k m8 =>
 opK Tryd.prog E (xNil x0) m8 fun c5R m5 =>
 opK Tryd.prog E (xV (Instr.fieldAt 102 c5R 0)) m5 fun b5m o6 =>
 opK Tryd.prog E (xU (Instr.storeAt 4 b5m a3k)) o6 fun _z_17 p8 =>
 R (Value.tuple #[]) p8)
 (opK Tryd.prog E (xNil x0) w_2 fun c3W o4 =>
 opK Tryd.prog E (xV (Instr.fieldAt 102 c3W 1)) o4 fun b5E r6 =>
 opK Tryd.prog E (xV (Instr.loadAt 4 b5E)) r6 fun b5F q6 =>
 opK Tryd.prog E (gsem (asB b5F) true (xCall (Value.func (.func 93) #[] #[]) [(gval (asB b5F) true x1)])) q6 fun c3i u1 =>
 opK Tryd.prog E (xPick b5F c3i (Value.bool false)) u1 fun b2U w9 =>
 opK Tryd.prog E (xNil x0) w9 fun f3G z6 =>
 opK Tryd.prog E (xV (Instr.fieldAt 102 f3G 1)) z6 fun f3H w8 =>
 opK Tryd.prog E (xU (Instr.storeAt 4 f3H b2U)) w8 fun _z_33 z7 =>
 R (Value.tuple #[]) z7)
noncomputable def c64 : Code := Tryd.f64.body.getD .skip
def h64 : Hint := (.seq (.seq .none (.cond (.seq .none .none) .none)) .none)
theorem f3I (x0 x1 x2 : Value) (w : World) (R : Value → World → Prop) (E : Pan) : F64 x0 x1 x2 w R E = callX Tryd.prog [] c64 h64 [x0, x1, x2] w R E := by kernel_rfl
theorem f3J {x0 x1 x2 : Value} {w : World} {R : Value → World → Prop} {E : Pan} (h : F64 x0 x1 x2 w R E) : Cv Tryd.prog 64 #[x0, x1, x2] w R E := by
 refine h8 (args := [x0, x1, x2]) (c := c64) (h := h64) (rs := []) Tryd.func64 (by kernel_rfl) (by kernel_rfl) (Nat.le_of_ble_eq_true (by kernel_rfl)) (by kernel_rfl) (by kernel_rfl) (by kernel_rfl) ?_
 rw [← f3I]
 exact h
def d4K (x0 x3 x9 : Value) (w : World) (next5 : List Value → World → Prop) (R : Value → World → Prop) (E : Pan) : Prop :=
 opK Tryd.prog E (xV (Instr.fieldAt 88 x3 5)) w fun e3G a0E =>
 opK Tryd.prog E (xV (Instr.loadAt 23 e3G)) a0E fun d7w a1u =>
 opK Tryd.prog E (xBuiltin .len #[23] 3 [false] [d7w]) a1u fun d7x a2r =>
 opK Tryd.prog E (xBin .lss 3 (.tmp 146) (.tmp 149) x9 d7x) a2r fun b1z a2s =>
 opK Tryd.prog E (gsem (asB b1z) true (xNil (gval (asB b1z) true x0))) a2s fun d7y a2M =>
 opK Tryd.prog E (gsem (asB b1z) true (xV (Instr.fieldAt 102 d7y 0))) a2M fun d7z a3x =>
 opK Tryd.prog E (gsem (asB b1z) true (xV (Instr.loadAt 4 d7z))) a3x fun d7A a3y =>
 opK Tryd.prog E (xPick b1z d7A (Value.bool false)) a3y fun d7B a2N =>
 xcond d7B
 (opK Tryd.prog E (xV (Instr.fieldAt 88 x3 5)) a2N fun d7C a3z =>
 opK Tryd.prog E (xV (Instr.loadAt 23 d7C)) a3z fun d7D a4n =>
 opK Tryd.prog E (xV (Instr.indexAt 23 d7D x9)) a4n fun d7E a4o =>
 opK Tryd.prog E (xV (Instr.loadAt 88 d7E)) a4o fun d7F a5Z =>
 opK Tryd.prog E (xCall (Value.func (.func 65) #[] #[]) [x0, d7F]) a5Z fun _t165_123 a7I =>
 opK Tryd.prog E (xBin .add 3 (.tmp 157) (.const (Value.int .i64 1)) x9 (Value.int .i64 1)) a7I fun d7G a6a =>
 next5 [d7G] a6a)
 (R (Value.tuple #[]) a2N)
def c5S (x0 x3 : Value) (w : World) (R : Value → World → Prop) (E : Pan) : Prop :=
 ∀ _τ : Fr, (xloop [9] [(Value.int .i64 0)] w fun τ_127 a7J next5 =>
 d4K x0 x3 (τ_127 9) a7J next5 R E)
def d4L (x0 x3 x8 : Value) (w : World) (next6 : List Value → World → Prop) (j4 : List Value → World → Prop) (_R : Value → World → Prop) (E : Pan) : Prop :=
 opK Tryd.prog E (xV (Instr.fieldAt 88 x3 4)) w fun d7H a6B =>
 opK Tryd.prog E (xV (Instr.loadAt 23 d7H)) a6B fun d7I a7L =>
 opK Tryd.prog E (xBuiltin .len #[23] 3 [false] [d7I]) a7L fun d7J a9n =>
 opK Tryd.prog E (xBin .lss 3 (.tmp 126) (.tmp 129) x8 d7J) a9n fun b1A b2g =>
 opK Tryd.prog E (gsem (asB b1A) true (xNil (gval (asB b1A) true x0))) b2g fun d7K b3K =>
 opK Tryd.prog E (gsem (asB b1A) true (xV (Instr.fieldAt 102 d7K 0))) b3K fun d7L b3L =>
 opK Tryd.prog E (gsem (asB b1A) true (xV (Instr.loadAt 4 d7L))) b3L fun d7M b0f =>
 opK Tryd.prog E (xPick b1A d7M (Value.bool false)) b0f fun d7N a9o =>
 xcond d7N
 (opK Tryd.prog E (xV (Instr.fieldAt 88 x3 4)) a9o fun d7O b3M =>
 opK Tryd.prog E (xV (Instr.loadAt 23 d7O)) b3M fun d7P b9x =>
 opK Tryd.prog E (xV (Instr.indexAt 23 d7P x8)) b9x fun d7Q b6M =>
 opK Tryd.prog E (xV (Instr.loadAt 88 d7Q)) b6M fun d7R b9C =>
 opK Tryd.prog E (xCall (Value.func (.func 65) #[] #[]) [x0, d7R]) b9C fun _t145_155 c2x =>
 opK Tryd.prog E (xBin .add 3 (.tmp 137) (.const (Value.int .i64 1)) x8 (Value.int .i64 1)) c2x fun d7S c9C =>
 next6 [d7S] c9C)
 (j4 [] a9o)
def c5T (x0 x3 : Value) (w : World) (R : Value → World → Prop) (E : Pan) : Prop :=
 ∀ _τ : Fr, (xcut (fun _ a7K => c5S x0 x3 a7K R E) fun j4 =>
 xloop [8] [(Value.int .i64 0)] w fun τ_159 g1f next6 =>
 d4L x0 x3 (τ_159 8) g1f next6 j4 R E)
def d4M (x0 x3 x7 : Value) (w : World) (next7 : List Value → World → Prop) (j3 : List Value → World → Prop) (_R : Value → World → Prop) (E : Pan) : Prop :=
 opK Tryd.prog E (xV (Instr.fieldAt 88 x3 2)) w fun d7T d9L =>
 opK Tryd.prog E (xV (Instr.loadAt 28 d7T)) d9L fun d7U g1g =>
 opK Tryd.prog E (xBuiltin .len #[28] 3 [false] [d7U]) g1g fun d7V g1h =>
 opK Tryd.prog E (xBin .lss 3 (.tmp 106) (.tmp 109) x7 d7V) g1h fun b1B g1i =>
 opK Tryd.prog E (gsem (asB b1B) true (xNil (gval (asB b1B) true x0))) g1i fun d7W g1j =>
 opK Tryd.prog E (gsem (asB b1B) true (xV (Instr.fieldAt 102 d7W 0))) g1j fun d7X g1k =>
 opK Tryd.prog E (gsem (asB b1B) true (xV (Instr.loadAt 4 d7X))) g1k fun d7Y g1l =>
 opK Tryd.prog E (xPick b1B d7Y (Value.bool false)) g1l fun d7Z d9S =>
 xcond d7Z
 (opK Tryd.prog E (xV (Instr.fieldAt 88 x3 2)) d9S fun d8a g1m =>
 opK Tryd.prog E (xV (Instr.loadAt 28 d8a)) g1m fun d8b g1n =>
 opK Tryd.prog E (xV (Instr.indexAt 28 d8b x7)) g1n fun d8c g1o =>
 opK Tryd.prog E (xV (Instr.loadAt 30 d8c)) g1o fun d8d g1p =>
 opK Tryd.prog E (xCall (Value.func (.func 59) #[] #[]) [x0, d8d]) g1p fun _t125_187 g1q =>
 opK Tryd.prog E (xBin .add 3 (.tmp 117) (.const (Value.int .i64 1)) x7 (Value.int .i64 1)) g1q fun d8e g1r =>
 next7 [d8e] g1r)
 (j3 [] d9S)
def c5U (x0 x3 : Value) (w : World) (R : Value → World → Prop) (E : Pan) : Prop :=
 ∀ _τ : Fr, (xcut (fun _ g1s => c5T x0 x3 g1s R E) fun j3 =>
 xloop [7] [(Value.int .i64 0)] w fun τ_191 g1t next7 =>
 d4M x0 x3 (τ_191 7) g1t next7 j3 R E)
def d4N (x0 x3 x6 : Value) (w : World) (next8 : List Value → World → Prop) (j2 : List Value → World → Prop) (_R : Value → World → Prop) (E : Pan) : Prop :=
 opK Tryd.prog E (xV (Instr.fieldAt 88 x3 3)) w fun e3H d9T =>
 opK Tryd.prog E (xV (Instr.loadAt 31 e3H)) d9T fun e3I d9M =>
 opK Tryd.prog E (xBuiltin .len #[31] 3 [false] [e3I]) d9M fun e3J d9U =>
 opK Tryd.prog E (xBin .lss 3 (.tmp 86) (.tmp 89) x6 e3J) d9U fun b3p g1u =>
 opK Tryd.prog E (gsem (asB b3p) true (xNil (gval (asB b3p) true x0))) g1u fun e3K g1v =>
 opK Tryd.prog E (gsem (asB b3p) true (xV (Instr.fieldAt 102 e3K 0))) g1v fun e3L g1w =>
 opK Tryd.prog E (gsem (asB b3p) true (xV (Instr.loadAt 4 e3L))) g1w fun e3M g1x =>
 opK Tryd.prog E (xPick b3p e3M (Value.bool false)) g1x fun e3N d9V =>
 xcond e3N
 (opK Tryd.prog E (xV (Instr.fieldAt 88 x3 3)) d9V fun d8f g1y =>
 opK Tryd.prog E (xV (Instr.loadAt 31 d8f)) g1y fun d8g g1z =>
 opK Tryd.prog E (xV (Instr.indexAt 31 d8g x6)) g1z fun d8h g1A =>
 opK Tryd.prog E (xV (Instr.loadAt 33 d8h)) g1A fun d8i d9W =>
 opK Tryd.prog E (xCall (Value.func (.func 62) #[] #[]) [x0, d8i]) d9W fun _t105_219 g1B =>
 opK Tryd.prog E (xBin .add 3 (.tmp 97) (.const (Value.int .i64 1)) x6 (Value.int .i64 1)) g1B fun e3O g1C =>
 next8 [e3O] g1C)
 (j2 [] d9V)
def c5V (x0 x3 x4 x5 : Value) (w : World) (R : Value → World → Prop) (E : Pan) : Prop :=
 ∀ _τ : Fr, (opK Tryd.prog E (xV (Instr.fieldAt 88 x3 1)) w fun g1D w_4 =>
 opK Tryd.prog E (xV (Instr.loadAt 9 g1D)) w_4 fun g1E w_6 =>
 opK Tryd.prog E (xV (Instr.fieldAt 88 x3 0)) w_6 fun g1F w_8 =>
 opK Tryd.prog E (xV (Instr.loadAt 3 g1F)) w_8 fun g1G m2 =>
 opK Tryd.prog E (xBin .eql 3 (.tmp 30) (.const (Value.int .i64 1)) g1G (Value.int .i64 1)) m2 fun b9Y m8 =>
 opK Tryd.prog E (gsem (asB b9Y) false (xV (Instr.fieldAt 88 x3 0))) m8 fun c3L m5 =>
 opK Tryd.prog E (gsem (asB b9Y) false (xV (Instr.loadAt 3 c3L))) m5 fun c3M o6 =>
 opK Tryd.prog E (gsem (asB b9Y) false (xBin .eql 3 (.tmp 34) (.const (Value.int .i64 2)) c3M (Value.int .i64 2))) o6 fun f3K p8 =>
 opK Tryd.prog E (xPick b9Y (Value.bool true) f3K) p8 fun f3L o4 =>
 opK Tryd.prog E (xCall (Value.func (.func 64) #[] #[]) [x0, g1E, f3L]) o4 fun _t37_21 r6 =>
 opK Tryd.prog E (xNil x0) r6 fun f3M q6 =>
 opK Tryd.prog E (xV (Instr.fieldAt 102 f3M 0)) q6 fun c5W u1 =>
 opK Tryd.prog E (xV (Instr.loadAt 4 c5W)) u1 fun a9F w9 =>
 opK Tryd.prog E (gsem (asB a9F) true (xV (Instr.fieldAt 88 x3 2))) w9 fun f3N z6 =>
 opK Tryd.prog E (gsem (asB a9F) true (xV (Instr.loadAt 28 f3N))) z6 fun c5X w8 =>
 opK Tryd.prog E (gsem (asB a9F) true (xBuiltin .len #[28] 3 [false] [c5X])) w8 fun c5Y z7 =>
 opK Tryd.prog E (gsem (asB a9F) true (xBin .eql 3 (.tmp 46) (.tmp 47) c5Y (gval (asB a9F) true x4))) z7 fun f3O B3 =>
 opK Tryd.prog E (xPick a9F f3O (Value.bool false)) B3 fun b3q w3 =>
 opK Tryd.prog E (gsem (asB b3q) true (xV (Instr.fieldAt 88 x3 3))) w3 fun f3P B8 =>
 opK Tryd.prog E (gsem (asB b3q) true (xV (Instr.loadAt 31 f3P))) B8 fun f3Q C7 =>
 opK Tryd.prog E (gsem (asB b3q) true (xBuiltin .len #[31] 3 [false] [f3Q])) C7 fun f3R B9 =>
 opK Tryd.prog E (gsem (asB b3q) true (xBin .eql 3 (.tmp 53) (.tmp 54) f3R (gval (asB b3q) true x5))) B9 fun f3S D4 =>
 opK Tryd.prog E (xPick b3q f3S (Value.bool false)) D4 fun a3u E6 =>
 opK Tryd.prog E (gsem (asB a3u) true (xV (Instr.fieldAt 88 x3 4))) E6 fun f3T D7 =>
 opK Tryd.prog E (gsem (asB a3u) true (xV (Instr.loadAt 23 f3T))) D7 fun f3U D8 =>
 opK Tryd.prog E (gsem (asB a3u) true (xBuiltin .len #[23] 3 [false] [f3U])) D8 fun f3V I9 =>
 opK Tryd.prog E (gsem (asB a3u) true (xBin .eql 3 (.tmp 60) (.const (Value.int .i64 0)) f3V (Value.int .i64 0))) I9 fun b9Z K7 =>
 opK Tryd.prog E (gsem (asB (gval (asB a3u) true b9Z)) false (xV (Instr.fieldAt 88 x3 0))) K7 fun c5Z H9 =>
 opK Tryd.prog E (gsem (asB (gval (asB a3u) true b9Z)) false (xV (Instr.loadAt 3 c5Z))) H9 fun c6a J1 =>
 opK Tryd.prog E (gsem (asB (gval (asB a3u) true b9Z)) false (xBin .eql 3 (.tmp 64) (.const (Value.int .i64 3)) c6a (Value.int .i64 3))) J1 fun f3W N9 =>
 opK Tryd.prog E (gsem (asB a3u) true (xPick (gval (asB a3u) true b9Z) (Value.bool true) f3W)) N9 fun c0a J7 =>
 opK Tryd.prog E (gsem (asB (gval (asB a3u) true c0a)) false (xV (Instr.fieldAt 88 x3 0))) J7 fun f3X Q4 =>
 opK Tryd.prog E (gsem (asB (gval (asB a3u) true c0a)) false (xV (Instr.loadAt 3 f3X))) Q4 fun f3Y V4 =>
 opK Tryd.prog E (gsem (asB (gval (asB a3u) true c0a)) false (xBin .eql 3 (.tmp 69) (.const (Value.int .i64 4)) f3Y (Value.int .i64 4))) V4 fun f3Z K8 =>
 opK Tryd.prog E (gsem (asB a3u) true (xPick (gval (asB a3u) true c0a) (Value.bool true) f3Z)) K8 fun f4a V9 =>
 opK Tryd.prog E (xPick a3u f4a (Value.bool false)) V9 fun a6x Y3 =>
 opK Tryd.prog E (gsem (asB a6x) true (xV (Instr.fieldAt 88 x3 5))) Y3 fun f4b S7 =>
 opK Tryd.prog E (gsem (asB a6x) true (xV (Instr.loadAt 23 f4b))) S7 fun f4c a0v =>
 opK Tryd.prog E (gsem (asB a6x) true (xBuiltin .len #[23] 3 [false] [f4c])) a0v fun f4d Z0 =>
 opK Tryd.prog E (gsem (asB a6x) true (xBin .eql 3 (.tmp 76) (.const (Value.int .i64 0)) f4d (Value.int .i64 0))) Z0 fun c0b a1s =>
 opK Tryd.prog E (gsem (asB (gval (asB a6x) true c0b)) false (xV (Instr.fieldAt 88 x3 0))) a1s fun f4e a2k =>
 opK Tryd.prog E (gsem (asB (gval (asB a6x) true c0b)) false (xV (Instr.loadAt 3 f4e))) a2k fun f4f a2C =>
 opK Tryd.prog E (gsem (asB (gval (asB a6x) true c0b)) false (xBin .eql 3 (.tmp 80) (.const (Value.int .i64 3)) f4f (Value.int .i64 3))) a2C fun f4g a2l =>
 opK Tryd.prog E (gsem (asB a6x) true (xPick (gval (asB a6x) true c0b) (Value.bool true) f4g)) a2l fun c5B a3I =>
 opK Tryd.prog E (xPick a6x c5B (Value.bool false)) a3I fun c5C a3J =>
 opK Tryd.prog E (xNil x0) a3J fun f4h a3K =>
 opK Tryd.prog E (xV (Instr.fieldAt 102 f4h 0)) a3K fun f4i a2L =>
 opK Tryd.prog E (xU (Instr.storeAt 4 f4i c5C)) a2L fun _z_97 a3L =>
 xcut (fun _ g1H => c5U x0 x3 g1H R E) fun j2 =>
 xloop [6] [(Value.int .i64 0)] a3L fun τ_223 g1I next8 =>
 d4N x0 x3 (τ_223 6) g1I next8 j2 R E)
def c6b (x0 _x3 x4 x5 x11 x19 : Value) (w : World) (j1 : List Value → World → Prop) (_R : Value → World → Prop) (E : Pan) : Prop :=
 ∀ _τ : Fr, (xcond x19
 (j1 [x4, (Value.int .i64 1)] w)
 (opK Tryd.prog E (xBin .eql 3 (.tmp 11) (.const (Value.int .i64 7)) x11 (Value.int .i64 7)) w fun e3P d9X =>
 xcond e3P
 (j1 [x4, x5] d9X)
 (opK Tryd.prog E (xNil x0) d9X fun e3Q g1J =>
 opK Tryd.prog E (xV (Instr.fieldAt 102 e3Q 0)) g1J fun e3R g1K =>
 opK Tryd.prog E (xU (Instr.storeAt 4 e3R (Value.bool false))) g1K fun _z_241 g1L =>
 j1 [x4, x5] g1L)))
def F65 (x0 x1 : Value) (w : World) (R : Value → World → Prop) (E : Pan) : Prop :=
 opK Tryd.prog E (xV (Instr.box 88 x1)) w fun a0S w_2 =>
 xcut (fun d9Y g1M => c5V x0 a0S (nth d9Y 0) (nth d9Y.tail 0) g1M R E) fun j1 =>
 opK Tryd.prog E (xV (Instr.fieldAt 88 a0S 0)) w_2 fun e3S g1N =>
 opK Tryd.prog E (xV (Instr.loadAt 3 e3S)) g1N fun a9j g1O =>
 opK Tryd.prog E (xBin .eql 3 (.tmp 11) (.const (Value.int .i64 1)) a9j (Value.int .i64 1)) g1O fun e3T d9Z =>
 xcond e3T
 (j1 [(Value.int .i64 1), (Value.int .i64 0)] d9Z)
 (opK Tryd.prog E (xBin .eql 3 (.tmp 11) (.const (Value.int .i64 2)) a9j (Value.int .i64 2)) d9Z fun e3U e0a =>
 xcond e3U
 (j1 [(Value.int .i64 2), (Value.int .i64 0)] e0a)
 (xcut (fun g1P g1Q => c6b x0 a0S (Value.int .i64 0) (Value.int .i64 0) a9j (nth g1P 0) g1Q j1 R E) fun j9 =>
 opK Tryd.prog E (xBin .eql 3 (.tmp 11) (.const (Value.int .i64 3)) a9j (Value.int .i64 3)) e0a fun c8y e0b =>
 xcond c8y
 (j9 [c8y] e0b)
 (opK Tryd.prog E (xBin .eql 3 (.tmp 11) (.const (Value.int .i64 4)) a9j (Value.int .i64 4)) e0b fun c8z e0c =>
 xcond c8z
 (j9 [c8z] e0c)
 (opK Tryd.prog E (xBin .eql 3 (.tmp 11) (.const (Value.int .i64 5)) a9j (Value.int .i64 5)) e0c fun c8A e0d =>
 xcond c8A
 (j9 [c8A] e0d)
 (opK Tryd.prog E (xBin .eql 3 (.tmp 11) (.const (Value.int .i64 6)) a9j (Value.int .i64 6)) e0d fun e3V g1R =>
 j9 [e3V] g1R)))))
noncomputable def c65 : Code := Tryd.f65.body.getD .skip
def h65 : Hint := (.seq .none (.seq .none (.cut [4, 5] (.seq .none (.block (.seq .none (.cond .none (.seq .none (.cond .none (.cut [19] (.seq .none (.cond .none (.seq .none (.cond .none (.seq .none (.cond .none .none)))))) (.cond .none (.seq .none (.cond .none .none)))))))))) (.seq .none (.seq .none (.cut [] (.seq .none (.block (.loop [6] (.seq (.seq .none (.cond .none .none)) (.seq (.block .none) .none))))) (.cut [] (.seq .none (.block (.loop [7] (.seq (.seq .none (.cond .none .none)) (.seq (.block .none) .none))))) (.cut [] (.seq .none (.block (.loop [8] (.seq (.seq .none (.cond .none .none)) (.seq (.block .none) .none))))) (.seq .none (.block (.loop [9] (.seq (.seq .none (.cond .none .none)) (.seq (.block .none) .none)))))))))))))
theorem f4j (x0 x1 : Value) (w : World) (R : Value → World → Prop) (E : Pan) : F65 x0 x1 w R E = callX Tryd.prog [] c65 h65 [x0, x1] w R E := by kernel_rfl
theorem f4k {x0 x1 : Value} {w : World} {R : Value → World → Prop} {E : Pan} (h : F65 x0 x1 w R E) : Cv Tryd.prog 65 #[x0, x1] w R E := by
 refine h8 (args := [x0, x1]) (c := c65) (h := h65) (rs := []) Tryd.func65 (by kernel_rfl) (by kernel_rfl) (Nat.le_of_ble_eq_true (by kernel_rfl)) (by kernel_rfl) (by kernel_rfl) (by kernel_rfl) ?_
 rw [← f4j]
 exact h
def c6c (x3 : Value) (w : World) (R : Value → World → Prop) (E : Pan) : Prop :=
 ∀ _τ : Fr, (opK Tryd.prog E (xBin .leq 3 (.tmp 52) (.const (Value.int .i64 32)) x3 (Value.int .i64 32)) w fun f4l m5 =>
 R f4l m5)
def d4O (x0 x3 x4 : Value) (w : World) (next2 : List Value → World → Prop) (j1 : List Value → World → Prop) (R : Value → World → Prop) (E : Pan) : Prop :=
 opK Tryd.prog E (xBuiltin .len #[9] 3 [false] [x0]) w fun b3c p8 =>
 opK Tryd.prog E (xBin .lss 3 (.tmp 20) (.tmp 22) x4 b3c) p8 fun c6d o4 =>
 xcond c6d
 (opK Tryd.prog E (xCall (Value.func (.func 118) #[] #[]) [x0, x4]) o4 fun b6u r6 =>
 opK Tryd.prog E (xV (Instr.extract b6u 0)) r6 fun a3j q6 =>
 opK Tryd.prog E (xV (Instr.extract b6u 1)) q6 fun f4m u1 =>
 opK Tryd.prog E (xV (Instr.extract b6u 2)) u1 fun f4n w9 =>
 opK Tryd.prog E (xCall (Value.func (.func 119) #[] #[]) [a3j]) w9 fun b5I z6 =>
 opK Tryd.prog E (xV (Op.unary .not f4n)) z6 fun a4c w8 =>
 opK Tryd.prog E (gsem (asB a4c) false (xBin .neq 3 (.tmp 36) (.const (Value.int .i64 3)) (gval (asB a4c) false b5I) (Value.int .i64 3))) w8 fun a8n z7 =>
 opK Tryd.prog E (gsem (asB (gval (asB a4c) false a8n)) true (xBin .neq 3 (.tmp 39) (.const (Value.int .i64 4)) (gval (asB (gval (asB a4c) false a8n)) true b5I) (Value.int .i64 4))) z7 fun a5U B3 =>
 opK Tryd.prog E (gsem (asB (gval (asB (gval (asB a4c) false a8n)) true a5U)) false (xBin .eql 3 (.tmp 42) (.const (Value.int .i64 0)) (gval (asB (gval (asB (gval (asB a4c) false a8n)) true a5U)) false x3) (Value.int .i64 0))) B3 fun b6v w3 =>
 opK Tryd.prog E (gsem (asB (gval (asB a4c) false a8n)) true (xPick (gval (asB (gval (asB a4c) false a8n)) true a5U) (Value.bool true) b6v)) w3 fun f4o B8 =>
 opK Tryd.prog E (gsem (asB a4c) false (xPick (gval (asB a4c) false a8n) f4o (Value.bool false))) B8 fun f4p C7 =>
 opK Tryd.prog E (xPick a4c (Value.bool true) f4p) C7 fun c6e B9 =>
 xcond c6e
 (R (Value.bool false) B9)
 (opK Tryd.prog E (xBin .add 3 (.tmp 47) (.const (Value.int .i64 1)) x3 (Value.int .i64 1)) B9 fun f4q D4 =>
 opK Tryd.prog E (xBin .add 3 (.tmp 49) (.tmp 50) x4 f4m) D4 fun f4r E6 =>
 next2 [f4q, f4r] E6))
 (j1 [x3] o4)
def F93 (x0 : Value) (w : World) (R : Value → World → Prop) (E : Pan) : Prop :=
 opK Tryd.prog E (xBin .eql 9 (.tmp 9) (.const (Value.string ⟨#[]⟩)) x0 (Value.string ⟨#[]⟩)) w fun b0e w_2 =>
 opK Tryd.prog E (gsem (asB b0e) false (xBuiltin .len #[9] 3 [false] [(gval (asB b0e) false x0)])) w_2 fun c0c w_4 =>
 opK Tryd.prog E (gsem (asB b0e) false (xBin .gtr 3 (.tmp 13) (.const (Value.int .i64 128)) c0c (Value.int .i64 128))) w_4 fun c0d w_6 =>
 opK Tryd.prog E (xPick b0e (Value.bool true) c0d) w_6 fun c0e w_8 =>
 opK Tryd.prog E (gsem (asB c0e) false (xCall (Value.func (.func 117) #[] #[]) [(gval (asB c0e) false x0)])) w_8 fun g1S m2 =>
 opK Tryd.prog E (xPick c0e (Value.bool true) g1S) m2 fun f4s m8 =>
 xcond f4s
 (R (Value.bool false) m8)
 (xcut (fun a8a o6 => c6c (nth a8a 0) o6 R E) fun j1 =>
 xloop [3, 4] [(Value.int .i64 0), (Value.int .i64 0)] m8 fun τ_49 D7 next2 =>
 d4O x0 (τ_49 3) (τ_49 4) D7 next2 j1 R E)
noncomputable def c93 : Code := Tryd.f93.body.getD .skip
def h93 : Hint := (.seq .none (.seq (.seq .none (.cond (.seq .none .none) .none)) (.seq .none (.cut [3] (.seq .none (.block (.loop [3, 4] (.seq (.seq .none (.cond .none .none)) (.block (.seq .none (.seq .none (.seq (.seq .none (.cond (.seq .none .none) .none)) (.seq .none .none))))))))) (.seq .none .none)))))
theorem f4t (x0 : Value) (w : World) (R : Value → World → Prop) (E : Pan) : F93 x0 w R E = callX Tryd.prog [.tmp 2] c93 h93 [x0] w R E := by kernel_rfl
theorem f4u {x0 : Value} {w : World} {R : Value → World → Prop} {E : Pan} (h : F93 x0 w R E) : Cv Tryd.prog 93 #[x0] w R E := by
 refine h8 (args := [x0]) (c := c93) (h := h93) (rs := [.tmp 2]) Tryd.func93 (by kernel_rfl) (by kernel_rfl) (Nat.le_of_ble_eq_true (by kernel_rfl)) (by kernel_rfl) (by kernel_rfl) (by kernel_rfl) ?_
 rw [← f4t]
 exact h
def c1w (x4 : Value) (w : World) (R : Value → World → Prop) (_E : Pan) : Prop :=
 ∀ _τ : Fr, (xcond x4
 (R (Value.bool true) w)
 (R (Value.bool false) w))
def d0L (x0 : Value) (w : World) (R : Value → World → Prop) (E : Pan) : Prop :=
 xcut (fun l_1 w_2 => c1w (nth l_1 0) w_2 R E) fun j1 =>
 opK Tryd.prog E (xBin .eql 9 (.tmp 3) (.const (Value.string ⟨#[118, 97, 114]⟩)) x0 (Value.string ⟨#[118, 97, 114]⟩)) w fun b3O w_4 =>
 xcond b3O
 (j1 [b3O] w_4)
 (opK Tryd.prog E (xBin .eql 9 (.tmp 3) (.const (Value.string ⟨#[97, 114, 114, 97, 121]⟩)) x0 (Value.string ⟨#[97, 114, 114, 97, 121]⟩)) w_4 fun a8V w_6 =>
 xcond a8V
 (j1 [a8V] w_6)
 (opK Tryd.prog E (xBin .eql 9 (.tmp 3) (.const (Value.string ⟨#[105, 102]⟩)) x0 (Value.string ⟨#[105, 102]⟩)) w_6 fun b2B w_8 =>
 xcond b2B
 (j1 [b2B] w_8)
 (opK Tryd.prog E (xBin .eql 9 (.tmp 3) (.const (Value.string ⟨#[101, 108, 115, 101]⟩)) x0 (Value.string ⟨#[101, 108, 115, 101]⟩)) w_8 fun a9M m2 =>
 xcond a9M
 (j1 [a9M] m2)
 (opK Tryd.prog E (xBin .eql 9 (.tmp 3) (.const (Value.string ⟨#[119, 104, 105, 108, 101]⟩)) x0 (Value.string ⟨#[119, 104, 105, 108, 101]⟩)) m2 fun b0g m8 =>
 xcond b0g
 (j1 [b0g] m8)
 (opK Tryd.prog E (xBin .eql 9 (.tmp 3) (.const (Value.string ⟨#[97, 115, 115, 101, 114, 116]⟩)) x0 (Value.string ⟨#[97, 115, 115, 101, 114, 116]⟩)) m8 fun b0R m5 =>
 xcond b0R
 (j1 [b0R] m5)
 (opK Tryd.prog E (xBin .eql 9 (.tmp 3) (.const (Value.string ⟨#[97, 115, 115, 117, 109, 101]⟩)) x0 (Value.string ⟨#[97, 115, 115, 117, 109, 101]⟩)) m5 fun b0S o6 =>
 xcond b0S
 (j1 [b0S] o6)
 (opK Tryd.prog E (xBin .eql 9 (.tmp 3) (.const (Value.string ⟨#[115, 107, 105, 112]⟩)) x0 (Value.string ⟨#[115, 107, 105, 112]⟩)) o6 fun b0T p8 =>
 xcond b0T
 (j1 [b0T] p8)
 (opK Tryd.prog E (xBin .eql 9 (.tmp 3) (.const (Value.string ⟨#[105, 110, 112, 117, 116]⟩)) x0 (Value.string ⟨#[105, 110, 112, 117, 116]⟩)) p8 fun b0U o4 =>
 xcond b0U
 (j1 [b0U] o4)
 (opK Tryd.prog E (xBin .eql 9 (.tmp 3) (.const (Value.string ⟨#[116, 114, 117, 101]⟩)) x0 (Value.string ⟨#[116, 114, 117, 101]⟩)) o4 fun b0V r6 =>
 xcond b0V
 (j1 [b0V] r6)
 (opK Tryd.prog E (xBin .eql 9 (.tmp 3) (.const (Value.string ⟨#[102, 97, 108, 115, 101]⟩)) x0 (Value.string ⟨#[102, 97, 108, 115, 101]⟩)) r6 fun c3Z q6 =>
 j1 [c3Z] q6))))))))))
noncomputable def f4v : Code := Tryd.f117.body.getD .skip
def f4w : Hint := (.seq .none (.seq (.seq .none (.block (.cut [4] (.seq .none (.cond .none (.seq .none (.cond .none (.seq .none (.cond .none (.seq .none (.cond .none (.seq .none (.cond .none (.seq .none (.cond .none (.seq .none (.cond .none (.seq .none (.cond .none (.seq .none (.cond .none (.seq .none (.cond .none .none)))))))))))))))))))) (.cond (.seq .none .none) .none)))) (.seq .none .none)))
theorem e3W (x0 : Value) (w : World) (R : Value → World → Prop) (E : Pan) : d0L x0 w R E = callX Tryd.prog [.tmp 2] f4v f4w [x0] w R E := by kernel_rfl
theorem e3X {x0 : Value} {w : World} {R : Value → World → Prop} {E : Pan} (h : d0L x0 w R E) : Cv Tryd.prog 117 #[x0] w R E := by
 refine h8 (args := [x0]) (c := f4v) (h := f4w) (rs := [.tmp 2]) Tryd.func117 (by kernel_rfl) (by kernel_rfl) (Nat.le_of_ble_eq_true (by kernel_rfl)) (by kernel_rfl) (by kernel_rfl) (by kernel_rfl) ?_
 rw [← e3W]
 exact h
def c1x (x8 x9 x10 : Value) (w : World) (R : Value → World → Prop) (E : Pan) : Prop :=
 ∀ _τ : Fr, (opK Tryd.prog E (xBin .lss 3 (.tmp 84) (.tmp 85) x10 x9) w fun d0M w_6 =>
 opK Tryd.prog E (gsem (asB d0M) false (xBin .gtr 3 (.tmp 88) (.const (Value.int .i64 1114111)) (gval (asB d0M) false x10) (Value.int .i64 1114111))) w_6 fun g1T w_8 =>
 opK Tryd.prog E (xPick d0M (Value.bool true) g1T) w_8 fun b4A m2 =>
 opK Tryd.prog E (gsem (asB b4A) false (xBin .geq 3 (.tmp 92) (.const (Value.int .i64 55296)) (gval (asB b4A) false x10) (Value.int .i64 55296))) m2 fun c6f m8 =>
 opK Tryd.prog E (gsem (asB (gval (asB b4A) false c6f)) true (xBin .lss 3 (.tmp 95) (.const (Value.int .i64 57344)) (gval (asB (gval (asB b4A) false c6f)) true x10) (Value.int .i64 57344))) m8 fun f4x m5 =>
 opK Tryd.prog E (gsem (asB b4A) false (xPick (gval (asB b4A) false c6f) f4x (Value.bool false))) m5 fun f4y o6 =>
 opK Tryd.prog E (xPick b4A (Value.bool true) f4y) o6 fun f4z p8 =>
 xcond f4z
 (R (Value.tuple #[(Value.int .i64 65533), (Value.int .i64 1), (Value.bool false)]) p8)
 (R (Value.tuple #[x10, x8, (Value.bool true)]) p8))
def c8B (x0 x1 x8 _x9 x10 x11 : Value) (w : World) (next3 : List Value → World → Prop) (j2 : List Value → World → Prop) (R : Value → World → Prop) (E : Pan) : Prop :=
 opK Tryd.prog E (xBin .lss 3 (.tmp 47) (.tmp 48) x11 x8) w fun c5N r6 =>
 xcond c5N
 (opK Tryd.prog E (xBin .add 3 (.tmp 52) (.tmp 53) x1 x11) r6 fun f4A q6 =>
 opK Tryd.prog E (xBuiltin .len #[9] 3 [false] [x0]) q6 fun f4B u1 =>
 opK Tryd.prog E (xBin .geq 3 (.tmp 54) (.tmp 56) f4A f4B) u1 fun b1C w9 =>
 opK Tryd.prog E (gsem (asB b1C) false (xBin .add 3 (.tmp 60) (.tmp 61) (gval (asB b1C) false x1) (gval (asB b1C) false x11))) w9 fun f4C z6 =>
 opK Tryd.prog E (gsem (asB b1C) false (xV (Instr.index 9 (gval (asB b1C) false x0) f4C))) z6 fun f4D w8 =>
 opK Tryd.prog E (gsem (asB b1C) false (xBin .lss 5 (.tmp 63) (.const (Value.int .u8 128)) f4D (Value.int .u8 128))) w8 fun f4E z7 =>
 opK Tryd.prog E (xPick b1C (Value.bool true) f4E) z7 fun b1D B3 =>
 opK Tryd.prog E (gsem (asB b1D) false (xBin .add 3 (.tmp 68) (.tmp 69) (gval (asB b1D) false x1) (gval (asB b1D) false x11))) B3 fun f4F w3 =>
 opK Tryd.prog E (gsem (asB b1D) false (xV (Instr.index 9 (gval (asB b1D) false x0) f4F))) w3 fun f4G B8 =>
 opK Tryd.prog E (gsem (asB b1D) false (xBin .geq 5 (.tmp 71) (.const (Value.int .u8 192)) f4G (Value.int .u8 192))) B8 fun f4H C7 =>
 opK Tryd.prog E (xPick b1D (Value.bool true) f4H) C7 fun f4I B9 =>
 xcond f4I
 (R (Value.tuple #[(Value.int .i64 65533), (Value.int .i64 1), (Value.bool false)]) B9)
 (opK Tryd.prog E (xBin .mul 3 (.const (Value.int .i64 64)) (.tmp 74) (Value.int .i64 64) x10) B9 fun f4J D4 =>
 opK Tryd.prog E (xBin .add 3 (.tmp 77) (.tmp 78) x1 x11) D4 fun f4K E6 =>
 opK Tryd.prog E (xV (Instr.index 9 x0 f4K)) E6 fun f4L D7 =>
 opK Tryd.prog E (xV (convert 5 3 f4L)) D7 fun f4M D8 =>
 opK Tryd.prog E (xBin .add 3 (.tmp 75) (.tmp 81) f4J f4M) D8 fun f4N I9 =>
 opK Tryd.prog E (xBin .sub 3 (.tmp 82) (.const (Value.int .i64 128)) f4N (Value.int .i64 128)) I9 fun f4O K7 =>
 opK Tryd.prog E (xBin .add 3 (.tmp 50) (.const (Value.int .i64 1)) x11 (Value.int .i64 1)) K7 fun f4P H9 =>
 next3 [f4O, f4P] H9))
 (j2 [x10] r6)
def c1y (x0 x1 x8 x9 x10 : Value) (w : World) (R : Value → World → Prop) (E : Pan) : Prop :=
 ∀ _τ : Fr, (xcut (fun d5Y o4 => c1x x8 x9 (nth d5Y 0) o4 R E) fun j2 =>
 xloop [10, 11] [x10, (Value.int .i64 1)] w fun τ_59 J1 next3 =>
 c8B x0 x1 x8 x9 (τ_59 10) (τ_59 11) J1 next3 j2 R E)
def d0N (x0 x1 : Value) (w : World) (R : Value → World → Prop) (E : Pan) : Prop :=
 opK Tryd.prog E (xV (Instr.index 9 x0 x1)) w fun g1U w_2 =>
 opK Tryd.prog E (xV (convert 5 3 g1U)) w_2 fun a6e w_4 =>
 xcut (fun b8I N9 => c1y x0 x1 (nth b8I 0) (nth b8I.tail 0) (nth b8I.tail.tail 0) N9 R E) fun j1 =>
 opK Tryd.prog E (xBin .lss 3 (.tmp 17) (.const (Value.int .i64 128)) a6e (Value.int .i64 128)) w_4 fun f4Q J7 =>
 xcond f4Q
 (R (Value.tuple #[a6e, (Value.int .i64 1), (Value.bool true)]) J7)
 (opK Tryd.prog E (xBin .geq 3 (.tmp 21) (.const (Value.int .i64 194)) a6e (Value.int .i64 194)) J7 fun c6g Q4 =>
 opK Tryd.prog E (gsem (asB c6g) true (xBin .lss 3 (.tmp 24) (.const (Value.int .i64 224)) (gval (asB c6g) true a6e) (Value.int .i64 224))) Q4 fun f4R V4 =>
 opK Tryd.prog E (xPick c6g f4R (Value.bool false)) V4 fun f4S K8 =>
 xcond f4S
 (opK Tryd.prog E (xBin .sub 3 (.tmp 27) (.const (Value.int .i64 192)) a6e (Value.int .i64 192)) K8 fun f4T V9 =>
 j1 [(Value.int .i64 2), (Value.int .i64 128), f4T] V9)
 (opK Tryd.prog E (xBin .geq 3 (.tmp 30) (.const (Value.int .i64 224)) a6e (Value.int .i64 224)) K8 fun c6h Y3 =>
 opK Tryd.prog E (gsem (asB c6h) true (xBin .lss 3 (.tmp 33) (.const (Value.int .i64 240)) (gval (asB c6h) true a6e) (Value.int .i64 240))) Y3 fun f4U S7 =>
 opK Tryd.prog E (xPick c6h f4U (Value.bool false)) S7 fun c6i a0v =>
 xcond c6i
 (opK Tryd.prog E (xBin .sub 3 (.tmp 36) (.const (Value.int .i64 224)) a6e (Value.int .i64 224)) a0v fun f4V Z0 =>
 j1 [(Value.int .i64 3), (Value.int .i64 2048), f4V] Z0)
 (opK Tryd.prog E (xBin .geq 3 (.tmp 39) (.const (Value.int .i64 240)) a6e (Value.int .i64 240)) a0v fun c6j a1s =>
 opK Tryd.prog E (gsem (asB c6j) true (xBin .lss 3 (.tmp 42) (.const (Value.int .i64 245)) (gval (asB c6j) true a6e) (Value.int .i64 245))) a1s fun f4W a2k =>
 opK Tryd.prog E (xPick c6j f4W (Value.bool false)) a2k fun f4X a2C =>
 xcond f4X
 (opK Tryd.prog E (xBin .sub 3 (.tmp 45) (.const (Value.int .i64 240)) a6e (Value.int .i64 240)) a2C fun f4Y a2l =>
 j1 [(Value.int .i64 4), (Value.int .i64 65536), f4Y] a2l)
 (R (Value.tuple #[(Value.int .i64 65533), (Value.int .i64 1), (Value.bool false)]) a2C))))
noncomputable def f4Z : Code := Tryd.f118.body.getD .skip
def f5a : Hint := (.seq .none (.seq .none (.seq .none (.cut [8, 9, 10] (.block (.seq .none (.cond (.seq .none .none) (.seq .none (.cond .none (.seq .none (.cond .none (.seq .none (.cond .none (.seq .none .none)))))))))) (.cut [10] (.seq .none (.block (.loop [10, 11] (.seq (.seq .none (.cond .none .none)) (.seq (.block (.seq (.seq .none (.cond (.seq .none .none) .none)) .none)) .none))))) (.seq (.seq .none (.cond (.seq .none .none) .none)) (.seq .none .none)))))))
theorem e3Y (x0 x1 : Value) (w : World) (R : Value → World → Prop) (E : Pan) : d0N x0 x1 w R E = callX Tryd.prog [.tmp 4, .tmp 5, .tmp 6] f4Z f5a [x0, x1] w R E := by kernel_rfl
theorem e3Z {x0 x1 : Value} {w : World} {R : Value → World → Prop} {E : Pan} (h : d0N x0 x1 w R E) : Cv Tryd.prog 118 #[x0, x1] w R E := by
 refine h8 (args := [x0, x1]) (c := f4Z) (h := f5a) (rs := [.tmp 4, .tmp 5, .tmp 6]) Tryd.func118 (by kernel_rfl) (by kernel_rfl) (Nat.le_of_ble_eq_true (by kernel_rfl)) (by kernel_rfl) (by kernel_rfl) (by kernel_rfl) ?_
 rw [← e3Y]
 exact h
def c1z (w : World) (R : Value → World → Prop) (_E : Pan) : Prop :=
 ∀ _τ : Fr, (R (Value.int .i64 6) w)
def c8C (x0 x3 x4 : Value) (w : World) (next2 : List Value → World → Prop) (j1 : List Value → World → Prop) (R : Value → World → Prop) (E : Pan) : Prop :=
 opK Tryd.prog E (xBuiltin .len #[9] 3 [false] [x3]) w fun f5b D8 =>
 opK Tryd.prog E (xBin .lss 3 (.tmp 53) (.tmp 55) x4 f5b) D8 fun f5c I9 =>
 xcond f5c
 (opK Tryd.prog E (xV (Instr.index 9 x3 x4)) I9 fun f5d K7 =>
 opK Tryd.prog E (xV (convert 5 3 f5d)) K7 fun c5Z H9 =>
 opK Tryd.prog E (xBin .eql 3 (.tmp 59) (.tmp 63) x0 c5Z) H9 fun c6a J1 =>
 xcond c6a
 (R (Value.int .i64 5) J1)
 (opK Tryd.prog E (xBin .add 3 (.tmp 57) (.const (Value.int .i64 1)) x4 (Value.int .i64 1)) J1 fun f5e N9 =>
 next2 [f5e] N9))
 (j1 [] I9)
def d0O (x0 : Value) (w : World) (R : Value → World → Prop) (E : Pan) : Prop :=
 opK Tryd.prog E (xBin .eql 3 (.tmp 5) (.const (Value.int .i64 32)) x0 (Value.int .i64 32)) w fun a7C w_2 =>
 opK Tryd.prog E (gsem (asB a7C) false (xBin .eql 3 (.tmp 8) (.const (Value.int .i64 9)) (gval (asB a7C) false x0) (Value.int .i64 9))) w_2 fun a5L w_4 =>
 opK Tryd.prog E (xPick a7C (Value.bool true) a5L) w_4 fun a3V w_6 =>
 opK Tryd.prog E (gsem (asB a3V) false (xBin .eql 3 (.tmp 12) (.const (Value.int .i64 13)) (gval (asB a3V) false x0) (Value.int .i64 13))) w_6 fun b3J w_8 =>
 opK Tryd.prog E (xPick a3V (Value.bool true) b3J) w_8 fun a7F m2 =>
 xcond a7F
 (R (Value.int .i64 1) m2)
 (opK Tryd.prog E (xBin .eql 3 (.tmp 15) (.const (Value.int .i64 10)) x0 (Value.int .i64 10)) m2 fun a3k m8 =>
 xcond a3k
 (R (Value.int .i64 2) m8)
 (opK Tryd.prog E (xCall (Value.func (.func 128) #[] #[]) [x0, (Value.int .i64 48), (Value.int .i64 57)]) m8 fun a7G m5 =>
 xcond a7G
 (R (Value.int .i64 4) m5)
 (opK Tryd.prog E (xCall (Value.func (.func 128) #[] #[]) [x0, (Value.int .i64 97), (Value.int .i64 122)]) m5 fun b5G o6 =>
 opK Tryd.prog E (gsem (asB b5G) false (xCall (Value.func (.func 128) #[] #[]) [(gval (asB b5G) false x0), (Value.int .i64 65), (Value.int .i64 90)])) o6 fun f5f p8 =>
 opK Tryd.prog E (xPick b5G (Value.bool true) f5f) p8 fun b5H o4 =>
 opK Tryd.prog E (gsem (asB b5H) false (xBin .eql 3 (.tmp 26) (.const (Value.int .i64 95)) (gval (asB b5H) false x0) (Value.int .i64 95))) o4 fun b6u r6 =>
 opK Tryd.prog E (xPick b5H (Value.bool true) b6u) r6 fun a3j q6 =>
 opK Tryd.prog E (gsem (asB a3j) false (xCall (Value.func (.func 128) #[] #[]) [(gval (asB a3j) false x0), (Value.int .i64 192), (Value.int .i64 591)])) q6 fun c6k u1 =>
 opK Tryd.prog E (gsem (asB (gval (asB a3j) false c6k)) true (xBin .neq 3 (.tmp 33) (.const (Value.int .i64 215)) (gval (asB (gval (asB a3j) false c6k)) true x0) (Value.int .i64 215))) u1 fun f5g w9 =>
 opK Tryd.prog E (gsem (asB a3j) false (xPick (gval (asB a3j) false c6k) f5g (Value.bool false))) w9 fun c6l z6 =>
 opK Tryd.prog E (gsem (asB (gval (asB a3j) false c6l)) true (xBin .neq 3 (.tmp 37) (.const (Value.int .i64 247)) (gval (asB (gval (asB a3j) false c6l)) true x0) (Value.int .i64 247))) z6 fun f5h w8 =>
 opK Tryd.prog E (gsem (asB a3j) false (xPick (gval (asB a3j) false c6l) f5h (Value.bool false))) w8 fun f5i z7 =>
 opK Tryd.prog E (xPick a3j (Value.bool true) f5i) z7 fun a5U B3 =>
 opK Tryd.prog E (gsem (asB a5U) false (xCall (Value.func (.func 128) #[] #[]) [(gval (asB a5U) false x0), (Value.int .i64 913), (Value.int .i64 969)])) B3 fun b6v w3 =>
 opK Tryd.prog E (gsem (asB (gval (asB a5U) false b6v)) true (xBin .neq 3 (.tmp 45) (.const (Value.int .i64 930)) (gval (asB (gval (asB a5U) false b6v)) true x0) (Value.int .i64 930))) w3 fun f5j B8 =>
 opK Tryd.prog E (gsem (asB a5U) false (xPick (gval (asB a5U) false b6v) f5j (Value.bool false))) B8 fun f5k C7 =>
 opK Tryd.prog E (xPick a5U (Value.bool true) f5k) C7 fun c6m B9 =>
 opK Tryd.prog E (gsem (asB c6m) false (xCall (Value.func (.func 128) #[] #[]) [(gval (asB c6m) false x0), (Value.int .i64 1040), (Value.int .i64 1103)])) B9 fun f5l D4 =>
 opK Tryd.prog E (xPick c6m (Value.bool true) f5l) D4 fun f5m E6 =>
 xcond f5m
 (R (Value.int .i64 3) E6)
 (xcut (fun _ D7 => c1z D7 R E) fun j1 =>
 xloop [4] [(Value.int .i64 0)] E6 fun τ_63 J7 next2 =>
 c8C x0 (Value.string ⟨#[59, 44, 123, 125, 40, 41, 91, 93, 61, 33, 60, 62, 43, 45, 42, 47, 37, 38, 124]⟩) (τ_63 4) J7 next2 j1 R E))))
noncomputable def f5n : Code := Tryd.f119.body.getD .skip
def f5o : Hint := (.seq .none (.seq (.seq .none (.cond (.seq .none .none) .none)) (.seq (.seq .none (.cond (.seq .none .none) .none)) (.seq (.seq .none (.cond (.seq .none .none) .none)) (.seq (.seq .none (.cond (.seq .none .none) .none)) (.seq .none (.cut [] (.seq .none (.block (.loop [4] (.seq (.seq .none (.cond .none .none)) (.seq (.block (.seq .none (.cond (.seq .none .none) .none))) .none))))) (.seq .none .none))))))))
theorem e4a (x0 : Value) (w : World) (R : Value → World → Prop) (E : Pan) : d0O x0 w R E = callX Tryd.prog [.tmp 2] f5n f5o [x0] w R E := by kernel_rfl
theorem e4b {x0 : Value} {w : World} {R : Value → World → Prop} {E : Pan} (h : d0O x0 w R E) : Cv Tryd.prog 119 #[x0] w R E := by
 refine h8 (args := [x0]) (c := f5n) (h := f5o) (rs := [.tmp 2]) Tryd.func119 (by kernel_rfl) (by kernel_rfl) (Nat.le_of_ble_eq_true (by kernel_rfl)) (by kernel_rfl) (by kernel_rfl) (by kernel_rfl) ?_
 rw [← e4a]
 exact h
def d0P (x0 x1 x2 : Value) (w : World) (R : Value → World → Prop) (E : Pan) : Prop :=
 opK Tryd.prog E (xBin .geq 3 (.tmp 7) (.tmp 8) x0 x1) w fun d0Q w_2 =>
 opK Tryd.prog E (gsem (asB d0Q) true (xBin .leq 3 (.tmp 11) (.tmp 12) (gval (asB d0Q) true x0) (gval (asB d0Q) true x2))) w_2 fun c0c w_4 =>
 opK Tryd.prog E (xPick d0Q c0c (Value.bool false)) w_4 fun c0d w_6 =>
 R c0d w_6
noncomputable def f5p : Code := Tryd.f128.body.getD .skip
def f5q : Hint := (.seq .none (.seq .none .none))
theorem e4c (x0 x1 x2 : Value) (w : World) (R : Value → World → Prop) (E : Pan) : d0P x0 x1 x2 w R E = callX Tryd.prog [.tmp 6] f5p f5q [x0, x1, x2] w R E := by kernel_rfl
theorem e4d {x0 x1 x2 : Value} {w : World} {R : Value → World → Prop} {E : Pan} (h : d0P x0 x1 x2 w R E) : Cv Tryd.prog 128 #[x0, x1, x2] w R E := by
 refine h8 (args := [x0, x1, x2]) (c := f5p) (h := f5q) (rs := [.tmp 6]) Tryd.func128 (by kernel_rfl) (by kernel_rfl) (Nat.le_of_ble_eq_true (by kernel_rfl)) (by kernel_rfl) (by kernel_rfl) (by kernel_rfl) ?_
 rw [← e4c]
 exact h
end Go.Proofs.YthldnpmfelniiaaDoor
