/- The second reading of some of the program's functions, printed by gen2.py off the code; each is held against the code by the kernel. -/
import Derived.Test.YtnhkdkcgdcgmdaaDoorProg
import Derived.Test.YtnhkdkcgdcgmdaaDoorzOK0
import Derived.KernelRfl
import Derived.Test.YtnhkdkcgdcgmdaaDoorzOGz
namespace Go.Proofs.YtnhkdkcgdcgmdaaDoor
open Go.RowKit
set_option maxRecDepth 100000
variable {w : World} {R : RT} {E : Pan}
def F32 (x0 : Value) (w : World) (R : RT) (E : Pan) : Prop :=
 oP E (xV (Instr.box 44 x0)) w fun o5 w_2 =>
 oP E (lA 44 o5) w_2 fun a9d w_4 =>
 oP E (xCall (fC 52) [a9d]) w_4 fun a5H w_6 =>
 oP E (xNil a5H) w_6 fun a5I w_8 =>
 oP E (fA 106 a5I 2) w_8 fun a9e o7 =>
 oP E (lA 29 a9e) o7 fun a8m o4 =>
 oP E (xBin .neq 29 (.tmp 10) (.const (vI 0)) a8m (vI 0)) o4 fun a9f o8 =>
 xcond a9f
 (dX o8 fun a9N =>
 qP Tryd.prog (xNil a5H) fun c7i =>
 qP Tryd.prog (fA 106 c7i 2) fun a3X =>
 qL Tryd.prog a9N (blk a3X) (lA 29 a3X) fun c7j =>
 R (Value.tuple #[(vI 0), c7j]) a9N)
 (oP E (xNil a5H) o8 fun c7k u1 =>
 oP E (fA 106 c7k 1) u1 fun b8e v8 =>
 oP E (lA 3 b8e) v8 fun b1V y6 =>
 R (Value.tuple #[b1V, (vI 0)]) y6)
noncomputable def c32 : Code := Tryd.f32.body.getD .skip
def h32 : Hint := (sQ (sQ (.seq (sQ (.cond (.seq (.reg [(0, 4096, 16), (1, 8192, 4096), (2, 16384, 8192), (4, 32768, 16384), (0, 4, 0), (31, 8, 32768)] [8, 8, 8, 0, 8, 8] (.early 0 (.early 1 (.early 2 (.early 4 (.load 3 (.early 5 .done))))))) .none) .none)) (sQ .none))))
theorem e8M (x0 : Value) (w : World) (R : RT) (E : Pan) : F32 x0 w R E = callX Tryd.prog [.tmp 2, .tmp 3] c32 h32 [x0] w R E := by kernel_rfl
theorem e8N {x0 : Value} (h : F32 x0 w R E) : Cv Tryd.prog 32 #[x0] w R E := by
 refine f8 (args := [x0]) (c := c32) (h := h32) (rs := [.tmp 2, .tmp 3]) Tryd.func32 (by kernel_rfl) (by kernel_rfl) (nB (by kernel_rfl)) (by kernel_rfl) (by kernel_rfl) (by kernel_rfl) ?_
 rw [← e8M]
 exact h
def F33 (x0 : Value) (w : World) (R : RT) (E : Pan) : Prop :=
 oP E (xV (Instr.box 44 x0)) w fun o5 w_2 =>
 oP E (lA 44 o5) w_2 fun a9d w_4 =>
 oP E (xCall (fC 52) [a9d]) w_4 fun a5H w_6 =>
 oP E (xNil a5H) w_6 fun a5I w_8 =>
 oP E (fA 106 a5I 2) w_8 fun a9e o7 =>
 oP E (lA 29 a9e) o7 fun a8m o4 =>
 oP E (xBin .neq 29 (.tmp 10) (.const (vI 0)) a8m (vI 0)) o4 fun a9f o8 =>
 xcond a9f
 (dX o8 fun a9N =>
 qP Tryd.prog (xNil a5H) fun c7i =>
 qP Tryd.prog (fA 106 c7i 2) fun a3X =>
 qL Tryd.prog a9N (blk a3X) (lA 29 a3X) fun c7j =>
 R (Value.tuple #[(vI 0), c7j]) a9N)
 (oP E (xNil a5H) o8 fun c7k u1 =>
 oP E (fA 106 c7k 0) u1 fun b8e v8 =>
 oP E (lA 3 b8e) v8 fun b1V y6 =>
 R (Value.tuple #[b1V, (vI 0)]) y6)
noncomputable def c33 : Code := Tryd.f33.body.getD .skip
def h33 : Hint := (sQ (sQ (.seq (sQ (.cond (.seq (.reg [(0, 4096, 16), (1, 8192, 4096), (2, 16384, 8192), (4, 32768, 16384), (0, 4, 0), (31, 8, 32768)] [8, 8, 8, 0, 8, 8] (.early 0 (.early 1 (.early 2 (.early 4 (.load 3 (.early 5 .done))))))) .none) .none)) (sQ .none))))
theorem e8O (x0 : Value) (w : World) (R : RT) (E : Pan) : F33 x0 w R E = callX Tryd.prog [.tmp 2, .tmp 3] c33 h33 [x0] w R E := by kernel_rfl
theorem e8P {x0 : Value} (h : F33 x0 w R E) : Cv Tryd.prog 33 #[x0] w R E := by
 refine f8 (args := [x0]) (c := c33) (h := h33) (rs := [.tmp 2, .tmp 3]) Tryd.func33 (by kernel_rfl) (by kernel_rfl) (nB (by kernel_rfl)) (by kernel_rfl) (by kernel_rfl) (by kernel_rfl) ?_
 rw [← e8O]
 exact h
def F35 (x0 x1 : Value) (w : World) (R : RT) (E : Pan) : Prop :=
 oP E (xV (Instr.box 44 x0)) w fun W9 w_2 =>
 oP E (xV (Instr.box 44 x1)) w_2 fun S7 w_4 =>
 oP E (lA 44 W9) w_4 fun a5J w_6 =>
 oP E (xCall (fC 56) [a5J]) w_6 fun a0C w_8 =>
 oP E (gsem (asB a0C) true (lA 44 S7)) w_8 fun a8e o7 =>
 oP E (gsem (asB a0C) true (xCall (fC 56) [a8e])) o7 fun a5p o4 =>
 oP E (xPick a0C a5p (vB false)) o4 fun a9g o8 =>
 oP E (gsem (asB a9g) true (fA 44 W9 0)) o8 fun b1W s6 =>
 oP E (gsem (asB a9g) true (lA 41 b1W)) s6 fun a5K v7 =>
 oP E (gsem (asB a9g) true (fA 44 S7 0)) v7 fun c7l u1 =>
 oP E (gsem (asB a9g) true (lA 41 c7l)) u1 fun b8f v8 =>
 oP E (gsem (asB a9g) true (xCall (fC 57) [a5K, b8f])) v8 fun b8g y6 =>
 oP E (xPick a9g b8g (vB false)) y6 fun a6N z6 =>
 oP E (gsem (asB a6N) true (fA 44 W9 1)) z6 fun a9h E5 =>
 oP E (gsem (asB a6N) true (lA 42 a9h)) E5 fun c7m E1 =>
 oP E (gsem (asB a6N) true (fA 44 S7 1)) E1 fun b5n E2 =>
 oP E (gsem (asB a6N) true (lA 42 b5n)) E2 fun b8h E3 =>
 oP E (gsem (asB a6N) true (xCall (fC 58) [c7m, b8h, (fC 59)])) E3 fun c7n L2 =>
 oP E (xPick a6N c7n (vB false)) L2 fun c7o L4 =>
 R c7o L4
noncomputable def c35 : Code := Tryd.f35.body.getD .skip
def h35 : Hint := (sQ (sQ .none))
theorem e8Q (x0 x1 : Value) (w : World) (R : RT) (E : Pan) : F35 x0 x1 w R E = callX Tryd.prog [.tmp 4] c35 h35 [x0, x1] w R E := by kernel_rfl
theorem e8R {x0 x1 : Value} (h : F35 x0 x1 w R E) : Cv Tryd.prog 35 #[x0, x1] w R E := by
 refine f8 (args := [x0, x1]) (c := c35) (h := h35) (rs := [.tmp 4]) Tryd.func35 (by kernel_rfl) (by kernel_rfl) (nB (by kernel_rfl)) (by kernel_rfl) (by kernel_rfl) (by kernel_rfl) ?_
 rw [← e8Q]
 exact h
def F37 (x0 : Value) (w : World) (R : RT) (E : Pan) : Prop :=
 oP E (xV (Instr.box 24 x0)) w fun o5 w_2 =>
 oP E (lA 24 o5) w_2 fun S7 w_4 =>
 oP E (xV (Instr.build 123 #[(0, S7)])) w_4 fun a3j w_6 =>
 oP E (xV (Instr.makeInterface 123 a3j)) w_6 fun a6d w_8 =>
 oP E (xV (Instr.buildSlice 124 1 #[(0, a6d)])) w_8 fun a9O o7 =>
 oP E (xCall (fC 60) [a9O]) o7 fun S5 o4 =>
 oP E (xNil S5) o4 fun b6d o8 =>
 oP E (fA 106 b6d 2) o8 fun d2t s6 =>
 oP E (lA 29 d2t) s6 fun b1X v7 =>
 R b1X v7
noncomputable def c37 : Code := Tryd.f37.body.getD .skip
def h37 : Hint := (sQ (sQ .none))
theorem e8S (x0 : Value) (w : World) (R : RT) (E : Pan) : F37 x0 w R E = callX Tryd.prog [.tmp 2] c37 h37 [x0] w R E := by kernel_rfl
theorem e8T {x0 : Value} (h : F37 x0 w R E) : Cv Tryd.prog 37 #[x0] w R E := by
 refine f8 (args := [x0]) (c := c37) (h := h37) (rs := [.tmp 2]) Tryd.func37 (by kernel_rfl) (by kernel_rfl) (nB (by kernel_rfl)) (by kernel_rfl) (by kernel_rfl) (by kernel_rfl) ?_
 rw [← e8S]
 exact h
def F52 (x0 : Value) (w : World) (R : RT) (E : Pan) : Prop :=
 oP E (xV (Instr.box 44 x0)) w fun o5 w_2 =>
 dX w_2 fun w_3 =>
 qP Tryd.prog (fA 44 o5 0) fun c4E =>
 qP Tryd.prog (fA 44 o5 1) fun a5H =>
 qL Tryd.prog w_3 (blk c4E) (lA 41 c4E) fun g4Y =>
 qL Tryd.prog w_3 (blk a5H) (lA 42 a5H) fun a5c =>
 oP E (xCall (fC 88) [g4Y, (fC 89)]) w_3 fun c7p w_9 =>
 keepX [(blk a5H)] w_3 w_9 (opK Tryd.prog E (xCall (fC 90) [a5c, (fC 91)]) w_9 fun g1M P9 =>
 keepX [] w_9 P9 (opK Tryd.prog E (xV (Instr.buildSlice 174 2 #[(0, c7p), (1, g1M)])) P9 fun c2J V0 =>
 keepX [] P9 V0 (opK Tryd.prog E (xCall (fC 87) [c2J]) V0 fun e8U a9N =>
 keepX [] V0 a9N (opK Tryd.prog E (xCall (fC 60) [e8U]) a9N fun b1Y Y8 =>
 keepX [] a9N Y8 (R b1Y Y8)))))
noncomputable def c52 : Code := Tryd.f52.body.getD .skip
def h52 : Hint := (sQ (.seq (.reg [(0, 8, 2), (1, 16, 8), (2, 32, 16), (0, 64, 2), (8, 128, 64), (20, 256, 128), (36, 512, 288), (96, 1024, 512), (128, 2048, 1024), (511, 4, 2048)] [18, 16, 16, 18, 2, 0, 0, 0, 0, 18] (.early 0 (.early 3 (.load 1 (.load 4 (.step 2 (.step 5 (.step 6 (.step 7 (.step 8 (.early 9 .done))))))))))) .none))
theorem e8V (x0 : Value) (w : World) (R : RT) (E : Pan) : F52 x0 w R E = callX Tryd.prog [.tmp 2] c52 h52 [x0] w R E := by kernel_rfl
theorem e8W {x0 : Value} (h : F52 x0 w R E) : Cv Tryd.prog 52 #[x0] w R E := by
 refine f8 (args := [x0]) (c := c52) (h := h52) (rs := [.tmp 2]) Tryd.func52 (by kernel_rfl) (by kernel_rfl) (nB (by kernel_rfl)) (by kernel_rfl) (by kernel_rfl) (by kernel_rfl) ?_
 rw [← e8V]
 exact h
def F53 (x0 : Value) (w : World) (R : RT) (E : Pan) : Prop :=
 oP E (xV (Instr.box 44 x0)) w fun o5 w_2 =>
 oP E (lA 44 o5) w_2 fun S7 w_4 =>
 oP E (xCall (fC 52) [S7]) w_4 fun a3j w_6 =>
 oP E (xNil a3j) w_6 fun a6d w_8 =>
 oP E (fA 106 a6d 2) w_8 fun a9O o7 =>
 oP E (lA 29 a9O) o7 fun S5 o4 =>
 R S5 o4
noncomputable def c53 : Code := Tryd.f53.body.getD .skip
def h53 : Hint := (sQ (sQ .none))
theorem e8X (x0 : Value) (w : World) (R : RT) (E : Pan) : F53 x0 w R E = callX Tryd.prog [.tmp 2] c53 h53 [x0] w R E := by kernel_rfl
theorem e8Y {x0 : Value} (h : F53 x0 w R E) : Cv Tryd.prog 53 #[x0] w R E := by
 refine f8 (args := [x0]) (c := c53) (h := h53) (rs := [.tmp 2]) Tryd.func53 (by kernel_rfl) (by kernel_rfl) (nB (by kernel_rfl)) (by kernel_rfl) (by kernel_rfl) (by kernel_rfl) ?_
 rw [← e8X]
 exact h
def F56 (x0 : Value) (w : World) (R : RT) (E : Pan) : Prop :=
 oP E (xV (Instr.box 44 x0)) w fun o5 w_2 =>
 oP E (lA 44 o5) w_2 fun a6e w_4 =>
 oP E (xCall (fC 53) [a6e]) w_4 fun a5J w_6 =>
 oP E (xBin .neq 29 (.tmp 6) (.const (vI 32)) a5J (vI 32)) w_6 fun a5c w_8 =>
 oP E (gsem (asB a5c) true (xBin .neq 29 (.tmp 9) (.const (vI 33)) (gval (asB a5c) true a5J) (vI 33))) w_8 fun c2K o7 =>
 oP E (xPick a5c c2K (vB false)) o7 fun a9i o4 =>
 R a9i o4
noncomputable def c56 : Code := Tryd.f56.body.getD .skip
def h56 : Hint := (sQ (sQ (sQ .none)))
theorem e8Z (x0 : Value) (w : World) (R : RT) (E : Pan) : F56 x0 w R E = callX Tryd.prog [.tmp 2] c56 h56 [x0] w R E := by kernel_rfl
theorem e9a {x0 : Value} (h : F56 x0 w R E) : Cv Tryd.prog 56 #[x0] w R E := by
 refine f8 (args := [x0]) (c := c56) (h := h56) (rs := [.tmp 2]) Tryd.func56 (by kernel_rfl) (by kernel_rfl) (nB (by kernel_rfl)) (by kernel_rfl) (by kernel_rfl) (by kernel_rfl) ?_
 rw [← e8Z]
 exact h
def c7q (w : World) (R : RT) (_E : Pan) : Prop :=
 ∀ _τ : Fr, (R (vB true) w)
def d6C (x0 x1 x12 x13 : Value) (w : World) (next2 : NT) (j1 : NT) (R : RT) (E : Pan) : Prop :=
 oP E (xBin .lss 3 (.tmp 13) (.tmp 12) x13 x12) w fun c7r o4 =>
 xcond c7r
 (dX o4 fun V0 =>
 qP Tryd.prog (iA 41 x0 x13) fun d6D =>
 qP Tryd.prog (iA 41 x1 x13) fun d6E =>
 qL Tryd.prog V0 (blk d6D) (lA 58 d6D) fun e9b =>
 qL Tryd.prog V0 (blk d6E) (lA 58 d6E) fun e9c =>
 qP Tryd.prog (xBin .neq 58 (.tmp 19) (.tmp 23) e9b e9c) fun e9d =>
 xcond e9d
 (R (vB false) V0)
 (oP E (xBin .add 3 (.tmp 13) (.const (vI 1)) x13 (vI 1)) V0 fun e9e u1 =>
 next2 [e9e] u1))
 (j1 [] o4)
def F57 (x0 x1 : Value) (w : World) (R : RT) (E : Pan) : Prop :=
 oP E (xBuiltin .len #[41] 3 [false] [x0]) w fun a6f w_2 =>
 oP E (xBuiltin .len #[41] 3 [false] [x1]) w_2 fun a3Y w_4 =>
 oP E (xBin .neq 3 (.tmp 7) (.tmp 9) a6f a3Y) w_4 fun a9j w_6 =>
 xcond a9j
 (R (vB false) w_6)
 (xcut (fun _ w_8 => c7q w_8 R E) fun j1 =>
 oP E (xBuiltin .len #[41] 3 [false] [x0]) w_6 fun b3Q o7 =>
 xloop [13] [(vI 0)] o7 fun τ_21 v8 next2 =>
 d6C x0 x1 b3Q (τ_21 13) v8 next2 j1 R E)
noncomputable def c57 : Code := Tryd.f57.body.getD .skip
def h57 : Hint := (sQ (.seq (sQ (.cond (sQ .none) .none)) (.cut [] (sQ (.block (.loop [13] (sQ (.seq (.cond .none .none) (.seq (.block (sQ (.seq (.reg [(0, 65536, 1), (0, 131072, 32), (3, 262144, 196608), (4, 524288, 262144), (0, 1048576, 2), (0, 2097152, 32), (48, 4194304, 3145728), (64, 8388608, 4194304), (136, 16777216, 8912896)] [136, 136, 136, 128, 136, 136, 136, 8, 136] (.early 0 (.early 1 (.early 2 (.early 4 (.early 5 (.early 6 (.load 3 (.load 7 (.early 8 .done)))))))))) (.cond (sQ .none) .none)))) .none)))))) (sQ .none))))
theorem e9f (x0 x1 : Value) (w : World) (R : RT) (E : Pan) : F57 x0 x1 w R E = callX Tryd.prog [.tmp 4] c57 h57 [x0, x1] w R E := by kernel_rfl
theorem e9g {x0 x1 : Value} (h : F57 x0 x1 w R E) : Cv Tryd.prog 57 #[x0, x1] w R E := by
 refine f8 (args := [x0, x1]) (c := c57) (h := h57) (rs := [.tmp 4]) Tryd.func57 (by kernel_rfl) (by kernel_rfl) (nB (by kernel_rfl)) (by kernel_rfl) (by kernel_rfl) (by kernel_rfl) ?_
 rw [← e9f]
 exact h
def c7s (w : World) (R : RT) (_E : Pan) : Prop :=
 ∀ _τ : Fr, (R (vB true) w)
def d6F (x1 x2 x15 x16 x17 : Value) (w : World) (next2 : NT) (j1 : NT) (R : RT) (E : Pan) : Prop :=
 oP E (xBin .lss 3 (.tmp 17) (.tmp 16) x17 x16) w fun b1Z o4 =>
 xcond b1Z
 (oP E (iA 42 x15 x17) o4 fun a5L o8 =>
 oP E (lA 63 a5L) o8 fun a7j s6 =>
 oP E (xV (Instr.alloc 63 true (.tuple #[]))) s6 fun b3R v7 =>
 oP E (sA 63 b3R a7j) v7 fun _z_19 u1 =>
 oP E (iA 42 x1 x17) u1 fun b8i v8 =>
 oP E (lA 63 b8i) v8 fun b8j y6 =>
 oP E (xV (Instr.alloc 63 true (.tuple #[]))) y6 fun b3S z6 =>
 oP E (sA 63 b3S b8j) z6 fun _z_27 E5 =>
 oP E (lA 63 b3R) E5 fun b2a E1 =>
 oP E (lA 63 b3S) E1 fun a4N E2 =>
 oP E (xCall x2 [b2a, a4N]) E2 fun b8k E3 =>
 oP E (xV (Op.unary .not b8k)) E3 fun b8l L2 =>
 xcond b8l
 (R (vB false) L2)
 (oP E (xBin .add 3 (.tmp 17) (.const (vI 1)) x17 (vI 1)) L2 fun b2b L4 =>
 next2 [b2b] L4))
 (j1 [] o4)
def F58 (x0 x1 x2 : Value) (w : World) (R : RT) (E : Pan) : Prop :=
 oP E (xBuiltin .len #[42] 3 [false] [x0]) w fun b1k w_2 =>
 oP E (xBuiltin .len #[42] 3 [false] [x1]) w_2 fun b1l w_4 =>
 oP E (xBin .neq 3 (.tmp 11) (.tmp 13) b1k b1l) w_4 fun b3T w_6 =>
 xcond b3T
 (R (vB false) w_6)
 (xcut (fun _ w_8 => c7s w_8 R E) fun j1 =>
 oP E (xBuiltin .len #[42] 3 [false] [x0]) w_6 fun b6e o7 =>
 xloop [17] [(vI 0)] o7 fun τ_39 L9 next2 =>
 d6F x1 x2 x0 b6e (τ_39 17) L9 next2 j1 R E)
noncomputable def c58 : Code := Tryd.f58.body.getD .skip
def h58 : Hint := (sQ (.seq (sQ (.cond (sQ .none) .none)) (.cut [] (sQ (.block (.loop [17] (sQ (.seq (.cond .none .none) (.seq (.block (sQ (sQ (sQ (.cond (sQ .none) .none))))) .none)))))) (sQ .none))))
theorem e9h (x0 x1 x2 : Value) (w : World) (R : RT) (E : Pan) : F58 x0 x1 x2 w R E = callX Tryd.prog [.tmp 6] c58 h58 [x0, x1, x2] w R E := by kernel_rfl
theorem e9i {x0 x1 x2 : Value} (h : F58 x0 x1 x2 w R E) : Cv Tryd.prog 58 #[x0, x1, x2] w R E := by
 refine f8 (args := [x0, x1, x2]) (c := c58) (h := h58) (rs := [.tmp 6]) Tryd.func58 (by kernel_rfl) (by kernel_rfl) (nB (by kernel_rfl)) (by kernel_rfl) (by kernel_rfl) (by kernel_rfl) ?_
 rw [← e9h]
 exact h
def F59 (x0 x1 : Value) (w : World) (R : RT) (E : Pan) : Prop :=
 oP E (xV (Instr.box 63 x0)) w fun W9 w_2 =>
 oP E (xV (Instr.box 63 x1)) w_2 fun S7 w_4 =>
 oP E (fA 63 W9 0) w_4 fun a5J w_6 =>
 oP E (lA 3 a5J) w_6 fun a0C w_8 =>
 oP E (fA 63 S7 0) w_8 fun b2c o7 =>
 oP E (lA 3 b2c) o7 fun a9k o4 =>
 oP E (xBin .eql 3 (.tmp 6) (.tmp 8) a0C a9k) o4 fun Z4 o8 =>
 oP E (gsem (asB Z4) true (fA 63 W9 1)) o8 fun a8n s6 =>
 oP E (gsem (asB Z4) true (lA 9 a8n)) s6 fun a8o v7 =>
 oP E (gsem (asB Z4) true (fA 63 S7 1)) v7 fun a8p u1 =>
 oP E (gsem (asB Z4) true (lA 9 a8p)) u1 fun b0D v8 =>
 oP E (gsem (asB Z4) true (xBin .eql 9 (.tmp 12) (.tmp 14) a8o b0D)) v8 fun b2d y6 =>
 oP E (xPick Z4 b2d (vB false)) y6 fun Y6 z6 =>
 oP E (gsem (asB Y6) true (fA 63 W9 2)) z6 fun a9l E5 =>
 oP E (gsem (asB Y6) true (lA 22 a9l)) E5 fun a9m E1 =>
 oP E (gsem (asB Y6) true (fA 63 S7 2)) E1 fun a9n E2 =>
 oP E (gsem (asB Y6) true (lA 22 a9n)) E2 fun a6O E3 =>
 oP E (gsem (asB Y6) true (xCall (fC 95) [a9m, a6O, (fC 96)])) E3 fun a7k L2 =>
 oP E (xPick Y6 a7k (vB false)) L2 fun T1 L4 =>
 oP E (gsem (asB T1) true (fA 63 W9 3)) L4 fun b2e L9 =>
 oP E (gsem (asB T1) true (lA 25 b2e)) L9 fun b2f M4 =>
 oP E (gsem (asB T1) true (fA 63 S7 3)) M4 fun b2g N8 =>
 oP E (gsem (asB T1) true (lA 25 b2g)) N8 fun b2h V1 =>
 oP E (gsem (asB T1) true (xCall (fC 97) [b2f, b2h, (fC 98)])) V1 fun a6P V2 =>
 oP E (xPick T1 a6P (vB false)) V2 fun a6Q Q3 =>
 oP E (gsem (asB a6Q) true (fA 63 W9 4)) Q3 fun c7t R6 =>
 oP E (gsem (asB a6Q) true (lA 42 c7t)) R6 fun c7u W0 =>
 oP E (gsem (asB a6Q) true (fA 63 S7 4)) W0 fun b2i X0 =>
 oP E (gsem (asB a6Q) true (lA 42 b2i)) X0 fun e9j Y9 =>
 oP E (gsem (asB a6Q) true (xCall (fC 58) [c7u, e9j, (fC 59)])) Y9 fun e9k W1 =>
 oP E (xPick a6Q e9k (vB false)) W1 fun b5o U0 =>
 oP E (gsem (asB b5o) true (fA 63 W9 5)) U0 fun c7v Z0 =>
 oP E (gsem (asB b5o) true (lA 42 c7v)) Z0 fun a9o X6 =>
 oP E (gsem (asB b5o) true (fA 63 S7 5)) X6 fun c7w X7 =>
 oP E (gsem (asB b5o) true (lA 42 c7w)) X7 fun c7x Z1 =>
 oP E (gsem (asB b5o) true (xCall (fC 58) [a9o, c7x, (fC 59)])) Z1 fun c7y a1t =>
 oP E (xPick b5o c7y (vB false)) a1t fun c7z a1V =>
 R c7z a1V
noncomputable def c59 : Code := Tryd.f59.body.getD .skip
def h59 : Hint := (sQ (sQ .none))
theorem e9l (x0 x1 : Value) (w : World) (R : RT) (E : Pan) : F59 x0 x1 w R E = callX Tryd.prog [.tmp 4] c59 h59 [x0, x1] w R E := by kernel_rfl
theorem e9m {x0 x1 : Value} (h : F59 x0 x1 w R E) : Cv Tryd.prog 59 #[x0, x1] w R E := by
 refine f8 (args := [x0, x1]) (c := c59) (h := h59) (rs := [.tmp 4]) Tryd.func59 (by kernel_rfl) (by kernel_rfl) (nB (by kernel_rfl)) (by kernel_rfl) (by kernel_rfl) (by kernel_rfl) ?_
 rw [← e9l]
 exact h
def c7A (x3 : Value) (w : World) (R : RT) (E : Pan) : Prop :=
 ∀ _τ : Fr, (oP E (lA 102 x3) w fun b0E s6 =>
 R b0E s6)
def F60 (x0 : Value) (w : World) (R : RT) (E : Pan) : Prop :=
 oP E (xV (Instr.build 106 #[])) w fun b8m w_2 =>
 oP E (xV (Instr.box 106 b8m)) w_2 fun b2j w_4 =>
 oP E (xV (Instr.alloc 102 true (.tuple #[]))) w_4 fun b6f w_6 =>
 oP E (sA 102 b6f b2j) w_6 fun _z_7 w_8 =>
 oP E (xV (Instr.alloc 161 true (.tuple #[]))) w_8 fun d9t o7 =>
 oP E (xV (Instr.makeFunc (.func 99) #[] #[b6f, d9t])) o7 fun a9k o4 =>
 oP E (sA 161 d9t a9k) o4 fun _z_13 o8 =>
 xcut (fun _ v7 => c7A b6f v7 R E) fun j1 =>
 oP E (lA 161 d9t) o8 fun g1N u1 =>
 oP E (xCall g1N [x0, (vI 1)]) u1 fun c2L v8 =>
 oP E (xV (Op.unary .not c2L)) v8 fun c7B y6 =>
 xcond c7B
 (j1 [] y6)
 (oP E (lA 102 b6f) y6 fun Y6 z6 =>
 oP E (xNil Y6) z6 fun c7C E5 =>
 oP E (fA 106 c7C 3) E5 fun c2M E1 =>
 oP E (lA 4 c2M) E1 fun c7D E2 =>
 xcond c7D
 (oP E (lA 102 b6f) E2 fun b8n E3 =>
 oP E (xNil b8n) E3 fun e9n L2 =>
 oP E (fA 106 e9n 2) L2 fun e9o L4 =>
 oP E (sA 29 e9o (vI 30)) L4 fun _z_39 L9 =>
 j1 [] L9)
 (oP E (lA 102 b6f) E2 fun e9p M4 =>
 oP E (xNil e9p) M4 fun b8o N8 =>
 oP E (fA 106 b8o 4) N8 fun e9q V1 =>
 oP E (lA 4 e9q) V1 fun e9r V2 =>
 xcond e9r
 (oP E (lA 102 b6f) V2 fun e9s Q3 =>
 oP E (xNil e9s) Q3 fun e9t R6 =>
 oP E (fA 106 e9t 2) R6 fun e9u W0 =>
 oP E (sA 29 e9u (vI 31)) W0 fun _z_55 X0 =>
 j1 [] X0)
 (j1 [] V2)))
noncomputable def c60 : Code := Tryd.f60.body.getD .skip
def h60 : Hint := (sQ (sQ (sQ (sQ (.cut [] (sQ (.block (sQ (.cond .none (sQ (.cond .none (sQ (.cond .none .none)))))))) (sQ .none))))))
theorem e9v (x0 : Value) (w : World) (R : RT) (E : Pan) : F60 x0 w R E = callX Tryd.prog [.tmp 2] c60 h60 [x0] w R E := by kernel_rfl
theorem e9w {x0 : Value} (h : F60 x0 w R E) : Cv Tryd.prog 60 #[x0] w R E := by
 refine f8 (args := [x0]) (c := c60) (h := h60) (rs := [.tmp 2]) Tryd.func60 (by kernel_rfl) (by kernel_rfl) (nB (by kernel_rfl)) (by kernel_rfl) (by kernel_rfl) (by kernel_rfl) ?_
 rw [← e9v]
 exact h
def c7E (x6 : Value) (w : World) (R : RT) (_E : Pan) : Prop :=
 ∀ _τ : Fr, (R x6 w)
def d6G (x6 x25 x26 x27 : Value) (w : World) (next3 : NT) (j2 : NT) (_R : RT) (E : Pan) : Prop :=
 oP E (xBin .lss 3 (.tmp 27) (.tmp 26) x27 x26) w fun g1O w_8 =>
 xcond g1O
 (oP E (iA 174 x25 x27) w_8 fun g1P o7 =>
 oP E (lA 124 g1P) o7 fun e9x o4 =>
 oP E (xBuiltin .append #[124, 124] 124 [false, false] [x6, e9x]) o4 fun e9y o8 =>
 oP E (xBin .add 3 (.tmp 27) (.const (vI 1)) x27 (vI 1)) o8 fun e9z s6 =>
 next3 [e9y, e9z] s6)
 (j2 [x6] w_8)
def c7F (x0 x3 : Value) (w : World) (R : RT) (E : Pan) : Prop :=
 ∀ _τ : Fr, (oP E (xCall (fC 117) [(nS), x3]) w fun g1Q w_2 =>
 xcut (fun l_3 w_4 => c7E (nth l_3 0) w_4 R E) fun j2 =>
 oP E (xBuiltin .len #[174] 3 [false] [x0]) w_2 fun g1R w_6 =>
 xloop [6, 27] [g1Q, (vI 0)] w_6 fun τ_17 v7 next3 =>
 d6G (τ_17 6) x0 g1R (τ_17 27) v7 next3 j2 R E)
def c7G (_x0 x3 _x9 _x10 x11 : Value) (w : World) (next4 : NT) (_R : RT) (E : Pan) : Prop :=
 ∀ _τ : Fr, (oP E (xBin .add 3 (.tmp 11) (.const (vI 1)) x11 (vI 1)) w fun e9A z6 =>
 next4 [x3, e9A] z6)
def d6H (x0 x3 x9 x10 x11 : Value) (w : World) (next4 : NT) (j1 : NT) (R : RT) (E : Pan) : Prop :=
 oP E (xBin .lss 3 (.tmp 11) (.tmp 10) x11 x10) w fun c7H y6 =>
 xcond c7H
 (xcut (fun b0T E5 => c7G x0 (nth b0T 0) x9 x10 x11 E5 next4 R E) fun j5 =>
 oP E (iA 174 x9 x11) y6 fun e9B E1 =>
 oP E (lA 124 e9B) E1 fun e9C E2 =>
 oP E (xBuiltin .len #[124] 3 [false] [e9C]) E2 fun c7I E3 =>
 oP E (xBin .add 3 (.tmp 15) (.tmp 17) x3 c7I) E3 fun b8p L2 =>
 oP E (xBin .lss 3 (.tmp 19) (.const (vI 0)) b8p (vI 0)) L2 fun e9D L4 =>
 xcond e9D
 (oP E (xV (Instr.makeInterface 9 (Value.string ⟨#[108, 101, 110, 32, 111, 117, 116, 32, 111, 102, 32, 114, 97, 110, 103, 101]⟩))) L4 fun e9E L9 =>
 oP E (xV (Instr.panic e9E)) L9 fun _z_41 M4 =>
 j5 [b8p] M4)
 (j5 [b8p] L4))
 (j1 [x3] y6)
def F87 (x0 : Value) (w : World) (R : RT) (E : Pan) : Prop :=
 xcut (fun a5M u1 => c7F x0 (nth a5M 0) u1 R E) fun j1 =>
 oP E (xBuiltin .len #[174] 3 [false] [x0]) w fun e9F v8 =>
 xloop [3, 11] [(vI 0), (vI 0)] v8 fun τ_43 N8 next4 =>
 d6H x0 (τ_43 3) x0 e9F (τ_43 11) N8 next4 j1 R E
noncomputable def c87 : Code := Tryd.f87.body.getD .skip
def h87 : Hint := (sQ (sQ (.cut [3] (sQ (.block (.loop [3, 11] (sQ (.seq (.cond .none .none) (.cut [3] (.block (sQ (sQ (sQ (.cond .none .none))))) .none)))))) (sQ (.cut [6] (sQ (.block (.loop [6, 27] (sQ (.seq (.cond .none .none) (.seq (.block (sQ .none)) .none)))))) (sQ .none))))))
theorem e9G (x0 : Value) (w : World) (R : RT) (E : Pan) : F87 x0 w R E = callX Tryd.prog [.tmp 2] c87 h87 [x0] w R E := by kernel_rfl
theorem e9H {x0 : Value} (h : F87 x0 w R E) : Cv Tryd.prog 87 #[x0] w R E := by
 refine f8 (args := [x0]) (c := c87) (h := h87) (rs := [.tmp 2]) Tryd.func87 (by kernel_rfl) (by kernel_rfl) (nB (by kernel_rfl)) (by kernel_rfl) (by kernel_rfl) (by kernel_rfl) ?_
 rw [← e9G]
 exact h
def c7J (x5 : Value) (w : World) (R : RT) (_E : Pan) : Prop :=
 ∀ _τ : Fr, (R x5 w)
def d6I (x1 x5 x8 x9 x10 : Value) (w : World) (next2 : NT) (j1 : NT) (_R : RT) (E : Pan) : Prop :=
 oP E (xBin .lss 3 (.tmp 10) (.tmp 9) x10 x9) w fun a4O w_6 =>
 xcond a4O
 (oP E (iA 41 x8 x10) w_6 fun a3x w_8 =>
 oP E (lA 58 a3x) w_8 fun a3y o7 =>
 oP E (xV (Instr.alloc 58 true (.tuple #[]))) o7 fun S5 o4 =>
 oP E (sA 58 S5 a3y) o4 fun _z_13 o8 =>
 oP E (lA 58 S5) o8 fun a2K s6 =>
 oP E (xCall x1 [a2K]) s6 fun a2L v7 =>
 oP E (xV (Instr.buildSlice 124 1 #[(0, a2L)])) v7 fun a2M u1 =>
 oP E (xBuiltin .append #[124, 124] 124 [false, false] [x5, a2M]) u1 fun a2N v8 =>
 oP E (xBin .add 3 (.tmp 10) (.const (vI 1)) x10 (vI 1)) v8 fun a0U y6 =>
 next2 [a2N, a0U] y6)
 (j1 [x5] w_6)
def F88 (x0 x1 : Value) (w : World) (R : RT) (E : Pan) : Prop :=
 xcut (fun l_1 w_2 => c7J (nth l_1 0) w_2 R E) fun j1 =>
 oP E (xBuiltin .len #[41] 3 [false] [x0]) w fun a3Y w_4 =>
 xloop [5, 10] [(nS), (vI 0)] w_4 fun τ_25 z6 next2 =>
 d6I x1 (τ_25 5) x0 a3Y (τ_25 10) z6 next2 j1 R E
noncomputable def c88 : Code := Tryd.f88.body.getD .skip
def h88 : Hint := (sQ (sQ (.cut [5] (sQ (.block (.loop [5, 10] (sQ (.seq (.cond .none .none) (.seq (.block (sQ .none)) .none)))))) (sQ .none))))
theorem e9I (x0 x1 : Value) (w : World) (R : RT) (E : Pan) : F88 x0 x1 w R E = callX Tryd.prog [.tmp 4] c88 h88 [x0, x1] w R E := by kernel_rfl
theorem e9J {x0 x1 : Value} (h : F88 x0 x1 w R E) : Cv Tryd.prog 88 #[x0, x1] w R E := by
 refine f8 (args := [x0, x1]) (c := c88) (h := h88) (rs := [.tmp 4]) Tryd.func88 (by kernel_rfl) (by kernel_rfl) (nB (by kernel_rfl)) (by kernel_rfl) (by kernel_rfl) (by kernel_rfl) ?_
 rw [← e9I]
 exact h
def F89 (x0 : Value) (w : World) (R : RT) (E : Pan) : Prop :=
 oP E (xV (Instr.box 58 x0)) w fun o5 w_2 =>
 oP E (lA 58 o5) w_2 fun S7 w_4 =>
 oP E (xV (Instr.build 177 #[(0, S7)])) w_4 fun a3j w_6 =>
 oP E (xV (Instr.makeInterface 177 a3j)) w_6 fun a6d w_8 =>
 R a6d w_8
noncomputable def c89 : Code := Tryd.f89.body.getD .skip
def h89 : Hint := (sQ (sQ .none))
theorem e9K (x0 : Value) (w : World) (R : RT) (E : Pan) : F89 x0 w R E = callX Tryd.prog [.tmp 2] c89 h89 [x0] w R E := by kernel_rfl
theorem e9L {x0 : Value} (h : F89 x0 w R E) : Cv Tryd.prog 89 #[x0] w R E := by
 refine f8 (args := [x0]) (c := c89) (h := h89) (rs := [.tmp 2]) Tryd.func89 (by kernel_rfl) (by kernel_rfl) (nB (by kernel_rfl)) (by kernel_rfl) (by kernel_rfl) (by kernel_rfl) ?_
 rw [← e9K]
 exact h
def c7K (x5 : Value) (w : World) (R : RT) (_E : Pan) : Prop :=
 ∀ _τ : Fr, (R x5 w)
def d6J (x1 x5 x8 x9 x10 : Value) (w : World) (next2 : NT) (j1 : NT) (_R : RT) (E : Pan) : Prop :=
 oP E (xBin .lss 3 (.tmp 10) (.tmp 9) x10 x9) w fun a4O w_6 =>
 xcond a4O
 (oP E (iA 42 x8 x10) w_6 fun a3x w_8 =>
 oP E (lA 63 a3x) w_8 fun a3y o7 =>
 oP E (xV (Instr.alloc 63 true (.tuple #[]))) o7 fun S5 o4 =>
 oP E (sA 63 S5 a3y) o4 fun _z_13 o8 =>
 oP E (lA 63 S5) o8 fun a2K s6 =>
 oP E (xCall x1 [a2K]) s6 fun a2L v7 =>
 oP E (xV (Instr.buildSlice 124 1 #[(0, a2L)])) v7 fun a2M u1 =>
 oP E (xBuiltin .append #[124, 124] 124 [false, false] [x5, a2M]) u1 fun a2N v8 =>
 oP E (xBin .add 3 (.tmp 10) (.const (vI 1)) x10 (vI 1)) v8 fun a0U y6 =>
 next2 [a2N, a0U] y6)
 (j1 [x5] w_6)
def F90 (x0 x1 : Value) (w : World) (R : RT) (E : Pan) : Prop :=
 xcut (fun l_1 w_2 => c7K (nth l_1 0) w_2 R E) fun j1 =>
 oP E (xBuiltin .len #[42] 3 [false] [x0]) w fun a3Y w_4 =>
 xloop [5, 10] [(nS), (vI 0)] w_4 fun τ_25 z6 next2 =>
 d6J x1 (τ_25 5) x0 a3Y (τ_25 10) z6 next2 j1 R E
noncomputable def c90 : Code := Tryd.f90.body.getD .skip
def h90 : Hint := (sQ (sQ (.cut [5] (sQ (.block (.loop [5, 10] (sQ (.seq (.cond .none .none) (.seq (.block (sQ .none)) .none)))))) (sQ .none))))
theorem e9M (x0 x1 : Value) (w : World) (R : RT) (E : Pan) : F90 x0 x1 w R E = callX Tryd.prog [.tmp 4] c90 h90 [x0, x1] w R E := by kernel_rfl
theorem e9N {x0 x1 : Value} (h : F90 x0 x1 w R E) : Cv Tryd.prog 90 #[x0, x1] w R E := by
 refine f8 (args := [x0, x1]) (c := c90) (h := h90) (rs := [.tmp 4]) Tryd.func90 (by kernel_rfl) (by kernel_rfl) (nB (by kernel_rfl)) (by kernel_rfl) (by kernel_rfl) (by kernel_rfl) ?_
 rw [← e9M]
 exact h
def F91 (x0 : Value) (w : World) (R : RT) (E : Pan) : Prop :=
 oP E (xV (Instr.box 63 x0)) w fun o5 w_2 =>
 oP E (lA 63 o5) w_2 fun S7 w_4 =>
 oP E (xV (Instr.build 179 #[(0, S7)])) w_4 fun a3j w_6 =>
 oP E (xV (Instr.makeInterface 179 a3j)) w_6 fun a6d w_8 =>
 R a6d w_8
noncomputable def c91 : Code := Tryd.f91.body.getD .skip
def h91 : Hint := (sQ (sQ .none))
theorem e9O (x0 : Value) (w : World) (R : RT) (E : Pan) : F91 x0 w R E = callX Tryd.prog [.tmp 2] c91 h91 [x0] w R E := by kernel_rfl
theorem e9P {x0 : Value} (h : F91 x0 w R E) : Cv Tryd.prog 91 #[x0] w R E := by
 refine f8 (args := [x0]) (c := c91) (h := h91) (rs := [.tmp 2]) Tryd.func91 (by kernel_rfl) (by kernel_rfl) (nB (by kernel_rfl)) (by kernel_rfl) (by kernel_rfl) (by kernel_rfl) ?_
 rw [← e9O]
 exact h
def c7L (w : World) (R : RT) (_E : Pan) : Prop :=
 ∀ _τ : Fr, (R (vB true) w)
def d6K (x1 x2 x15 x16 x17 : Value) (w : World) (next2 : NT) (j1 : NT) (R : RT) (E : Pan) : Prop :=
 oP E (xBin .lss 3 (.tmp 17) (.tmp 16) x17 x16) w fun b1Z o4 =>
 xcond b1Z
 (oP E (iA 22 x15 x17) o4 fun a5L o8 =>
 oP E (lA 24 a5L) o8 fun a7j s6 =>
 oP E (xV (Instr.alloc 24 true (.tuple #[]))) s6 fun b3R v7 =>
 oP E (sA 24 b3R a7j) v7 fun _z_19 u1 =>
 oP E (iA 22 x1 x17) u1 fun b8i v8 =>
 oP E (lA 24 b8i) v8 fun b8j y6 =>
 oP E (xV (Instr.alloc 24 true (.tuple #[]))) y6 fun b3S z6 =>
 oP E (sA 24 b3S b8j) z6 fun _z_27 E5 =>
 oP E (lA 24 b3R) E5 fun b2a E1 =>
 oP E (lA 24 b3S) E1 fun a4N E2 =>
 oP E (xCall x2 [b2a, a4N]) E2 fun b8k E3 =>
 oP E (xV (Op.unary .not b8k)) E3 fun b8l L2 =>
 xcond b8l
 (R (vB false) L2)
 (oP E (xBin .add 3 (.tmp 17) (.const (vI 1)) x17 (vI 1)) L2 fun b2b L4 =>
 next2 [b2b] L4))
 (j1 [] o4)
def F95 (x0 x1 x2 : Value) (w : World) (R : RT) (E : Pan) : Prop :=
 oP E (xBuiltin .len #[22] 3 [false] [x0]) w fun b1k w_2 =>
 oP E (xBuiltin .len #[22] 3 [false] [x1]) w_2 fun b1l w_4 =>
 oP E (xBin .neq 3 (.tmp 11) (.tmp 13) b1k b1l) w_4 fun b3T w_6 =>
 xcond b3T
 (R (vB false) w_6)
 (xcut (fun _ w_8 => c7L w_8 R E) fun j1 =>
 oP E (xBuiltin .len #[22] 3 [false] [x0]) w_6 fun b6e o7 =>
 xloop [17] [(vI 0)] o7 fun τ_39 L9 next2 =>
 d6K x1 x2 x0 b6e (τ_39 17) L9 next2 j1 R E)
noncomputable def c95 : Code := Tryd.f95.body.getD .skip
def h95 : Hint := (sQ (.seq (sQ (.cond (sQ .none) .none)) (.cut [] (sQ (.block (.loop [17] (sQ (.seq (.cond .none .none) (.seq (.block (sQ (sQ (sQ (.cond (sQ .none) .none))))) .none)))))) (sQ .none))))
theorem e9Q (x0 x1 x2 : Value) (w : World) (R : RT) (E : Pan) : F95 x0 x1 x2 w R E = callX Tryd.prog [.tmp 6] c95 h95 [x0, x1, x2] w R E := by kernel_rfl
theorem e9R {x0 x1 x2 : Value} (h : F95 x0 x1 x2 w R E) : Cv Tryd.prog 95 #[x0, x1, x2] w R E := by
 refine f8 (args := [x0, x1, x2]) (c := c95) (h := h95) (rs := [.tmp 6]) Tryd.func95 (by kernel_rfl) (by kernel_rfl) (nB (by kernel_rfl)) (by kernel_rfl) (by kernel_rfl) (by kernel_rfl) ?_
 rw [← e9Q]
 exact h
def F96 (x0 x1 : Value) (w : World) (R : RT) (E : Pan) : Prop :=
 oP E (xV (Instr.box 24 x0)) w fun W9 w_2 =>
 oP E (xV (Instr.box 24 x1)) w_2 fun S7 w_4 =>
 oP E (fA 24 W9 0) w_4 fun a5J w_6 =>
 oP E (lA 3 a5J) w_6 fun a0C w_8 =>
 oP E (fA 24 S7 0) w_8 fun b2c o7 =>
 oP E (lA 3 b2c) o7 fun a9k o4 =>
 oP E (xBin .eql 3 (.tmp 6) (.tmp 8) a0C a9k) o4 fun Z4 o8 =>
 oP E (gsem (asB Z4) true (fA 24 W9 1)) o8 fun a8n s6 =>
 oP E (gsem (asB Z4) true (lA 2 a8n)) s6 fun a8o v7 =>
 oP E (gsem (asB Z4) true (fA 24 S7 1)) v7 fun a8p u1 =>
 oP E (gsem (asB Z4) true (lA 2 a8p)) u1 fun b0D v8 =>
 oP E (gsem (asB Z4) true (xBin .eql 2 (.tmp 12) (.tmp 14) a8o b0D)) v8 fun b2d y6 =>
 oP E (xPick Z4 b2d (vB false)) y6 fun Y6 z6 =>
 oP E (gsem (asB Y6) true (fA 24 W9 2)) z6 fun a9l E5 =>
 oP E (gsem (asB Y6) true (lA 9 a9l)) E5 fun a9m E1 =>
 oP E (gsem (asB Y6) true (fA 24 S7 2)) E1 fun a9n E2 =>
 oP E (gsem (asB Y6) true (lA 9 a9n)) E2 fun a6O E3 =>
 oP E (gsem (asB Y6) true (xBin .eql 9 (.tmp 19) (.tmp 21) a9m a6O)) E3 fun a7k L2 =>
 oP E (xPick Y6 a7k (vB false)) L2 fun T1 L4 =>
 oP E (gsem (asB T1) true (fA 24 W9 3)) L4 fun b2e L9 =>
 oP E (gsem (asB T1) true (lA 22 b2e)) L9 fun b2f M4 =>
 oP E (gsem (asB T1) true (fA 24 S7 3)) M4 fun b2g N8 =>
 oP E (gsem (asB T1) true (lA 22 b2g)) N8 fun b2h V1 =>
 oP E (gsem (asB T1) true (xCall (fC 95) [b2f, b2h, (fC 96)])) V1 fun a6P V2 =>
 oP E (xPick T1 a6P (vB false)) V2 fun a6Q Q3 =>
 R a6Q Q3
noncomputable def c96 : Code := Tryd.f96.body.getD .skip
def h96 : Hint := (sQ (sQ .none))
theorem e9S (x0 x1 : Value) (w : World) (R : RT) (E : Pan) : F96 x0 x1 w R E = callX Tryd.prog [.tmp 4] c96 h96 [x0, x1] w R E := by kernel_rfl
theorem e9T {x0 x1 : Value} (h : F96 x0 x1 w R E) : Cv Tryd.prog 96 #[x0, x1] w R E := by
 refine f8 (args := [x0, x1]) (c := c96) (h := h96) (rs := [.tmp 4]) Tryd.func96 (by kernel_rfl) (by kernel_rfl) (nB (by kernel_rfl)) (by kernel_rfl) (by kernel_rfl) (by kernel_rfl) ?_
 rw [← e9S]
 exact h
def c7M (w : World) (R : RT) (_E : Pan) : Prop :=
 ∀ _τ : Fr, (R (vB true) w)
def d6L (x1 x2 x15 x16 x17 : Value) (w : World) (next2 : NT) (j1 : NT) (R : RT) (E : Pan) : Prop :=
 oP E (xBin .lss 3 (.tmp 17) (.tmp 16) x17 x16) w fun b1Z o4 =>
 xcond b1Z
 (oP E (iA 25 x15 x17) o4 fun a5L o8 =>
 oP E (lA 27 a5L) o8 fun a7j s6 =>
 oP E (xV (Instr.alloc 27 true (.tuple #[]))) s6 fun b3R v7 =>
 oP E (sA 27 b3R a7j) v7 fun _z_19 u1 =>
 oP E (iA 25 x1 x17) u1 fun b8i v8 =>
 oP E (lA 27 b8i) v8 fun b8j y6 =>
 oP E (xV (Instr.alloc 27 true (.tuple #[]))) y6 fun b3S z6 =>
 oP E (sA 27 b3S b8j) z6 fun _z_27 E5 =>
 oP E (lA 27 b3R) E5 fun b2a E1 =>
 oP E (lA 27 b3S) E1 fun a4N E2 =>
 oP E (xCall x2 [b2a, a4N]) E2 fun b8k E3 =>
 oP E (xV (Op.unary .not b8k)) E3 fun b8l L2 =>
 xcond b8l
 (R (vB false) L2)
 (oP E (xBin .add 3 (.tmp 17) (.const (vI 1)) x17 (vI 1)) L2 fun b2b L4 =>
 next2 [b2b] L4))
 (j1 [] o4)
def F97 (x0 x1 x2 : Value) (w : World) (R : RT) (E : Pan) : Prop :=
 oP E (xBuiltin .len #[25] 3 [false] [x0]) w fun b1k w_2 =>
 oP E (xBuiltin .len #[25] 3 [false] [x1]) w_2 fun b1l w_4 =>
 oP E (xBin .neq 3 (.tmp 11) (.tmp 13) b1k b1l) w_4 fun b3T w_6 =>
 xcond b3T
 (R (vB false) w_6)
 (xcut (fun _ w_8 => c7M w_8 R E) fun j1 =>
 oP E (xBuiltin .len #[25] 3 [false] [x0]) w_6 fun b6e o7 =>
 xloop [17] [(vI 0)] o7 fun τ_39 L9 next2 =>
 d6L x1 x2 x0 b6e (τ_39 17) L9 next2 j1 R E)
noncomputable def c97 : Code := Tryd.f97.body.getD .skip
def h97 : Hint := (sQ (.seq (sQ (.cond (sQ .none) .none)) (.cut [] (sQ (.block (.loop [17] (sQ (.seq (.cond .none .none) (.seq (.block (sQ (sQ (sQ (.cond (sQ .none) .none))))) .none)))))) (sQ .none))))
theorem e9U (x0 x1 x2 : Value) (w : World) (R : RT) (E : Pan) : F97 x0 x1 x2 w R E = callX Tryd.prog [.tmp 6] c97 h97 [x0, x1, x2] w R E := by kernel_rfl
theorem e9V {x0 x1 x2 : Value} (h : F97 x0 x1 x2 w R E) : Cv Tryd.prog 97 #[x0, x1, x2] w R E := by
 refine f8 (args := [x0, x1, x2]) (c := c97) (h := h97) (rs := [.tmp 6]) Tryd.func97 (by kernel_rfl) (by kernel_rfl) (nB (by kernel_rfl)) (by kernel_rfl) (by kernel_rfl) (by kernel_rfl) ?_
 rw [← e9U]
 exact h
def F98 (x0 x1 : Value) (w : World) (R : RT) (E : Pan) : Prop :=
 oP E (xV (Instr.box 27 x0)) w fun W9 w_2 =>
 oP E (xV (Instr.box 27 x1)) w_2 fun S7 w_4 =>
 oP E (fA 27 W9 0) w_4 fun a5J w_6 =>
 oP E (lA 3 a5J) w_6 fun a0C w_8 =>
 oP E (fA 27 S7 0) w_8 fun b2c o7 =>
 oP E (lA 3 b2c) o7 fun a9k o4 =>
 oP E (xBin .eql 3 (.tmp 6) (.tmp 8) a0C a9k) o4 fun Z4 o8 =>
 oP E (gsem (asB Z4) true (fA 27 W9 1)) o8 fun a8n s6 =>
 oP E (gsem (asB Z4) true (lA 3 a8n)) s6 fun a8o v7 =>
 oP E (gsem (asB Z4) true (fA 27 S7 1)) v7 fun a8p u1 =>
 oP E (gsem (asB Z4) true (lA 3 a8p)) u1 fun b0D v8 =>
 oP E (gsem (asB Z4) true (xBin .eql 3 (.tmp 12) (.tmp 14) a8o b0D)) v8 fun b2d y6 =>
 oP E (xPick Z4 b2d (vB false)) y6 fun Y6 z6 =>
 oP E (gsem (asB Y6) true (fA 27 W9 2)) z6 fun a9l E5 =>
 oP E (gsem (asB Y6) true (lA 22 a9l)) E5 fun a9m E1 =>
 oP E (gsem (asB Y6) true (fA 27 S7 2)) E1 fun a9n E2 =>
 oP E (gsem (asB Y6) true (lA 22 a9n)) E2 fun a6O E3 =>
 oP E (gsem (asB Y6) true (xCall (fC 95) [a9m, a6O, (fC 96)])) E3 fun a7k L2 =>
 oP E (xPick Y6 a7k (vB false)) L2 fun T1 L4 =>
 oP E (gsem (asB T1) true (fA 27 W9 3)) L4 fun b2e L9 =>
 oP E (gsem (asB T1) true (lA 25 b2e)) L9 fun b2f M4 =>
 oP E (gsem (asB T1) true (fA 27 S7 3)) M4 fun b2g N8 =>
 oP E (gsem (asB T1) true (lA 25 b2g)) N8 fun b2h V1 =>
 oP E (gsem (asB T1) true (xCall (fC 97) [b2f, b2h, (fC 98)])) V1 fun a6P V2 =>
 oP E (xPick T1 a6P (vB false)) V2 fun a6Q Q3 =>
 R a6Q Q3
noncomputable def c98 : Code := Tryd.f98.body.getD .skip
def h98 : Hint := (sQ (sQ .none))
theorem e9W (x0 x1 : Value) (w : World) (R : RT) (E : Pan) : F98 x0 x1 w R E = callX Tryd.prog [.tmp 4] c98 h98 [x0, x1] w R E := by kernel_rfl
theorem e9X {x0 x1 : Value} (h : F98 x0 x1 w R E) : Cv Tryd.prog 98 #[x0, x1] w R E := by
 refine f8 (args := [x0, x1]) (c := c98) (h := h98) (rs := [.tmp 4]) Tryd.func98 (by kernel_rfl) (by kernel_rfl) (nB (by kernel_rfl)) (by kernel_rfl) (by kernel_rfl) (by kernel_rfl) ?_
 rw [← e9W]
 exact h
def c7N (w : World) (R : RT) (_E : Pan) : Prop :=
 ∀ _τ : Fr, (R (vB true) w)
def d6M (x1 x2 x3 x9 x10 x11 : Value) (w : World) (next2 : NT) (j1 : NT) (R : RT) (E : Pan) : Prop :=
 oP E (xBin .lss 3 (.tmp 11) (.tmp 10) x11 x10) w fun b6g w_6 =>
 xcond b6g
 (oP E (iA 124 x9 x11) w_6 fun b6h w_8 =>
 oP E (lA 152 b6h) w_8 fun a9p o7 =>
 dX o7 fun P9 =>
 qL Tryd.prog P9 (blk x2) (lA 102 x2) fun e9Y =>
 oP E (xCall (fC 100) [e9Y, a9p, x1]) P9 fun b8q o8 =>
 keepX [] P9 o8 (qP Tryd.prog (xV (Op.unary .not b8q)) fun a8q =>
 qP Tryd.prog (gsem (asB a8q) false (xBin .add 3 (.tmp 24) (.const (vI 1)) (gval (asB a8q) false x1) (vI 1))) fun e9Z =>
 qL Tryd.prog o8 (blk x3) (gsem (asB a8q) false (lA 161 x3)) fun f0a =>
 oP E (gsem (asB a8q) false (xInvoke (gval (asB a8q) false a9p) "gnomon/tree.parts" [])) o8 fun f0b a0D =>
 keepX [(blk x3)] o8 a0D (opK Tryd.prog E (gsem (asB a8q) false (xCall f0a [f0b, e9Z])) a0D fun f0c U1 =>
 keepX [] a0D U1 (qP Tryd.prog (gsem (asB a8q) false (xV (Op.unary .not f0c))) fun f0d =>
 qP Tryd.prog (xPick a8q (vB true) f0d) fun c7O =>
 xcond c7O
 (R (vB false) U1)
 (oP E (xBin .add 3 (.tmp 11) (.const (vI 1)) x11 (vI 1)) U1 fun f0e b2k =>
 next2 [f0e] b2k)))))
 (j1 [] w_6)
def F99 (x0 x1 x2 x3 : Value) (w : World) (R : RT) (E : Pan) : Prop :=
 xcut (fun _ w_2 => c7N w_2 R E) fun j1 =>
 oP E (xBuiltin .len #[124] 3 [false] [x0]) w fun b6i w_4 =>
 xloop [11] [(vI 0)] w_4 fun τ_26 a3z next2 =>
 d6M x1 x2 x3 x0 b6i (τ_26 11) a3z next2 j1 R E
noncomputable def c99 : Code := Tryd.f99.body.getD .skip
def h99 : Hint := (sQ (.cut [] (sQ (.block (.loop [11] (sQ (.seq (.cond .none .none) (.seq (.block (sQ (.seq (.reg [(0, 32768, 4), (0, 65536, 256), (0, 131072, 2), (7, 262144, 229376), (8, 524288, 262144), (24, 1048576, 524288), (32, 2097152, 1048584), (32, 4194304, 1048832), (160, 8388608, 5242880), (32, 16777216, 1048578), (544, 33554432, 17825792), (1376, 67108864, 45088768), (2080, 134217728, 68157440), (4128, 268435456, 135266304)] [64, 65, 65, 0, 65, 65, 1, 65, 64, 65, 65, 0, 65, 65] (.early 1 (.early 2 (.load 0 (.step 3 (.early 4 (.early 5 (.early 7 (.early 9 (.early 10 (.load 6 (.step 8 (.step 11 (.early 12 (.early 13 .done))))))))))))))) (.cond (sQ .none) .none)))) .none)))))) (sQ .none)))
theorem f0f (x0 x1 x2 x3 : Value) (w : World) (R : RT) (E : Pan) : F99 x0 x1 x2 x3 w R E = callX Tryd.prog [.tmp 6] c99 h99 [x0, x1, x2, x3] w R E := by kernel_rfl
theorem f0g {x0 x1 x2 x3 : Value} (h : F99 x0 x1 x2 x3 w R E) : Cv Tryd.prog 99 #[x0, x1, x2, x3] w R E := by
 refine f8 (args := [x0, x1, x2, x3]) (c := c99) (h := h99) (rs := [.tmp 6]) Tryd.func99 (by kernel_rfl) (by kernel_rfl) (nB (by kernel_rfl)) (by kernel_rfl) (by kernel_rfl) (by kernel_rfl) ?_
 rw [← f0f]
 exact h
def c4F (w : World) (R : RT) (_E : Pan) : Prop :=
 ∀ _τ : Fr, (R (vB true) w)
def d2u (x0 x1 x2 : Value) (w : World) (R : RT) (E : Pan) : Prop :=
 oP E (xNil x0) w fun c6n w_2 =>
 oP E (fA 106 c6n 0) w_2 fun a6g w_4 =>
 oP E (lA 3 a6g) w_4 fun b6g w_6 =>
 oP E (xBin .add 3 (.tmp 12) (.const (vI 1)) b6g (vI 1)) w_6 fun b6h w_8 =>
 oP E (xNil x0) w_8 fun a9p o7 =>
 oP E (fA 106 a9p 0) o7 fun b2l o4 =>
 oP E (sA 3 b2l b6h) o4 fun _z_13 o8 =>
 oP E (xNil x0) o8 fun b8r s6 =>
 oP E (fA 106 b8r 0) s6 fun c7P v7 =>
 oP E (lA 3 c7P) v7 fun f0h u1 =>
 oP E (xBin .gtr 3 (.tmp 19) (.const (vI 4096)) f0h (vI 4096)) u1 fun f0i v8 =>
 xcond f0i
 (oP E (xNil x0) v8 fun f0j y6 =>
 oP E (fA 106 f0j 2) y6 fun f0k z6 =>
 oP E (sA 29 f0k (vI 33)) z6 fun _z_27 E5 =>
 R (vB false) E5)
 (oP E (xBin .gtr 3 (.tmp 24) (.const (vI 64)) x2 (vI 64)) v8 fun f0l E1 =>
 xcond f0l
 (oP E (xNil x0) E1 fun f0m E2 =>
 oP E (fA 106 f0m 2) E2 fun f0n E3 =>
 oP E (sA 29 f0n (vI 32)) E3 fun _z_35 L2 =>
 R (vB false) L2)
 (oP E (xNil x0) E1 fun b2b L4 =>
 oP E (fA 106 b2b 1) L4 fun f0o L9 =>
 oP E (lA 3 f0o) L9 fun f0p M4 =>
 oP E (xBuiltin .max #[3, 3] 3 [false, false] [f0p, x2]) M4 fun f0q N8 =>
 oP E (xNil x0) N8 fun f0r V1 =>
 oP E (fA 106 f0r 1) V1 fun f0s V2 =>
 oP E (sA 3 f0s f0q) V2 fun _z_49 Q3 =>
 oP E (xNil x0) Q3 fun f0t R6 =>
 oP E (fA 106 f0t 3) R6 fun f0u W0 =>
 oP E (lA 4 f0u) W0 fun c2N X0 =>
 oP E (gsem (asB c2N) false (xInvoke (gval (asB c2N) false x1) "gnomon/tree.form" [])) X0 fun f0v Y9 =>
 oP E (gsem (asB c2N) false (xV (Op.unary .not f0v))) Y9 fun f0w W1 =>
 oP E (xPick c2N (vB true) f0w) W1 fun f0x U0 =>
 oP E (xNil x0) U0 fun f0y Z0 =>
 oP E (fA 106 f0y 3) Z0 fun f0z X6 =>
 oP E (sA 4 f0z f0x) X6 fun _z_67 X7 =>
 xcut (fun _ Z1 => c4F Z1 R E) fun j1 =>
 oP E (xCall (fC 118) [x1]) X7 fun d6N a1t =>
 oP E (eX d6N 0) a1t fun b8s a1V =>
 oP E (eX d6N 1) a1V fun f0A a3k =>
 xcond f0A
 (oP E (xNil x0) a3k fun f0B a3l =>
 oP E (fA 106 f0B 4) a3l fun f0C a3Z =>
 oP E (lA 4 f0C) a3Z fun b2m a4x =>
 oP E (gsem (asB b2m) false (xCall (fC 119) [(gval (asB b2m) false b8s)])) a4x fun f0D a4y =>
 oP E (gsem (asB b2m) false (xV (Op.unary .not f0D))) a4y fun f0E a5d =>
 oP E (xPick b2m (vB true) f0E) a5d fun f0F a4a =>
 oP E (xNil x0) a4a fun f0G a6V =>
 oP E (fA 106 f0G 4) a6V fun f0H a7l =>
 oP E (sA 4 f0H f0F) a7l fun _z_93 a1W =>
 oP E (xNil x0) a1W fun f0I a8f =>
 oP E (fA 106 f0I 5) a8f fun f0J a9P =>
 oP E (lA 104 f0J) a9P fun f0K a4P =>
 oP E (xCall (fC 120) [f0K, b8s]) a4P fun e4s a4f =>
 oP E (xV (Op.unary .not e4s)) a4f fun e4t a4g =>
 xcond e4t
 (oP E (xNil x0) a4g fun e4u a5q =>
 oP E (fA 106 e4u 5) a5q fun e4v c2O =>
 oP E (lA 104 e4v) c2O fun e4w b9F =>
 oP E (xV (Instr.buildSlice 104 1 #[(0, b8s)])) b9F fun e4x c2P =>
 oP E (xBuiltin .append #[104, 104] 104 [false, false] [e4w, e4x]) c2P fun e4y a9q =>
 oP E (xNil x0) a9q fun e4z b1m =>
 oP E (fA 106 e4z 5) b1m fun e4A b9G =>
 oP E (sA 104 e4A e4y) b9G fun _z_119 b3U =>
 j1 [] b3U)
 (j1 [] a4g))
 (j1 [] a3k)))
noncomputable def f0L : Code := Tryd.f100.body.getD .skip
def f0M : Hint := (sQ (.seq (sQ (sQ (.cond (sQ (sQ .none)) .none))) (.seq (sQ (.cond (sQ (sQ .none)) .none)) (sQ (sQ (.cut [] (sQ (sQ (.cond (sQ (sQ (.cond .none .none))) .none))) (sQ .none)))))))
theorem e4B (x0 x1 x2 : Value) (w : World) (R : RT) (E : Pan) : d2u x0 x1 x2 w R E = callX Tryd.prog [.tmp 6] f0L f0M [x0, x1, x2] w R E := by kernel_rfl
theorem e4C {x0 x1 x2 : Value} (h : d2u x0 x1 x2 w R E) : Cv Tryd.prog 100 #[x0, x1, x2] w R E := by
 refine f8 (args := [x0, x1, x2]) (c := f0L) (h := f0M) (rs := [.tmp 6]) Tryd.func100 (by kernel_rfl) (by kernel_rfl) (nB (by kernel_rfl)) (by kernel_rfl) (by kernel_rfl) (by kernel_rfl) ?_
 rw [← e4B]
 exact h
def c4G (x0 : Value) (w : World) (R : RT) (_E : Pan) : Prop :=
 ∀ _τ : Fr, (R x0 w)
def d1C (x0 x1 : Value) (w : World) (R : RT) (E : Pan) : Prop :=
 ∀ _τ : Fr, (xcut (fun l_1 w_2 => c4G (nth l_1 0) w_2 R E) fun j2 =>
 oP E (xBuiltin .cap #[124] 3 [false] [x0]) w fun b6i w_4 =>
 oP E (xBuiltin .len #[124] 3 [false] [x0]) w_4 fun b6g w_6 =>
 oP E (xBin .sub 3 (.tmp 10) (.tmp 12) b6i b6g) w_6 fun b6h w_8 =>
 oP E (xBin .sub 3 (.tmp 8) (.tmp 13) x1 b6h) w_8 fun a9p o7 =>
 oP E (xBin .gtr 3 (.tmp 15) (.const (vI 0)) a9p (vI 0)) o7 fun a7m o4 =>
 xcond a7m
 (oP E (xBuiltin .cap #[124] 3 [false] [x0]) o4 fun f0N o8 =>
 oP E (xV (Instr.sliceAt 124 x0 none (some f0N) none)) o8 fun f0O s6 =>
 oP E (xBuiltin .append #[124, 3] 124 [false, false] [f0O, a9p]) s6 fun c7Q v7 =>
 oP E (xBuiltin .len #[124] 3 [false] [x0]) v7 fun f0P u1 =>
 oP E (xV (Instr.sliceAt 124 c7Q none (some f0P) none)) u1 fun c7R v8 =>
 j2 [c7R] v8)
 (j2 [x0] o4))
def d9u (x0 x1 : Value) (w : World) (R : RT) (E : Pan) : Prop :=
 xcut (fun _ y6 => d1C x0 x1 y6 R E) fun j1 =>
 oP E (xBin .lss 3 (.tmp 5) (.const (vI 0)) x1 (vI 0)) w fun g1S z6 =>
 xcond g1S
 (oP E (xV (Instr.makeInterface 9 (Value.string ⟨#[99, 97, 110, 110, 111, 116, 32, 98, 101, 32, 110, 101, 103, 97, 116, 105, 118, 101]⟩))) z6 fun g1T E5 =>
 oP E (xV (Instr.panic g1T)) E5 fun _z_29 E1 =>
 j1 [] E1)
 (j1 [] z6)
noncomputable def f0Q : Code := Tryd.f117.body.getD .skip
def f0R : Hint := (sQ (.cut [] (sQ (.cond .none .none)) (.cut [0] (sQ (sQ (.cond .none .none))) (sQ .none))))
theorem e4D (x0 x1 : Value) (w : World) (R : RT) (E : Pan) : d9u x0 x1 w R E = callX Tryd.prog [.tmp 4] f0Q f0R [x0, x1] w R E := by kernel_rfl
theorem e4E {x0 x1 : Value} (h : d9u x0 x1 w R E) : Cv Tryd.prog 117 #[x0, x1] w R E := by
 refine f8 (args := [x0, x1]) (c := f0Q) (h := f0R) (rs := [.tmp 4]) Tryd.func117 (by kernel_rfl) (by kernel_rfl) (nB (by kernel_rfl)) (by kernel_rfl) (by kernel_rfl) (by kernel_rfl) ?_
 rw [← e4D]
 exact h
def d2v (x0 : Value) (w : World) (R : RT) (E : Pan) : Prop :=
 oP E (xV (Instr.typeAssert x0 152 177 true)) w fun c4H w_2 =>
 oP E (eX c4H 1) w_2 fun a3Y w_4 =>
 oP E (eX c4H 0) w_4 fun a9j w_6 =>
 xcond a3Y
 (oP E (xV (Instr.alloc 177 true (.tuple #[]))) w_6 fun d2w w_8 =>
 oP E (sA 177 d2w a9j) w_8 fun _z_9 o7 =>
 oP E (fA 177 d2w 0) o7 fun a9i o4 =>
 oP E (fA 58 a9i 0) o4 fun b8t o8 =>
 oP E (lA 9 b8t) o8 fun a7n s6 =>
 R (Value.tuple #[a7n, (vB true)]) s6)
 (oP E (xV (Instr.typeAssert x0 152 179 true)) w_6 fun a3X v7 =>
 oP E (eX a3X 1) v7 fun a5N u1 =>
 oP E (eX a3X 0) u1 fun a7o v8 =>
 xcond a5N
 (oP E (xV (Instr.alloc 179 true (.tuple #[]))) v8 fun c6o y6 =>
 oP E (sA 179 c6o a7o) y6 fun _z_25 z6 =>
 dX z6 fun a3z =>
 qP Tryd.prog (fA 179 c6o 0) fun c7S =>
 qP Tryd.prog (fA 63 c7S 1) fun c2M =>
 qP Tryd.prog (fA 179 c6o 0) fun f0S =>
 qP Tryd.prog (fA 63 f0S 0) fun b5n =>
 qL Tryd.prog a3z (blk c2M) (lA 9 c2M) fun f0T =>
 qL Tryd.prog a3z (blk b5n) (lA 3 b5n) fun b8h =>
 qP Tryd.prog (xBin .eql 3 (.tmp 22) (.const (vI 1)) b8h (vI 1)) fun b8u =>
 qP Tryd.prog (gsem (asB b8u) false (fA 179 c6o 0)) fun f0U =>
 qP Tryd.prog (gsem (asB b8u) false (fA 63 f0U 0)) fun d6O =>
 qL Tryd.prog a3z (blk d6O) (gsem (asB b8u) false (lA 3 d6O)) fun f0V =>
 qP Tryd.prog (gsem (asB b8u) false (xBin .eql 3 (.tmp 27) (.const (vI 2)) f0V (vI 2))) fun f0W =>
 qP Tryd.prog (xPick b8u (vB true) f0W) fun f0X =>
 R (Value.tuple #[f0T, f0X]) a3z)
 (oP E (xV (Instr.typeAssert x0 152 123 true)) v8 fun d6P c0X =>
 oP E (eX d6P 1) c0X fun c2Q b6j =>
 oP E (eX d6P 0) b6j fun f0Y b4y =>
 xcond c2Q
 (oP E (xV (Instr.alloc 123 true (.tuple #[]))) b4y fun c6p c4I =>
 oP E (sA 123 c6p f0Y) c4I fun _z_48 b2n =>
 dX b2n fun Q3 =>
 qP Tryd.prog (fA 123 c6p 0) fun f0Z =>
 qP Tryd.prog (fA 24 f0Z 2) fun d6Q =>
 qP Tryd.prog (fA 123 c6p 0) fun c7T =>
 qP Tryd.prog (fA 24 c7T 0) fun d6R =>
 qL Tryd.prog Q3 (blk d6Q) (lA 9 d6Q) fun f1a =>
 qL Tryd.prog Q3 (blk d6R) (lA 3 d6R) fun f1b =>
 qP Tryd.prog (xBin .eql 3 (.tmp 38) (.const (vI 2)) f1b (vI 2)) fun b8v =>
 qP Tryd.prog (gsem (asB b8v) false (fA 123 c6p 0)) fun f1c =>
 qP Tryd.prog (gsem (asB b8v) false (fA 24 f1c 0)) fun d6S =>
 qL Tryd.prog Q3 (blk d6S) (gsem (asB b8v) false (lA 3 d6S)) fun f1d =>
 qP Tryd.prog (gsem (asB b8v) false (xBin .eql 3 (.tmp 43) (.const (vI 4)) f1d (vI 4))) fun f1e =>
 qP Tryd.prog (xPick b8v (vB true) f1e) fun f1f =>
 R (Value.tuple #[f1a, f1f]) Q3)
 (R (Value.tuple #[(eS), (vB false)]) b4y)))
noncomputable def f1g : Code := Tryd.f118.body.getD .skip
def f1h : Hint := (sQ (.seq (sQ (.block (sQ (.cond (sQ (sQ .none)) (sQ (.cond (sQ (.seq (.reg [(0, 131072, 32), (1, 262144, 131072), (2, 524288, 262144), (0, 1048576, 32), (8, 2097152, 1048576), (16, 4194304, 2097152), (32, 8388608, 4194304), (64, 16777216, 8388608), (128, 33554432, 16777248), (384, 67108864, 50331648), (640, 134217728, 83886080), (1152, 268435456, 150994944), (2176, 536870912, 285212672), (135, 4, 524288), (16383, 8, 536870912)] [1060, 1060, 1056, 1060, 1060, 1028, 1060, 1060, 1060, 1060, 36, 1060, 1060, 1060, 1060] (.early 0 (.early 1 (.early 3 (.early 4 (.load 2 (.load 5 (.early 6 (.early 7 (.early 8 (.early 9 (.early 13 (.load 10 (.early 11 (.early 12 (.early 14 .done)))))))))))))))) .none)) (sQ (.cond (sQ (.seq (.reg [(0, 8589934592, 64), (1, 17179869184, 8589934592), (2, 34359738368, 17179869184), (0, 68719476736, 64), (8, 137438953472, 68719476736), (16, 274877906944, 137438953472), (32, 549755813888, 274877906944), (64, 1099511627776, 549755813888), (128, 2199023255552, 1099511627840), (384, 4398046511104, 3298534883328), (640, 8796093022208, 5497558138880), (1152, 17592186044416, 9895604649984), (2176, 35184372088832, 18691697672192), (135, 4, 34359738368), (16383, 8, 35184372088832)] [1060, 1060, 1056, 1060, 1060, 1028, 1060, 1060, 1060, 1060, 36, 1060, 1060, 1060, 1060] (.early 0 (.early 1 (.early 3 (.early 4 (.load 2 (.load 5 (.early 6 (.early 7 (.early 8 (.early 9 (.early 13 (.load 10 (.early 11 (.early 12 (.early 14 .done)))))))))))))))) .none)) .none)))))))) (sQ .none)))
theorem e4F (x0 : Value) (w : World) (R : RT) (E : Pan) : d2v x0 w R E = callX Tryd.prog [.tmp 2, .tmp 3] f1g f1h [x0] w R E := by kernel_rfl
theorem e4G {x0 : Value} (h : d2v x0 w R E) : Cv Tryd.prog 118 #[x0] w R E := by
 refine f8 (args := [x0]) (c := f1g) (h := f1h) (rs := [.tmp 2, .tmp 3]) Tryd.func118 (by kernel_rfl) (by kernel_rfl) (nB (by kernel_rfl)) (by kernel_rfl) (by kernel_rfl) (by kernel_rfl) ?_
 rw [← e4F]
 exact h
def c4J (w : World) (R : RT) (_E : Pan) : Prop :=
 ∀ _τ : Fr, (R (vB true) w)
def d1D (x21 : Value) (w : World) (next2 : NT) (j1 : NT) (R : RT) (E : Pan) : Prop :=
 oP E (xV (Instr.next x21 true 0)) w fun c7U v8 =>
 oP E (eX c7U 0) v8 fun f1i y6 =>
 xcond f1i
 (oP E (eX c7U 1) y6 fun f1j z6 =>
 oP E (eX c7U 2) z6 fun d6T E5 =>
 oP E (xCall (fC 140) [d6T]) E5 fun b2a E1 =>
 oP E (xV (Op.unary .not b2a)) E1 fun a4N E2 =>
 oP E (gsem (asB a4N) false (xBin .eql 3 (.tmp 30) (.const (vI 0)) (gval (asB a4N) false f1j) (vI 0))) E2 fun c2R E3 =>
 oP E (gsem (asB (gval (asB a4N) false c2R)) true (xCall (fC 141) [(gval (asB (gval (asB a4N) false c2R)) true d6T)])) E3 fun f1k L2 =>
 oP E (gsem (asB (gval (asB a4N) false c2R)) true (xBin .neq 3 (.tmp 34) (.const (vI 3)) f1k (vI 3))) L2 fun f1l L4 =>
 oP E (gsem (asB a4N) false (xPick (gval (asB a4N) false c2R) f1l (vB false))) L4 fun f1m L9 =>
 oP E (xPick a4N (vB true) f1m) L9 fun f1n M4 =>
 xcond f1n
 (R (vB false) M4)
 (next2 [] M4))
 (j1 [] y6)
def d2x (x0 : Value) (w : World) (R : RT) (E : Pan) : Prop :=
 oP E (xBin .eql 9 (.tmp 5) (.const (eS)) x0 (eS)) w fun b8m w_2 =>
 oP E (gsem (asB b8m) false (xCall (fC 137) [(gval (asB b8m) false x0)])) w_2 fun a3Y w_4 =>
 oP E (gsem (asB b8m) false (xV (Op.unary .not a3Y))) w_4 fun a9j w_6 =>
 oP E (xPick b8m (vB true) a9j) w_6 fun b1n w_8 =>
 oP E (gsem (asB b1n) false (xCall (fC 138) [(gval (asB b1n) false x0)])) w_8 fun a9p o7 =>
 oP E (xPick b1n (vB true) a9p) o7 fun b2l o4 =>
 oP E (gsem (asB b2l) false (xCall (fC 139) [(gval (asB b2l) false x0)])) o4 fun b8q o8 =>
 oP E (xPick b2l (vB true) b8q) o8 fun a8q s6 =>
 xcond a8q
 (R (vB false) s6)
 (xcut (fun _ v7 => c4J v7 R E) fun j1 =>
 oP E (xV (Instr.range 9 x0)) s6 fun f1o u1 =>
 xloop [] [] u1 fun _ N8 next2 =>
 d1D f1o N8 next2 j1 R E)
noncomputable def f1p : Code := Tryd.f119.body.getD .skip
def f1q : Hint := (sQ (.seq (sQ (.cond (sQ .none) .none)) (.cut [] (sQ (.block (.loop [] (sQ (.seq (.cond .none .none) (.block (sQ (sQ (.cond (sQ .none) .none))))))))) (sQ .none))))
theorem e4H (x0 : Value) (w : World) (R : RT) (E : Pan) : d2x x0 w R E = callX Tryd.prog [.tmp 2] f1p f1q [x0] w R E := by kernel_rfl
theorem e4I {x0 : Value} (h : d2x x0 w R E) : Cv Tryd.prog 119 #[x0] w R E := by
 refine f8 (args := [x0]) (c := f1p) (h := f1q) (rs := [.tmp 2]) Tryd.func119 (by kernel_rfl) (by kernel_rfl) (nB (by kernel_rfl)) (by kernel_rfl) (by kernel_rfl) (by kernel_rfl) ?_
 rw [← e4H]
 exact h
def d2y (x0 x1 : Value) (w : World) (R : RT) (E : Pan) : Prop :=
 oP E (xCall (fC 142) [x0, x1]) w fun a6f w_2 =>
 oP E (xBin .geq 3 (.tmp 7) (.const (vI 0)) a6f (vI 0)) w_2 fun b8w w_4 =>
 R b8w w_4
noncomputable def f1r : Code := Tryd.f120.body.getD .skip
def f1s : Hint := (sQ (sQ .none))
theorem e4J (x0 x1 : Value) (w : World) (R : RT) (E : Pan) : d2y x0 x1 w R E = callX Tryd.prog [.tmp 4] f1r f1s [x0, x1] w R E := by kernel_rfl
theorem e4K {x0 x1 : Value} (h : d2y x0 x1 w R E) : Cv Tryd.prog 120 #[x0, x1] w R E := by
 refine f8 (args := [x0, x1]) (c := f1r) (h := f1s) (rs := [.tmp 4]) Tryd.func120 (by kernel_rfl) (by kernel_rfl) (nB (by kernel_rfl)) (by kernel_rfl) (by kernel_rfl) (by kernel_rfl) ?_
 rw [← e4J]
 exact h
def d2z (x0 : Value) (w : World) (R : RT) (E : Pan) : Prop :=
 oP E (xCall (fC 150) [x0]) w fun c0Y w_2 =>
 oP E (xBin .gtr 3 (.tmp 4) (.const (vI 32)) c0Y (vI 32)) w_2 fun a9d w_4 =>
 R a9d w_4
noncomputable def f1t : Code := Tryd.f138.body.getD .skip
def f1u : Hint := (sQ (sQ .none))
theorem e4L (x0 : Value) (w : World) (R : RT) (E : Pan) : d2z x0 w R E = callX Tryd.prog [.tmp 2] f1t f1u [x0] w R E := by kernel_rfl
theorem e4M {x0 : Value} (h : d2z x0 w R E) : Cv Tryd.prog 138 #[x0] w R E := by
 refine f8 (args := [x0]) (c := f1t) (h := f1u) (rs := [.tmp 2]) Tryd.func138 (by kernel_rfl) (by kernel_rfl) (nB (by kernel_rfl)) (by kernel_rfl) (by kernel_rfl) (by kernel_rfl) ?_
 rw [← e4L]
 exact h
def c4K (x4 : Value) (w : World) (R : RT) (_E : Pan) : Prop :=
 ∀ _τ : Fr, (xcond x4
 (R (vB true) w)
 (R (vB false) w))
def d2A (x0 : Value) (w : World) (R : RT) (E : Pan) : Prop :=
 xcut (fun l_1 w_2 => c4K (nth l_1 0) w_2 R E) fun j1 =>
 oP E (xBin .eql 9 (.tmp 3) (.const (Value.string ⟨#[118, 97, 114]⟩)) x0 (Value.string ⟨#[118, 97, 114]⟩)) w fun a9d w_4 =>
 xcond a9d
 (j1 [a9d] w_4)
 (oP E (xBin .eql 9 (.tmp 3) (.const (Value.string ⟨#[97, 114, 114, 97, 121]⟩)) x0 (Value.string ⟨#[97, 114, 114, 97, 121]⟩)) w_4 fun a5H w_6 =>
 xcond a5H
 (j1 [a5H] w_6)
 (oP E (xBin .eql 9 (.tmp 3) (.const (Value.string ⟨#[105, 102]⟩)) x0 (Value.string ⟨#[105, 102]⟩)) w_6 fun a5c w_8 =>
 xcond a5c
 (j1 [a5c] w_8)
 (oP E (xBin .eql 9 (.tmp 3) (.const (Value.string ⟨#[101, 108, 115, 101]⟩)) x0 (Value.string ⟨#[101, 108, 115, 101]⟩)) w_8 fun a8e o7 =>
 xcond a8e
 (j1 [a8e] o7)
 (oP E (xBin .eql 9 (.tmp 3) (.const (Value.string ⟨#[119, 104, 105, 108, 101]⟩)) x0 (Value.string ⟨#[119, 104, 105, 108, 101]⟩)) o7 fun a5p o4 =>
 xcond a5p
 (j1 [a5p] o4)
 (oP E (xBin .eql 9 (.tmp 3) (.const (Value.string ⟨#[97, 115, 115, 101, 114, 116]⟩)) x0 (Value.string ⟨#[97, 115, 115, 101, 114, 116]⟩)) o4 fun a9g o8 =>
 xcond a9g
 (j1 [a9g] o8)
 (oP E (xBin .eql 9 (.tmp 3) (.const (Value.string ⟨#[97, 115, 115, 117, 109, 101]⟩)) x0 (Value.string ⟨#[97, 115, 115, 117, 109, 101]⟩)) o8 fun a8n s6 =>
 xcond a8n
 (j1 [a8n] s6)
 (oP E (xBin .eql 9 (.tmp 3) (.const (Value.string ⟨#[115, 107, 105, 112]⟩)) x0 (Value.string ⟨#[115, 107, 105, 112]⟩)) s6 fun a8o v7 =>
 xcond a8o
 (j1 [a8o] v7)
 (oP E (xBin .eql 9 (.tmp 3) (.const (Value.string ⟨#[105, 110, 112, 117, 116]⟩)) x0 (Value.string ⟨#[105, 110, 112, 117, 116]⟩)) v7 fun a8p u1 =>
 xcond a8p
 (j1 [a8p] u1)
 (oP E (xBin .eql 9 (.tmp 3) (.const (Value.string ⟨#[116, 114, 117, 101]⟩)) x0 (Value.string ⟨#[116, 114, 117, 101]⟩)) u1 fun b0D v8 =>
 xcond b0D
 (j1 [b0D] v8)
 (oP E (xBin .eql 9 (.tmp 3) (.const (Value.string ⟨#[102, 97, 108, 115, 101]⟩)) x0 (Value.string ⟨#[102, 97, 108, 115, 101]⟩)) v8 fun b2d y6 =>
 j1 [b2d] y6))))))))))
noncomputable def f1v : Code := Tryd.f139.body.getD .skip
def f1w : Hint := (sQ (.seq (sQ (.block (.cut [4] (sQ (.cond .none (sQ (.cond .none (sQ (.cond .none (sQ (.cond .none (sQ (.cond .none (sQ (.cond .none (sQ (.cond .none (sQ (.cond .none (sQ (.cond .none (sQ (.cond .none .none)))))))))))))))))))) (.cond (sQ .none) .none)))) (sQ .none)))
theorem e4N (x0 : Value) (w : World) (R : RT) (E : Pan) : d2A x0 w R E = callX Tryd.prog [.tmp 2] f1v f1w [x0] w R E := by kernel_rfl
theorem e4O {x0 : Value} (h : d2A x0 w R E) : Cv Tryd.prog 139 #[x0] w R E := by
 refine f8 (args := [x0]) (c := f1v) (h := f1w) (rs := [.tmp 2]) Tryd.func139 (by kernel_rfl) (by kernel_rfl) (nB (by kernel_rfl)) (by kernel_rfl) (by kernel_rfl) (by kernel_rfl) ?_
 rw [← e4N]
 exact h
def d2B (x0 : Value) (w : World) (R : RT) (E : Pan) : Prop :=
 oP E (xCall (fC 141) [x0]) w fun c7V w_2 =>
 oP E (xBin .eql 3 (.tmp 6) (.const (vI 3)) c7V (vI 3)) w_2 fun b2j w_4 =>
 oP E (gsem (asB b2j) false (xBin .eql 3 (.tmp 9) (.const (vI 4)) (gval (asB b2j) false c7V) (vI 4))) w_4 fun a9j w_6 =>
 oP E (xPick b2j (vB true) a9j) w_6 fun b1n w_8 =>
 R b1n w_8
noncomputable def f1x : Code := Tryd.f140.body.getD .skip
def f1y : Hint := (sQ (sQ (sQ .none)))
theorem e4P (x0 : Value) (w : World) (R : RT) (E : Pan) : d2B x0 w R E = callX Tryd.prog [.tmp 2] f1x f1y [x0] w R E := by kernel_rfl
theorem e4Q {x0 : Value} (h : d2B x0 w R E) : Cv Tryd.prog 140 #[x0] w R E := by
 refine f8 (args := [x0]) (c := f1x) (h := f1y) (rs := [.tmp 2]) Tryd.func140 (by kernel_rfl) (by kernel_rfl) (nB (by kernel_rfl)) (by kernel_rfl) (by kernel_rfl) (by kernel_rfl) ?_
 rw [← e4P]
 exact h
def c4L (x39 : Value) (w : World) (R : RT) (_E : Pan) : Prop :=
 ∀ _τ : Fr, (xcond x39
 (R (vI 3) w)
 (R (vI 6) w))
def c4M (x1 x31 : Value) (w : World) (R : RT) (E : Pan) : Prop :=
 ∀ _τ : Fr, (xcond x31
 (R (vI 6) w)
 (oP E (xV (Instr.makeFunc (.func 151) #[] #[x1])) w fun b9H w_8 =>
 oP E (xCall b9H [(Value.int .i32 48), (Value.int .i32 57)]) w_8 fun g1U o7 =>
 xcond g1U
 (R (vI 4) o7)
 (xcut (fun d2C o4 => c4L (nth d2C 0) o4 R E) fun j4 =>
 oP E (lA 21 x1) o7 fun f1z o8 =>
 oP E (xBin .eql 21 (.tmp 40) (.const (Value.int .i32 95)) f1z (Value.int .i32 95)) o8 fun d6U s6 =>
 xcond d6U
 (j4 [d6U] s6)
 (oP E (xCall b9H [(Value.int .i32 97), (Value.int .i32 122)]) s6 fun d6V v7 =>
 xcond d6V
 (j4 [d6V] v7)
 (oP E (xCall b9H [(Value.int .i32 65), (Value.int .i32 90)]) v7 fun d6W u1 =>
 xcond d6W
 (j4 [d6W] u1)
 (oP E (xCall b9H [(Value.int .i32 192), (Value.int .i32 591)]) u1 fun d6X v8 =>
 xcond d6X
 (j4 [d6X] v8)
 (oP E (xCall b9H [(Value.int .i32 913), (Value.int .i32 969)]) v8 fun d6Y y6 =>
 xcond d6Y
 (j4 [d6Y] y6)
 (oP E (xCall b9H [(Value.int .i32 1040), (Value.int .i32 1103)]) y6 fun f1A z6 =>
 j4 [f1A] z6))))))))
def c4N (x1 x4 x11 : Value) (w : World) (R : RT) (E : Pan) : Prop :=
 ∀ _τ : Fr, (xcond x11
 (R (vI 5) w)
 (xcut (fun b0T E5 => c4M x1 (nth b0T 0) E5 R E) fun j3 =>
 oP E (xBin .eql 21 (.tmp 4) (.const (Value.int .i32 215)) x4 (Value.int .i32 215)) w fun c2S E1 =>
 xcond c2S
 (j3 [c2S] E1)
 (oP E (xBin .eql 21 (.tmp 4) (.const (Value.int .i32 247)) x4 (Value.int .i32 247)) E1 fun d6Z E2 =>
 xcond d6Z
 (j3 [d6Z] E2)
 (oP E (xBin .eql 21 (.tmp 4) (.const (Value.int .i32 930)) x4 (Value.int .i32 930)) E2 fun c7W E3 =>
 j3 [c7W] E3))))
def c4O (x1 x4 x5 : Value) (w : World) (R : RT) (E : Pan) : Prop :=
 ∀ _τ : Fr, (xcond x5
 (R (vI 1) w)
 (oP E (xBin .eql 21 (.tmp 4) (.const (Value.int .i32 10)) x4 (Value.int .i32 10)) w fun a9j w_6 =>
 xcond a9j
 (R (vI 2) w_6)
 (xcut (fun c7X L2 => c4N x1 x4 (nth c7X 0) L2 R E) fun j2 =>
 oP E (xBin .eql 21 (.tmp 4) (.const (Value.int .i32 59)) x4 (Value.int .i32 59)) w_6 fun d7a L4 =>
 xcond d7a
 (j2 [d7a] L4)
 (oP E (xBin .eql 21 (.tmp 4) (.const (Value.int .i32 44)) x4 (Value.int .i32 44)) L4 fun d7b L9 =>
 xcond d7b
 (j2 [d7b] L9)
 (oP E (xBin .eql 21 (.tmp 4) (.const (Value.int .i32 123)) x4 (Value.int .i32 123)) L9 fun d7c M4 =>
 xcond d7c
 (j2 [d7c] M4)
 (oP E (xBin .eql 21 (.tmp 4) (.const (Value.int .i32 125)) x4 (Value.int .i32 125)) M4 fun d7d N8 =>
 xcond d7d
 (j2 [d7d] N8)
 (oP E (xBin .eql 21 (.tmp 4) (.const (Value.int .i32 40)) x4 (Value.int .i32 40)) N8 fun c2T V1 =>
 xcond c2T
 (j2 [c2T] V1)
 (oP E (xBin .eql 21 (.tmp 4) (.const (Value.int .i32 41)) x4 (Value.int .i32 41)) V1 fun d7e V2 =>
 xcond d7e
 (j2 [d7e] V2)
 (oP E (xBin .eql 21 (.tmp 4) (.const (Value.int .i32 91)) x4 (Value.int .i32 91)) V2 fun c2U Q3 =>
 xcond c2U
 (j2 [c2U] Q3)
 (oP E (xBin .eql 21 (.tmp 4) (.const (Value.int .i32 93)) x4 (Value.int .i32 93)) Q3 fun d7f R6 =>
 xcond d7f
 (j2 [d7f] R6)
 (oP E (xBin .eql 21 (.tmp 4) (.const (Value.int .i32 61)) x4 (Value.int .i32 61)) R6 fun d7g W0 =>
 xcond d7g
 (j2 [d7g] W0)
 (oP E (xBin .eql 21 (.tmp 4) (.const (Value.int .i32 33)) x4 (Value.int .i32 33)) W0 fun d7h X0 =>
 xcond d7h
 (j2 [d7h] X0)
 (oP E (xBin .eql 21 (.tmp 4) (.const (Value.int .i32 60)) x4 (Value.int .i32 60)) X0 fun d7i Y9 =>
 xcond d7i
 (j2 [d7i] Y9)
 (oP E (xBin .eql 21 (.tmp 4) (.const (Value.int .i32 62)) x4 (Value.int .i32 62)) Y9 fun d7j W1 =>
 xcond d7j
 (j2 [d7j] W1)
 (oP E (xBin .eql 21 (.tmp 4) (.const (Value.int .i32 43)) x4 (Value.int .i32 43)) W1 fun d7k U0 =>
 xcond d7k
 (j2 [d7k] U0)
 (oP E (xBin .eql 21 (.tmp 4) (.const (Value.int .i32 45)) x4 (Value.int .i32 45)) U0 fun d7l Z0 =>
 xcond d7l
 (j2 [d7l] Z0)
 (oP E (xBin .eql 21 (.tmp 4) (.const (Value.int .i32 42)) x4 (Value.int .i32 42)) Z0 fun d7m X6 =>
 xcond d7m
 (j2 [d7m] X6)
 (oP E (xBin .eql 21 (.tmp 4) (.const (Value.int .i32 47)) x4 (Value.int .i32 47)) X6 fun d7n X7 =>
 xcond d7n
 (j2 [d7n] X7)
 (oP E (xBin .eql 21 (.tmp 4) (.const (Value.int .i32 37)) x4 (Value.int .i32 37)) X7 fun d7o Z1 =>
 xcond d7o
 (j2 [d7o] Z1)
 (oP E (xBin .eql 21 (.tmp 4) (.const (Value.int .i32 38)) x4 (Value.int .i32 38)) Z1 fun d7p a1t =>
 xcond d7p
 (j2 [d7p] a1t)
 (oP E (xBin .eql 21 (.tmp 4) (.const (Value.int .i32 124)) x4 (Value.int .i32 124)) a1t fun f1B a1V =>
 j2 [f1B] a1V)))))))))))))))))))))
def d2D (x0 : Value) (w : World) (R : RT) (E : Pan) : Prop :=
 oP E (xV (Instr.box 21 x0)) w fun o5 w_2 =>
 oP E (lA 21 o5) w_2 fun a6e w_4 =>
 xcut (fun g4Z a3k => c4O o5 a6e (nth g4Z 0) a3k R E) fun j1 =>
 oP E (xBin .eql 21 (.tmp 4) (.const (Value.int .i32 32)) a6e (Value.int .i32 32)) w_4 fun e2Q a3l =>
 xcond e2Q
 (j1 [e2Q] a3l)
 (oP E (xBin .eql 21 (.tmp 4) (.const (Value.int .i32 9)) a6e (Value.int .i32 9)) a3l fun e2R a3Z =>
 xcond e2R
 (j1 [e2R] a3Z)
 (oP E (xBin .eql 21 (.tmp 4) (.const (Value.int .i32 13)) a6e (Value.int .i32 13)) a3Z fun g1V a4x =>
 j1 [g1V] a4x))
noncomputable def f1C : Code := Tryd.f141.body.getD .skip
def f1D : Hint := (sQ (.seq (sQ (.block (.cut [5] (sQ (.cond .none (sQ (.cond .none .none)))) (.cond (sQ .none) (sQ (.cond (sQ .none) (.cut [11] (sQ (.cond .none (sQ (.cond .none (sQ (.cond .none (sQ (.cond .none (sQ (.cond .none (sQ (.cond .none (sQ (.cond .none (sQ (.cond .none (sQ (.cond .none (sQ (.cond .none (sQ (.cond .none (sQ (.cond .none (sQ (.cond .none (sQ (.cond .none (sQ (.cond .none (sQ (.cond .none (sQ (.cond .none (sQ (.cond .none .none)))))))))))))))))))))))))))))))))))) (.cond (sQ .none) (.cut [31] (sQ (.cond .none (sQ (.cond .none .none)))) (.cond (sQ .none) .none)))))))))) (sQ (.seq (.block (sQ (.cond (sQ .none) (.cut [39] (sQ (.cond .none (sQ (.cond .none (sQ (.cond .none (sQ (.cond .none (sQ (.cond .none .none)))))))))) (.cond (sQ .none) .none))))) (sQ .none)))))
theorem e4R (x0 : Value) (w : World) (R : RT) (E : Pan) : d2D x0 w R E = callX Tryd.prog [.tmp 2] f1C f1D [x0] w R E := by kernel_rfl
theorem e4S {x0 : Value} (h : d2D x0 w R E) : Cv Tryd.prog 141 #[x0] w R E := by
 refine f8 (args := [x0]) (c := f1C) (h := f1D) (rs := [.tmp 2]) Tryd.func141 (by kernel_rfl) (by kernel_rfl) (nB (by kernel_rfl)) (by kernel_rfl) (by kernel_rfl) (by kernel_rfl) ?_
 rw [← e4R]
 exact h
def c4P (w : World) (R : RT) (_E : Pan) : Prop :=
 ∀ _τ : Fr, (R (vI (-1)) w)
def d1E (x0 x1 x7 x8 : Value) (w : World) (next2 : NT) (j1 : NT) (R : RT) (E : Pan) : Prop :=
 oP E (xBin .lss 3 (.tmp 8) (.tmp 7) x8 x7) w fun c4Q w_6 =>
 xcond c4Q
 (oP E (iA 104 x0 x8) w_6 fun a4Q w_8 =>
 oP E (lA 9 a4Q) w_8 fun d2E o7 =>
 oP E (xBin .eql 9 (.tmp 11) (.tmp 15) x1 d2E) o7 fun a7m o4 =>
 xcond a7m
 (R x8 o4)
 (oP E (xBin .add 3 (.tmp 8) (.const (vI 1)) x8 (vI 1)) o4 fun b8q o8 =>
 next2 [b8q] o8))
 (j1 [] w_6)
def d2F (x0 x1 : Value) (w : World) (R : RT) (E : Pan) : Prop :=
 xcut (fun _ w_2 => c4P w_2 R E) fun j1 =>
 oP E (xBuiltin .len #[104] 3 [false] [x0]) w fun b2j w_4 =>
 xloop [8] [(vI 0)] w_4 fun τ_15 s6 next2 =>
 d1E x0 x1 b2j (τ_15 8) s6 next2 j1 R E
noncomputable def f1E : Code := Tryd.f142.body.getD .skip
def f1F : Hint := (sQ (.cut [] (sQ (.block (.loop [8] (sQ (.seq (.cond .none .none) (.seq (.block (sQ (sQ (.cond (sQ .none) .none)))) .none)))))) (sQ .none)))
theorem e4T (x0 x1 : Value) (w : World) (R : RT) (E : Pan) : d2F x0 x1 w R E = callX Tryd.prog [.tmp 4] f1E f1F [x0, x1] w R E := by kernel_rfl
theorem e4U {x0 x1 : Value} (h : d2F x0 x1 w R E) : Cv Tryd.prog 142 #[x0, x1] w R E := by
 refine f8 (args := [x0, x1]) (c := f1E) (h := f1F) (rs := [.tmp 4]) Tryd.func142 (by kernel_rfl) (by kernel_rfl) (nB (by kernel_rfl)) (by kernel_rfl) (by kernel_rfl) (by kernel_rfl) ?_
 rw [← e4T]
 exact h
def c4R (x2 : Value) (w : World) (R : RT) (_E : Pan) : Prop :=
 ∀ _τ : Fr, (R x2 w)
def d1F (x2 x4 : Value) (w : World) (next2 : NT) (j1 : NT) (_R : RT) (E : Pan) : Prop :=
 oP E (xV (Instr.next x4 true 0)) w fun a5J w_6 =>
 oP E (eX a5J 0) w_6 fun a0C w_8 =>
 xcond a0C
 (oP E (xBin .add 3 (.tmp 7) (.const (vI 1)) x2 (vI 1)) w_8 fun a8e o7 =>
 next2 [a8e] o7)
 (j1 [x2] w_8)
def d2G (x0 : Value) (w : World) (R : RT) (E : Pan) : Prop :=
 xcut (fun l_1 w_2 => c4R (nth l_1 0) w_2 R E) fun j1 =>
 oP E (xV (Instr.range 9 x0)) w fun a6e w_4 =>
 xloop [2] [(vI 0)] w_4 fun τ_11 o4 next2 =>
 d1F (τ_11 2) a6e o4 next2 j1 R E
noncomputable def f1G : Code := Tryd.f150.body.getD .skip
def f1H : Hint := (sQ (.cut [2] (sQ (.block (.loop [2] (sQ (.seq (.cond .none .none) (.block .none)))))) (sQ .none)))
theorem e4V (x0 : Value) (w : World) (R : RT) (E : Pan) : d2G x0 w R E = callX Tryd.prog [.tmp 2] f1G f1H [x0] w R E := by kernel_rfl
theorem e4W {x0 : Value} (h : d2G x0 w R E) : Cv Tryd.prog 150 #[x0] w R E := by
 refine f8 (args := [x0]) (c := f1G) (h := f1H) (rs := [.tmp 2]) Tryd.func150 (by kernel_rfl) (by kernel_rfl) (nB (by kernel_rfl)) (by kernel_rfl) (by kernel_rfl) (by kernel_rfl) ?_
 rw [← e4V]
 exact h
def d2H (x0 x1 x2 : Value) (w : World) (R : RT) (E : Pan) : Prop :=
 oP E (lA 21 x2) w fun a6f w_2 =>
 oP E (xBin .leq 21 (.tmp 6) (.tmp 7) x0 a6f) w_2 fun b8w w_4 =>
 oP E (gsem (asB b8w) true (lA 21 x2)) w_4 fun a9j w_6 =>
 oP E (gsem (asB b8w) true (xBin .leq 21 (.tmp 10) (.tmp 11) a9j (gval (asB b8w) true x1))) w_6 fun a3x w_8 =>
 oP E (xPick b8w a3x (vB false)) w_8 fun a3y o7 =>
 R a3y o7
noncomputable def f1I : Code := Tryd.f151.body.getD .skip
def f1J : Hint := (sQ (sQ .none))
theorem e4X (x0 x1 x2 : Value) (w : World) (R : RT) (E : Pan) : d2H x0 x1 x2 w R E = callX Tryd.prog [.tmp 5] f1I f1J [x0, x1, x2] w R E := by kernel_rfl
theorem e4Y {x0 x1 x2 : Value} (h : d2H x0 x1 x2 w R E) : Cv Tryd.prog 151 #[x0, x1, x2] w R E := by
 refine f8 (args := [x0, x1, x2]) (c := f1I) (h := f1J) (rs := [.tmp 5]) Tryd.func151 (by kernel_rfl) (by kernel_rfl) (nB (by kernel_rfl)) (by kernel_rfl) (by kernel_rfl) (by kernel_rfl) ?_
 rw [← e4X]
 exact h
def c4S (x3 x59 : Value) (w : World) (R : RT) (E : Pan) : Prop :=
 ∀ _τ : Fr, (xcond x59
 (oP E (xBin .eql 3 (.tmp 65) (.const (vI 2)) x3 (vI 2)) w fun f1K a3l =>
 R f1K a3l)
 (R (vB false) w))
def c4T (x3 x38 x54 : Value) (w : World) (R : RT) (E : Pan) : Prop :=
 ∀ _τ : Fr, (xcond x54
 (oP E (xBin .eql 3 (.tmp 57) (.const (vI 1)) x3 (vI 1)) w fun f1L a3k =>
 R f1L a3k)
 (xcut (fun c7Y a3Z => c4S x3 (nth c7Y 0) a3Z R E) fun j3 =>
 oP E (xBin .eql 3 (.tmp 38) (.const (vI 6)) x38 (vI 6)) w fun b2m a4x =>
 xcond b2m
 (j3 [b2m] a4x)
 (oP E (xBin .eql 3 (.tmp 38) (.const (vI 7)) x38 (vI 7)) a4x fun d7q a4y =>
 xcond d7q
 (j3 [d7q] a4y)
 (oP E (xBin .eql 3 (.tmp 38) (.const (vI 8)) x38 (vI 8)) a4y fun d7r a5d =>
 xcond d7r
 (j3 [d7r] a5d)
 (oP E (xBin .eql 3 (.tmp 38) (.const (vI 9)) x38 (vI 9)) a5d fun d7s a4a =>
 xcond d7s
 (j3 [d7s] a4a)
 (oP E (xBin .eql 3 (.tmp 38) (.const (vI 10)) x38 (vI 10)) a4a fun f1M a6V =>
 j3 [f1M] a6V))))))
def c4U (x3 x38 x49 : Value) (w : World) (R : RT) (E : Pan) : Prop :=
 ∀ _τ : Fr, (xcond x49
 (oP E (xBin .eql 3 (.tmp 52) (.const (vI 0)) x3 (vI 0)) w fun b8s a1V =>
 R b8s a1V)
 (xcut (fun g5a a7l => c4T x3 x38 (nth g5a 0) a7l R E) fun j2 =>
 oP E (xBin .eql 3 (.tmp 38) (.const (vI 4)) x38 (vI 4)) w fun d7t a1W =>
 xcond d7t
 (j2 [d7t] a1W)
 (oP E (xBin .eql 3 (.tmp 38) (.const (vI 5)) x38 (vI 5)) a1W fun f1N a8f =>
 j2 [f1N] a8f)))
def d2I (x0 : Value) (w : World) (R : RT) (E : Pan) : Prop :=
 oP E (xV (Instr.box 123 x0)) w fun o5 w_2 =>
 oP E (fA 123 o5 0) w_2 fun b6k w_4 =>
 oP E (fA 24 b6k 3) w_4 fun a8D w_6 =>
 oP E (lA 22 a8D) w_6 fun a5I w_8 =>
 oP E (xBuiltin .len #[22] 3 [false] [a5I]) w_8 fun a9e o7 =>
 oP E (lA 123 o5) o7 fun a9i o4 =>
 oP E (xV (Instr.makeInterface 123 a9i)) o4 fun b8t o8 =>
 oP E (xCall (fC 118) [b8t]) o8 fun a7n s6 =>
 oP E (eX a7n 0) s6 fun _t14_17 v7 =>
 oP E (eX a7n 1) v7 fun a5N u1 =>
 oP E (fA 123 o5 0) u1 fun a7o v8 =>
 oP E (fA 24 a7o 0) v8 fun c7Z y6 =>
 oP E (lA 3 c7Z) y6 fun b8x z6 =>
 oP E (xBin .neq 3 (.tmp 18) (.const (vI 1)) b8x (vI 1)) z6 fun a9h E5 =>
 oP E (gsem (asB a9h) true (fA 123 o5 0)) E5 fun f1O E1 =>
 oP E (gsem (asB a9h) true (fA 24 f1O 1)) E1 fun f1P E2 =>
 oP E (gsem (asB a9h) true (lA 2 f1P)) E2 fun f1Q E3 =>
 oP E (gsem (asB a9h) true (xBin .neq 2 (.tmp 23) (.const (vI 0)) f1Q (vI 0))) E3 fun f1R L2 =>
 oP E (xPick a9h f1R (vB false)) L2 fun a9r L4 =>
 oP E (gsem (asB a9r) false (xV (Op.unary .not (gval (asB a9r) false a5N)))) L4 fun b8y L9 =>
 oP E (gsem (asB (gval (asB a9r) false b8y)) true (fA 123 o5 0)) L9 fun f1S M4 =>
 oP E (gsem (asB (gval (asB a9r) false b8y)) true (fA 24 f1S 2)) M4 fun f1T N8 =>
 oP E (gsem (asB (gval (asB a9r) false b8y)) true (lA 9 f1T)) N8 fun f1U V1 =>
 oP E (gsem (asB (gval (asB a9r) false b8y)) true (xBin .neq 9 (.tmp 32) (.const (eS)) f1U (eS))) V1 fun f1V V2 =>
 oP E (gsem (asB a9r) false (xPick (gval (asB a9r) false b8y) f1V (vB false))) V2 fun f1W Q3 =>
 oP E (xPick a9r (vB true) f1W) Q3 fun f1X R6 =>
 xcond f1X
 (R (vB false) R6)
 (oP E (fA 123 o5 0) R6 fun c7T W0 =>
 oP E (fA 24 c7T 0) W0 fun f1Y X0 =>
 oP E (lA 3 f1Y) X0 fun c2V Y9 =>
 oP E (xBin .eql 3 (.tmp 38) (.const (vI 1)) c2V (vI 1)) Y9 fun f1Z W1 =>
 xcond f1Z
 (oP E (fA 123 o5 0) W1 fun f2a U0 =>
 oP E (fA 24 f2a 1) U0 fun f2b Z0 =>
 oP E (lA 2 f2b) Z0 fun f2c X6 =>
 oP E (xBin .geq 2 (.tmp 43) (.const (vI 0)) f2c (vI 0)) X6 fun b8z X7 =>
 oP E (gsem (asB b8z) true (xBin .eql 3 (.tmp 46) (.const (vI 0)) (gval (asB b8z) true a9e) (vI 0))) X7 fun f2d Z1 =>
 oP E (xPick b8z f2d (vB false)) Z1 fun f2e a1t =>
 R f2e a1t)
 (xcut (fun f2f a9P => c4U a9e c2V (nth f2f 0) a9P R E) fun j1 =>
 oP E (xBin .eql 3 (.tmp 38) (.const (vI 2)) c2V (vI 2)) W1 fun d7u a4P =>
 xcond d7u
 (j1 [d7u] a4P)
 (oP E (xBin .eql 3 (.tmp 38) (.const (vI 3)) c2V (vI 3)) a4P fun e4Z a4f =>
 j1 [e4Z] a4f)))
noncomputable def f2g : Code := Tryd.f169.body.getD .skip
def f2h : Hint := (sQ (sQ (sQ (.seq (sQ (.cond (sQ .none) .none)) (.seq (sQ (.block (sQ (.cond (sQ .none) (.cut [49] (sQ (.cond .none .none)) (.cond (sQ .none) (.cut [54] (sQ (.cond .none .none)) (.cond (sQ .none) (.cut [59] (sQ (.cond .none (sQ (.cond .none (sQ (.cond .none (sQ (.cond .none .none)))))))) (.cond (sQ .none) .none)))))))))) (sQ .none))))))
theorem e5a (x0 : Value) (w : World) (R : RT) (E : Pan) : d2I x0 w R E = callX Tryd.prog [.tmp 2] f2g f2h [x0] w R E := by kernel_rfl
theorem e5b {x0 : Value} (h : d2I x0 w R E) : Cv Tryd.prog 169 #[x0] w R E := by
 refine f8 (args := [x0]) (c := f2g) (h := f2h) (rs := [.tmp 2]) Tryd.func169 (by kernel_rfl) (by kernel_rfl) (nB (by kernel_rfl)) (by kernel_rfl) (by kernel_rfl) (by kernel_rfl) ?_
 rw [← e5a]
 exact h
def d2J (x0 : Value) (w : World) (R : RT) (E : Pan) : Prop :=
 oP E (xV (Instr.box 123 x0)) w fun o5 w_2 =>
 oP E (fA 123 o5 0) w_2 fun S7 w_4 =>
 oP E (fA 24 S7 3) w_4 fun a3j w_6 =>
 oP E (lA 22 a3j) w_6 fun a6d w_8 =>
 oP E (xCall (fC 171) [a6d, (fC 172)]) w_8 fun a9O o7 =>
 R a9O o7
noncomputable def f2i : Code := Tryd.f170.body.getD .skip
def f2j : Hint := (sQ (sQ .none))
theorem e5c (x0 : Value) (w : World) (R : RT) (E : Pan) : d2J x0 w R E = callX Tryd.prog [.tmp 2] f2i f2j [x0] w R E := by kernel_rfl
theorem e5d {x0 : Value} (h : d2J x0 w R E) : Cv Tryd.prog 170 #[x0] w R E := by
 refine f8 (args := [x0]) (c := f2i) (h := f2j) (rs := [.tmp 2]) Tryd.func170 (by kernel_rfl) (by kernel_rfl) (nB (by kernel_rfl)) (by kernel_rfl) (by kernel_rfl) (by kernel_rfl) ?_
 rw [← e5c]
 exact h
def c4V (x5 : Value) (w : World) (R : RT) (_E : Pan) : Prop :=
 ∀ _τ : Fr, (R x5 w)
def d1G (x1 x5 x8 x9 x10 : Value) (w : World) (next2 : NT) (j1 : NT) (_R : RT) (E : Pan) : Prop :=
 oP E (xBin .lss 3 (.tmp 10) (.tmp 9) x10 x9) w fun a4O w_6 =>
 xcond a4O
 (oP E (iA 22 x8 x10) w_6 fun a3x w_8 =>
 oP E (lA 24 a3x) w_8 fun a3y o7 =>
 oP E (xV (Instr.alloc 24 true (.tuple #[]))) o7 fun S5 o4 =>
 oP E (sA 24 S5 a3y) o4 fun _z_13 o8 =>
 oP E (lA 24 S5) o8 fun a2K s6 =>
 oP E (xCall x1 [a2K]) s6 fun a2L v7 =>
 oP E (xV (Instr.buildSlice 124 1 #[(0, a2L)])) v7 fun a2M u1 =>
 oP E (xBuiltin .append #[124, 124] 124 [false, false] [x5, a2M]) u1 fun a2N v8 =>
 oP E (xBin .add 3 (.tmp 10) (.const (vI 1)) x10 (vI 1)) v8 fun a0U y6 =>
 next2 [a2N, a0U] y6)
 (j1 [x5] w_6)
def d2K (x0 x1 : Value) (w : World) (R : RT) (E : Pan) : Prop :=
 xcut (fun l_1 w_2 => c4V (nth l_1 0) w_2 R E) fun j1 =>
 oP E (xBuiltin .len #[22] 3 [false] [x0]) w fun a3Y w_4 =>
 xloop [5, 10] [(nS), (vI 0)] w_4 fun τ_25 z6 next2 =>
 d1G x1 (τ_25 5) x0 a3Y (τ_25 10) z6 next2 j1 R E
noncomputable def f2k : Code := Tryd.f171.body.getD .skip
def f2l : Hint := (sQ (sQ (.cut [5] (sQ (.block (.loop [5, 10] (sQ (.seq (.cond .none .none) (.seq (.block (sQ .none)) .none)))))) (sQ .none))))
theorem e5e (x0 x1 : Value) (w : World) (R : RT) (E : Pan) : d2K x0 x1 w R E = callX Tryd.prog [.tmp 4] f2k f2l [x0, x1] w R E := by kernel_rfl
theorem e5f {x0 x1 : Value} (h : d2K x0 x1 w R E) : Cv Tryd.prog 171 #[x0, x1] w R E := by
 refine f8 (args := [x0, x1]) (c := f2k) (h := f2l) (rs := [.tmp 4]) Tryd.func171 (by kernel_rfl) (by kernel_rfl) (nB (by kernel_rfl)) (by kernel_rfl) (by kernel_rfl) (by kernel_rfl) ?_
 rw [← e5e]
 exact h
def d2L (x0 : Value) (w : World) (R : RT) (E : Pan) : Prop :=
 oP E (xV (Instr.box 24 x0)) w fun o5 w_2 =>
 oP E (lA 24 o5) w_2 fun S7 w_4 =>
 oP E (xV (Instr.build 123 #[(0, S7)])) w_4 fun a3j w_6 =>
 oP E (xV (Instr.makeInterface 123 a3j)) w_6 fun a6d w_8 =>
 R a6d w_8
noncomputable def f2m : Code := Tryd.f172.body.getD .skip
def f2n : Hint := (sQ (sQ .none))
theorem e5g (x0 : Value) (w : World) (R : RT) (E : Pan) : d2L x0 w R E = callX Tryd.prog [.tmp 2] f2m f2n [x0] w R E := by kernel_rfl
theorem e5h {x0 : Value} (h : d2L x0 w R E) : Cv Tryd.prog 172 #[x0] w R E := by
 refine f8 (args := [x0]) (c := f2m) (h := f2n) (rs := [.tmp 2]) Tryd.func172 (by kernel_rfl) (by kernel_rfl) (nB (by kernel_rfl)) (by kernel_rfl) (by kernel_rfl) (by kernel_rfl) ?_
 rw [← e5g]
 exact h
def c4W (x3 x50 : Value) (w : World) (R : RT) (E : Pan) : Prop :=
 ∀ _τ : Fr, (xcond x50
 (oP E (lA 223 x3) w fun c8a a4a =>
 oP E (xV (Instr.build 223 #[(0, (vI 0)), (1, (vI 2))])) a4a fun c8b a6V =>
 oP E (xBin .eql 223 (.tmp 53) (.tmp 54) c8a c8b) a6V fun c8c a7l =>
 R c8c a7l)
 (R (vB false) w))
def c4X (x3 x38 x39 : Value) (w : World) (R : RT) (E : Pan) : Prop :=
 ∀ _τ : Fr, (xcond x39
 (oP E (lA 223 x3) w fun f2o a1V =>
 oP E (xV (Instr.build 223 #[])) a1V fun f2p a3k =>
 oP E (xBin .eql 223 (.tmp 42) (.tmp 43) f2o f2p) a3k fun f2q a3l =>
 R f2q a3l)
 (oP E (xBin .eql 3 (.tmp 38) (.const (vI 4)) x38 (vI 4)) w fun f2r a3Z =>
 xcond f2r
 (oP E (lA 223 x3) a3Z fun f2s a4x =>
 oP E (xV (Instr.build 223 #[(0, (vI 0)), (1, (vI 1))])) a4x fun f2t a4y =>
 oP E (xBin .eql 223 (.tmp 47) (.tmp 48) f2s f2t) a4y fun f2u a5d =>
 R f2u a5d)
 (xcut (fun c8d a1W => c4W x3 (nth c8d 0) a1W R E) fun j2 =>
 oP E (xBin .eql 3 (.tmp 38) (.const (vI 5)) x38 (vI 5)) a3Z fun d7v a8f =>
 xcond d7v
 (j2 [d7v] a8f)
 (oP E (xBin .eql 3 (.tmp 38) (.const (vI 6)) x38 (vI 6)) a8f fun f2v a9P =>
 j2 [f2v] a9P))))
def d2M (x0 : Value) (w : World) (R : RT) (E : Pan) : Prop :=
 oP E (xV (Instr.box 138 x0)) w fun o5 w_2 =>
 oP E (fA 138 o5 0) w_2 fun a6e w_4 =>
 oP E (fA 27 a6e 2) w_4 fun a5J w_6 =>
 oP E (lA 22 a5J) w_6 fun a0C w_8 =>
 oP E (xBuiltin .len #[22] 3 [false] [a0C]) w_8 fun b2c o7 =>
 oP E (fA 138 o5 0) o7 fun a9k o4 =>
 oP E (fA 27 a9k 3) o4 fun Z4 o8 =>
 oP E (lA 25 Z4) o8 fun c8e s6 =>
 oP E (xBuiltin .len #[25] 3 [false] [c8e]) s6 fun b5p v7 =>
 oP E (xV (Instr.build 223 #[(0, b2c), (1, b5p)])) v7 fun b0F u1 =>
 oP E (xV (Instr.alloc 223 true (.tuple #[]))) u1 fun d2N v8 =>
 oP E (sA 223 d2N b0F) v8 fun _z_23 y6 =>
 oP E (fA 138 o5 0) y6 fun c8f z6 =>
 oP E (fA 27 c8f 0) z6 fun f2w E5 =>
 oP E (lA 3 f2w) E5 fun f2x E1 =>
 oP E (xBin .eql 3 (.tmp 15) (.const (vI 3)) f2x (vI 3)) E1 fun f2y E2 =>
 xcond f2y
 (oP E (fA 138 o5 0) E2 fun c7I E3 =>
 oP E (fA 27 c7I 1) E3 fun b8p L2 =>
 oP E (lA 3 b8p) L2 fun f2z L4 =>
 oP E (xBin .geq 3 (.tmp 19) (.const (vI 1)) f2z (vI 1)) L4 fun b8A L9 =>
 oP E (gsem (asB b8A) true (fA 138 o5 0)) L9 fun f2A M4 =>
 oP E (gsem (asB b8A) true (fA 27 f2A 1)) M4 fun f2B N8 =>
 oP E (gsem (asB b8A) true (lA 3 f2B)) N8 fun f2C V1 =>
 oP E (gsem (asB b8A) true (xBin .leq 3 (.tmp 24) (.const (vI 6)) f2C (vI 6))) V1 fun f2D V2 =>
 oP E (xPick b8A f2D (vB false)) V2 fun c2W Q3 =>
 oP E (gsem (asB c2W) true (lA 223 d2N)) Q3 fun b8B R6 =>
 oP E (gsem (asB c2W) true (xV (Instr.build 223 #[(0, (vI 2)), (1, (vI 0))]))) R6 fun f2E W0 =>
 oP E (gsem (asB c2W) true (xBin .eql 223 (.tmp 28) (.tmp 29) b8B f2E)) W0 fun f2F X0 =>
 oP E (xPick c2W f2F (vB false)) X0 fun f2G Y9 =>
 R f2G Y9)
 (oP E (fA 138 o5 0) E2 fun c8g W1 =>
 oP E (fA 27 c8g 1) W1 fun c8h U0 =>
 oP E (lA 3 c8h) U0 fun c8i Z0 =>
 oP E (xBin .neq 3 (.tmp 34) (.const (vI 0)) c8i (vI 0)) Z0 fun f2H X6 =>
 xcond f2H
 (R (vB false) X6)
 (oP E (fA 138 o5 0) X6 fun f2I X7 =>
 oP E (fA 27 f2I 0) X7 fun f2J Z1 =>
 oP E (lA 3 f2J) Z1 fun c8j a1t =>
 xcut (fun g5b a4P => c4X d2N c8j (nth g5b 0) a4P R E) fun j1 =>
 oP E (xBin .eql 3 (.tmp 38) (.const (vI 1)) c8j (vI 1)) a1t fun d1H a4f =>
 xcond d1H
 (j1 [d1H] a4f)
 (oP E (xBin .eql 3 (.tmp 38) (.const (vI 2)) c8j (vI 2)) a4f fun e5i a4g =>
 j1 [e5i] a4g)))
noncomputable def f2K : Code := Tryd.f173.body.getD .skip
def f2L : Hint := (sQ (sQ (.seq (sQ (.cond (sQ .none) .none)) (.seq (sQ (.cond (sQ .none) .none)) (.seq (sQ (.block (.cut [39] (sQ (.cond .none .none)) (.cond (sQ .none) (sQ (.cond (sQ .none) (.cut [50] (sQ (.cond .none .none)) (.cond (sQ .none) .none)))))))) (sQ .none))))))
theorem e5j (x0 : Value) (w : World) (R : RT) (E : Pan) : d2M x0 w R E = callX Tryd.prog [.tmp 2] f2K f2L [x0] w R E := by kernel_rfl
theorem e5k {x0 : Value} (h : d2M x0 w R E) : Cv Tryd.prog 173 #[x0] w R E := by
 refine f8 (args := [x0]) (c := f2K) (h := f2L) (rs := [.tmp 2]) Tryd.func173 (by kernel_rfl) (by kernel_rfl) (nB (by kernel_rfl)) (by kernel_rfl) (by kernel_rfl) (by kernel_rfl) ?_
 rw [← e5j]
 exact h
def d2O (x0 : Value) (w : World) (R : RT) (E : Pan) : Prop :=
 oP E (xV (Instr.box 138 x0)) w fun o5 w_2 =>
 dX w_2 fun w_3 =>
 qP Tryd.prog (fA 138 o5 0) fun c4E =>
 qP Tryd.prog (fA 27 c4E 2) fun a3j =>
 qP Tryd.prog (fA 138 o5 0) fun d9v =>
 qP Tryd.prog (fA 27 d9v 3) fun a5I =>
 qL Tryd.prog w_3 (blk a3j) (lA 22 a3j) fun c7p =>
 qL Tryd.prog w_3 (blk a5I) (lA 25 a5I) fun a9e =>
 oP E (xCall (fC 171) [c7p, (fC 172)]) w_3 fun g1W P9 =>
 keepX [(blk a5I)] w_3 P9 (opK Tryd.prog E (xCall (fC 175) [a9e, (fC 176)]) P9 fun f2M V0 =>
 keepX [] P9 V0 (opK Tryd.prog E (xV (Instr.buildSlice 174 2 #[(0, g1W), (1, f2M)])) V0 fun f2N a9N =>
 keepX [] V0 a9N (opK Tryd.prog E (xCall (fC 87) [f2N]) a9N fun f2O Y8 =>
 keepX [] a9N Y8 (R f2O Y8))))
noncomputable def f2P : Code := Tryd.f174.body.getD .skip
def f2Q : Hint := (sQ (.seq (.reg [(0, 8, 2), (1, 16, 8), (2, 32, 16), (4, 64, 32), (0, 128, 2), (16, 256, 128), (32, 512, 256), (72, 1024, 512), (136, 2048, 1088), (384, 4096, 2048), (1023, 4, 4096)] [68, 68, 64, 64, 68, 68, 4, 0, 0, 0, 68] (.early 0 (.early 1 (.early 4 (.early 5 (.load 2 (.load 6 (.step 3 (.step 7 (.step 8 (.step 9 (.early 10 .done)))))))))))) .none))
theorem e5l (x0 : Value) (w : World) (R : RT) (E : Pan) : d2O x0 w R E = callX Tryd.prog [.tmp 2] f2P f2Q [x0] w R E := by kernel_rfl
theorem e5m {x0 : Value} (h : d2O x0 w R E) : Cv Tryd.prog 174 #[x0] w R E := by
 refine f8 (args := [x0]) (c := f2P) (h := f2Q) (rs := [.tmp 2]) Tryd.func174 (by kernel_rfl) (by kernel_rfl) (nB (by kernel_rfl)) (by kernel_rfl) (by kernel_rfl) (by kernel_rfl) ?_
 rw [← e5l]
 exact h
def c4Y (x5 : Value) (w : World) (R : RT) (_E : Pan) : Prop :=
 ∀ _τ : Fr, (R x5 w)
def d1I (x1 x5 x8 x9 x10 : Value) (w : World) (next2 : NT) (j1 : NT) (_R : RT) (E : Pan) : Prop :=
 oP E (xBin .lss 3 (.tmp 10) (.tmp 9) x10 x9) w fun a4O w_6 =>
 xcond a4O
 (oP E (iA 25 x8 x10) w_6 fun a3x w_8 =>
 oP E (lA 27 a3x) w_8 fun a3y o7 =>
 oP E (xV (Instr.alloc 27 true (.tuple #[]))) o7 fun S5 o4 =>
 oP E (sA 27 S5 a3y) o4 fun _z_13 o8 =>
 oP E (lA 27 S5) o8 fun a2K s6 =>
 oP E (xCall x1 [a2K]) s6 fun a2L v7 =>
 oP E (xV (Instr.buildSlice 124 1 #[(0, a2L)])) v7 fun a2M u1 =>
 oP E (xBuiltin .append #[124, 124] 124 [false, false] [x5, a2M]) u1 fun a2N v8 =>
 oP E (xBin .add 3 (.tmp 10) (.const (vI 1)) x10 (vI 1)) v8 fun a0U y6 =>
 next2 [a2N, a0U] y6)
 (j1 [x5] w_6)
def d2P (x0 x1 : Value) (w : World) (R : RT) (E : Pan) : Prop :=
 xcut (fun l_1 w_2 => c4Y (nth l_1 0) w_2 R E) fun j1 =>
 oP E (xBuiltin .len #[25] 3 [false] [x0]) w fun a3Y w_4 =>
 xloop [5, 10] [(nS), (vI 0)] w_4 fun τ_25 z6 next2 =>
 d1I x1 (τ_25 5) x0 a3Y (τ_25 10) z6 next2 j1 R E
noncomputable def f2R : Code := Tryd.f175.body.getD .skip
def f2S : Hint := (sQ (sQ (.cut [5] (sQ (.block (.loop [5, 10] (sQ (.seq (.cond .none .none) (.seq (.block (sQ .none)) .none)))))) (sQ .none))))
theorem e5n (x0 x1 : Value) (w : World) (R : RT) (E : Pan) : d2P x0 x1 w R E = callX Tryd.prog [.tmp 4] f2R f2S [x0, x1] w R E := by kernel_rfl
theorem e5o {x0 x1 : Value} (h : d2P x0 x1 w R E) : Cv Tryd.prog 175 #[x0, x1] w R E := by
 refine f8 (args := [x0, x1]) (c := f2R) (h := f2S) (rs := [.tmp 4]) Tryd.func175 (by kernel_rfl) (by kernel_rfl) (nB (by kernel_rfl)) (by kernel_rfl) (by kernel_rfl) (by kernel_rfl) ?_
 rw [← e5n]
 exact h
def d2Q (x0 : Value) (w : World) (R : RT) (E : Pan) : Prop :=
 oP E (xV (Instr.box 27 x0)) w fun o5 w_2 =>
 oP E (lA 27 o5) w_2 fun S7 w_4 =>
 oP E (xV (Instr.build 138 #[(0, S7)])) w_4 fun a3j w_6 =>
 oP E (xV (Instr.makeInterface 138 a3j)) w_6 fun a6d w_8 =>
 R a6d w_8
noncomputable def f2T : Code := Tryd.f176.body.getD .skip
def f2U : Hint := (sQ (sQ .none))
theorem e5p (x0 : Value) (w : World) (R : RT) (E : Pan) : d2Q x0 w R E = callX Tryd.prog [.tmp 2] f2T f2U [x0] w R E := by kernel_rfl
theorem e5q {x0 : Value} (h : d2Q x0 w R E) : Cv Tryd.prog 176 #[x0] w R E := by
 refine f8 (args := [x0]) (c := f2T) (h := f2U) (rs := [.tmp 2]) Tryd.func176 (by kernel_rfl) (by kernel_rfl) (nB (by kernel_rfl)) (by kernel_rfl) (by kernel_rfl) (by kernel_rfl) ?_
 rw [← e5p]
 exact h
def d2R (x0 : Value) (w : World) (R : RT) (E : Pan) : Prop :=
 oP E (xV (Instr.box 177 x0)) w fun o5 w_2 =>
 oP E (fA 177 o5 0) w_2 fun S7 w_4 =>
 oP E (fA 58 S7 1) w_4 fun a3j w_6 =>
 oP E (lA 3 a3j) w_6 fun a6d w_8 =>
 oP E (xBin .geq 3 (.tmp 5) (.const (vI 0)) a6d (vI 0)) w_8 fun a9O o7 =>
 oP E (gsem (asB a9O) true (fA 177 o5 0)) o7 fun a9k o4 =>
 oP E (gsem (asB a9O) true (fA 58 a9k 1)) o4 fun Z4 o8 =>
 oP E (gsem (asB a9O) true (lA 3 Z4)) o8 fun c8e s6 =>
 oP E (gsem (asB a9O) true (xBin .leq 3 (.tmp 10) (.const (vI 2147483647)) c8e (vI 2147483647))) s6 fun b5p v7 =>
 oP E (xPick a9O b5p (vB false)) v7 fun b0F u1 =>
 R b0F u1
noncomputable def f2V : Code := Tryd.f177.body.getD .skip
def f2W : Hint := (sQ (sQ .none))
theorem e5r (x0 : Value) (w : World) (R : RT) (E : Pan) : d2R x0 w R E = callX Tryd.prog [.tmp 2] f2V f2W [x0] w R E := by kernel_rfl
theorem e5s {x0 : Value} (h : d2R x0 w R E) : Cv Tryd.prog 177 #[x0] w R E := by
 refine f8 (args := [x0]) (c := f2V) (h := f2W) (rs := [.tmp 2]) Tryd.func177 (by kernel_rfl) (by kernel_rfl) (nB (by kernel_rfl)) (by kernel_rfl) (by kernel_rfl) (by kernel_rfl) ?_
 rw [← e5r]
 exact h
def d2S (x0 : Value) (w : World) (R : RT) (E : Pan) : Prop :=
 oP E (xV (Instr.box 177 x0)) w fun _t1_1 w_2 =>
 R (nS) w_2
noncomputable def f2X : Code := Tryd.f178.body.getD .skip
def f2Y : Hint := (sQ (sQ .none))
theorem e5t (x0 : Value) (w : World) (R : RT) (E : Pan) : d2S x0 w R E = callX Tryd.prog [.tmp 2] f2X f2Y [x0] w R E := by kernel_rfl
theorem e5u {x0 : Value} (h : d2S x0 w R E) : Cv Tryd.prog 178 #[x0] w R E := by
 refine f8 (args := [x0]) (c := f2X) (h := f2Y) (rs := [.tmp 2]) Tryd.func178 (by kernel_rfl) (by kernel_rfl) (nB (by kernel_rfl)) (by kernel_rfl) (by kernel_rfl) (by kernel_rfl) ?_
 rw [← e5t]
 exact h
def c4Z (x4 x5 x35 x83 : Value) (w : World) (R : RT) (E : Pan) : Prop :=
 ∀ _τ : Fr, (xcond x83
 (oP E (gsem (asB x5) true (lA 227 x4)) w fun e5v b9I =>
 oP E (gsem (asB x5) true (xV (Instr.build 227 #[(0, (vI 0)), (1, (vI 1))]))) b9I fun e5w c2X =>
 oP E (gsem (asB x5) true (xBin .eql 227 (.tmp 88) (.tmp 89) e5v e5w)) c2X fun e5x c2Y =>
 oP E (xPick x5 e5x (vB false)) c2Y fun e5y c2Z =>
 R e5y c2Z)
 (oP E (xBin .eql 3 (.tmp 35) (.const (vI 7)) x35 (vI 7)) w fun e5z b6l =>
 xcond e5z
 (oP E (gsem (asB x5) true (lA 227 x4)) b6l fun e5A b3V =>
 oP E (gsem (asB x5) true (xV (Instr.build 227 #[]))) b3V fun e5B c3a =>
 oP E (gsem (asB x5) true (xBin .eql 227 (.tmp 96) (.tmp 97) e5A e5B)) c3a fun e5C d2T =>
 oP E (xPick x5 e5C (vB false)) d2T fun e5D d2U =>
 R e5D d2U)
 (R (vB false) b6l)))
def d2V (x0 : Value) (w : World) (R : RT) (E : Pan) : Prop :=
 oP E (xV (Instr.box 179 x0)) w fun o5 w_2 =>
 oP E (fA 179 o5 0) w_2 fun b6k w_4 =>
 oP E (fA 63 b6k 4) w_4 fun a8D w_6 =>
 oP E (lA 42 a8D) w_6 fun a5I w_8 =>
 oP E (xBuiltin .len #[42] 3 [false] [a5I]) w_8 fun a9e o7 =>
 oP E (fA 179 o5 0) o7 fun a8m o4 =>
 oP E (fA 63 a8m 5) o4 fun a9f o8 =>
 oP E (lA 42 a9f) o8 fun b1W s6 =>
 oP E (xBuiltin .len #[42] 3 [false] [b1W]) s6 fun a5K v7 =>
 oP E (xBin .add 3 (.tmp 9) (.tmp 13) a9e a5K) v7 fun c7l u1 =>
 oP E (xBin .gtr 3 (.tmp 14) (.const (vI 0)) c7l (vI 0)) u1 fun b8f v8 =>
 oP E (fA 179 o5 0) v8 fun b8g y6 =>
 oP E (fA 63 b8g 2) y6 fun a6N z6 =>
 oP E (lA 22 a6N) z6 fun a9l E5 =>
 oP E (xBuiltin .len #[22] 3 [false] [a9l]) E5 fun a9m E1 =>
 oP E (fA 179 o5 0) E1 fun a9n E2 =>
 oP E (fA 63 a9n 3) E2 fun a6O E3 =>
 oP E (lA 25 a6O) E3 fun a7k L2 =>
 oP E (xBuiltin .len #[25] 3 [false] [a7k]) L2 fun T1 L4 =>
 oP E (xV (Instr.build 227 #[(0, a9m), (1, T1)])) L4 fun c8k L9 =>
 oP E (xV (Instr.alloc 227 true (.tuple #[]))) L9 fun b9J M4 =>
 oP E (sA 227 b9J c8k) M4 fun _z_43 N8 =>
 oP E (fA 179 o5 0) N8 fun f2Z V1 =>
 oP E (fA 63 f2Z 1) V1 fun f3a V2 =>
 oP E (lA 9 f3a) V2 fun f3b Q3 =>
 oP E (xBin .eql 9 (.tmp 27) (.const (eS)) f3b (eS)) Q3 fun b8B R6 =>
 oP E (gsem (asB b8B) true (xV (Op.unary .not (gval (asB b8B) true b8f)))) R6 fun f3c W0 =>
 oP E (xPick b8B f3c (vB false)) W0 fun f3d X0 =>
 oP E (fA 179 o5 0) X0 fun f3e Y9 =>
 oP E (fA 63 f3e 0) Y9 fun f3f W1 =>
 oP E (lA 3 f3f) W1 fun b2o U0 =>
 oP E (xBin .eql 3 (.tmp 35) (.const (vI 1)) b2o (vI 1)) U0 fun f3g Z0 =>
 xcond f3g
 (oP E (xV (Op.unary .not b8f)) Z0 fun c3b X6 =>
 oP E (gsem (asB c3b) true (lA 227 b9J)) X6 fun c7w X7 =>
 oP E (gsem (asB c3b) true (xV (Instr.build 227 #[(0, (vI 1)), (1, (vI 0))]))) X7 fun c7x Z1 =>
 oP E (gsem (asB c3b) true (xBin .eql 227 (.tmp 41) (.tmp 42) c7w c7x)) Z1 fun c7y a1t =>
 oP E (xPick c3b c7y (vB false)) a1t fun c7z a1V =>
 R c7z a1V)
 (oP E (xBin .eql 3 (.tmp 35) (.const (vI 2)) b2o (vI 2)) Z0 fun c8l a3k =>
 xcond c8l
 (oP E (xV (Op.unary .not b8f)) a3k fun b5q a3l =>
 oP E (gsem (asB b5q) true (lA 227 b9J)) a3l fun f3h a3Z =>
 oP E (gsem (asB b5q) true (xV (Instr.build 227 #[(0, (vI 2)), (1, (vI 0))]))) a3Z fun f3i a4x =>
 oP E (gsem (asB b5q) true (xBin .eql 227 (.tmp 50) (.tmp 51) f3h f3i)) a4x fun c8m a4y =>
 oP E (xPick b5q c8m (vB false)) a4y fun c8n a5d =>
 R c8n a5d)
 (oP E (xBin .eql 3 (.tmp 35) (.const (vI 3)) b2o (vI 3)) a3k fun f3j a4a =>
 xcond f3j
 (oP E (fA 179 o5 0) a4a fun f3k a6V =>
 oP E (fA 63 f3k 1) a6V fun f3l a7l =>
 oP E (lA 9 f3l) a7l fun f3m a1W =>
 oP E (xBin .eql 9 (.tmp 58) (.const (eS)) f3m (eS)) a1W fun c3c a8f =>
 oP E (gsem (asB c3c) true (lA 227 b9J)) a8f fun f3n a9P =>
 oP E (gsem (asB c3c) true (xV (Instr.build 227 #[(0, (vI 0)), (1, (vI 1))]))) a9P fun f3o a4P =>
 oP E (gsem (asB c3c) true (xBin .eql 227 (.tmp 61) (.tmp 62) f3n f3o)) a4P fun e5E a4f =>
 oP E (xPick c3c e5E (vB false)) a4f fun e5F a4g =>
 R e5F a4g)
 (oP E (xBin .eql 3 (.tmp 35) (.const (vI 4)) b2o (vI 4)) a4a fun e5G a5q =>
 xcond e5G
 (oP E (fA 179 o5 0) a5q fun e5H c2O =>
 oP E (fA 63 e5H 1) c2O fun e5I b9F =>
 oP E (lA 9 e5I) b9F fun e5J c2P =>
 oP E (xBin .eql 9 (.tmp 69) (.const (eS)) e5J (eS)) c2P fun b1I a9q =>
 oP E (gsem (asB b1I) true (fA 179 o5 0)) a9q fun e5K b1m =>
 oP E (gsem (asB b1I) true (fA 63 e5K 5)) b1m fun e5L b9G =>
 oP E (gsem (asB b1I) true (lA 42 e5L)) b9G fun e5M b3U =>
 oP E (gsem (asB b1I) true (xBuiltin .len #[42] 3 [false] [e5M])) b3U fun e5N b3W =>
 oP E (gsem (asB b1I) true (xBin .eql 3 (.tmp 75) (.const (vI 0)) e5N (vI 0))) b3W fun e5O b9K =>
 oP E (xPick b1I e5O (vB false)) b9K fun b9L c3d =>
 oP E (gsem (asB b9L) true (lA 227 b9J)) c3d fun e5P c3e =>
 oP E (gsem (asB b9L) true (xV (Instr.build 227 #[(0, (vI 0)), (1, (vI 1))]))) c3e fun e5Q b3X =>
 oP E (gsem (asB b9L) true (xBin .eql 227 (.tmp 79) (.tmp 80) e5P e5Q)) b3X fun e5R c3f =>
 oP E (xPick b9L e5R (vB false)) c3f fun e5S c3g =>
 R e5S c3g)
 (xcut (fun g1X d2W => c4Z b9J f3d b2o (nth g1X 0) d2W R E) fun j1 =>
 oP E (xBin .eql 3 (.tmp 35) (.const (vI 5)) b2o (vI 5)) a5q fun d1J c6q =>
 xcond d1J
 (j1 [d1J] c6q)
 (oP E (xBin .eql 3 (.tmp 35) (.const (vI 6)) b2o (vI 6)) c6q fun e5T c3h =>
 j1 [e5T] c3h)))))
noncomputable def f3p : Code := Tryd.f179.body.getD .skip
def f3q : Hint := (sQ (sQ (sQ (sQ (.seq (sQ (.block (sQ (.cond (sQ .none) (sQ (.cond (sQ .none) (sQ (.cond (sQ .none) (sQ (.cond (sQ .none) (.cut [83] (sQ (.cond .none .none)) (.cond (sQ .none) (sQ (.cond (sQ .none) .none)))))))))))))) (sQ .none))))))
theorem e5U (x0 : Value) (w : World) (R : RT) (E : Pan) : d2V x0 w R E = callX Tryd.prog [.tmp 2] f3p f3q [x0] w R E := by kernel_rfl
theorem e5V {x0 : Value} (h : d2V x0 w R E) : Cv Tryd.prog 179 #[x0] w R E := by
 refine f8 (args := [x0]) (c := f3p) (h := f3q) (rs := [.tmp 2]) Tryd.func179 (by kernel_rfl) (by kernel_rfl) (nB (by kernel_rfl)) (by kernel_rfl) (by kernel_rfl) (by kernel_rfl) ?_
 rw [← e5U]
 exact h
def d2X (x0 : Value) (w : World) (R : RT) (E : Pan) : Prop :=
 oP E (xV (Instr.box 179 x0)) w fun o5 w_2 =>
 dX w_2 fun w_3 =>
 qP Tryd.prog (fA 179 o5 0) fun c4E =>
 qP Tryd.prog (fA 63 c4E 3) fun a3j =>
 qP Tryd.prog (fA 179 o5 0) fun d9v =>
 qP Tryd.prog (fA 63 d9v 2) fun a5I =>
 qP Tryd.prog (fA 179 o5 0) fun g1Y =>
 qP Tryd.prog (fA 63 g1Y 4) fun b3Q =>
 qP Tryd.prog (fA 179 o5 0) fun f3r =>
 qP Tryd.prog (fA 63 f3r 5) fun a7m =>
 qL Tryd.prog w_3 (blk a3j) (lA 25 a3j) fun g1Z =>
 qL Tryd.prog w_3 (blk a5I) (lA 22 a5I) fun Z4 =>
 qL Tryd.prog w_3 (blk b3Q) (lA 42 b3Q) fun f3s =>
 qL Tryd.prog w_3 (blk a7m) (lA 42 a7m) fun b8r =>
 oP E (xCall (fC 175) [g1Z, (fC 176)]) w_3 fun g2a Y8 =>
 keepX [(blk a7m), (blk b3Q), (blk a5I)] w_3 Y8 (opK Tryd.prog E (xCall (fC 171) [Z4, (fC 172)]) Y8 fun f3t a0D =>
 keepX [(blk a7m), (blk b3Q)] Y8 a0D (opK Tryd.prog E (xCall (fC 90) [f3s, (fC 91)]) a0D fun f3u U1 =>
 keepX [(blk a7m)] a0D U1 (opK Tryd.prog E (xCall (fC 90) [b8r, (fC 91)]) U1 fun f3v a7p =>
 keepX [] U1 a7p (opK Tryd.prog E (xV (Instr.buildSlice 174 4 #[(0, g2a), (1, f3t), (2, f3u), (3, f3v)])) a7p fun f3w b2k =>
 keepX [] a7p b2k (opK Tryd.prog E (xCall (fC 87) [f3w]) b2k fun f3x a3z =>
 keepX [] b2k a3z (R f3x a3z))))))
noncomputable def f3y : Code := Tryd.f180.body.getD .skip
def f3z : Hint := (sQ (.seq (.reg [(0, 8, 2), (1, 16, 8), (2, 32, 16), (4, 64, 32), (0, 128, 2), (16, 256, 128), (32, 512, 256), (72, 1024, 512), (0, 2048, 2), (256, 4096, 2048), (512, 8192, 4096), (1152, 16384, 8192), (0, 32768, 2), (4096, 65536, 32768), (8192, 131072, 65536), (18432, 262144, 131072), (34952, 524288, 279616), (98304, 1048576, 524288), (262143, 4, 1048576)] [17476, 17476, 17472, 17472, 17476, 17476, 17412, 17408, 17476, 17476, 16452, 16384, 17476, 17476, 1092, 0, 0, 0, 17476] (.early 0 (.early 1 (.early 4 (.early 5 (.early 8 (.early 9 (.early 12 (.early 13 (.load 2 (.load 6 (.load 10 (.load 14 (.step 3 (.step 7 (.step 11 (.step 15 (.step 16 (.step 17 (.early 18 .done)))))))))))))))))))) .none))
theorem e5W (x0 : Value) (w : World) (R : RT) (E : Pan) : d2X x0 w R E = callX Tryd.prog [.tmp 2] f3y f3z [x0] w R E := by kernel_rfl
theorem e5X {x0 : Value} (h : d2X x0 w R E) : Cv Tryd.prog 180 #[x0] w R E := by
 refine f8 (args := [x0]) (c := f3y) (h := f3z) (rs := [.tmp 2]) Tryd.func180 (by kernel_rfl) (by kernel_rfl) (nB (by kernel_rfl)) (by kernel_rfl) (by kernel_rfl) (by kernel_rfl) ?_
 rw [← e5W]
 exact h
end Go.Proofs.YtnhkdkcgdcgmdaaDoor
