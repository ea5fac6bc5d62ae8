/- The second reading of some of the program's functions, printed by gen2.py off the code; each is held against the code by the kernel. -/
import Derived.Test.YtnhkdkcgdcgmdaaDoorProg
import Derived.Test.YtnhkdkcgdcgmdaaDoorzOK0
import Derived.KernelRfl
import Derived.Test.YtnhkdkcgdcgmdaaDoorzOGz
namespace Go.Proofs.YtnhkdkcgdcgmdaaDoor
open Go.RowKit
set_option maxRecDepth 100000
variable {w : World} {R : RT} {E : Pan}
def d0C (x7 x9 : Value) (w : World) (R : RT) (_E : Pan) : Prop :=
 ∀ _τ : Fr, (R (Value.tuple #[x9, x7]) w)
def d8z (x5 x7 x9 x37 x38 x39 : Value) (w : World) (next2 : NT) (j1 : NT) (_R : RT) (E : Pan) : Prop :=
 oP E (xBin .lss 3 (.tmp 39) (.tmp 38) x39 x38) w fun c3x N8 =>
 xcond c3x
 (oP E (iA 112 x37 x39) N8 fun c9D V1 =>
 oP E (lA 117 c9D) V1 fun f9P V2 =>
 oP E (xV (Instr.alloc 117 true (.tuple #[]))) V2 fun b9r Q3 =>
 oP E (sA 117 b9r f9P) Q3 fun _z_51 R6 =>
 oP E (fA 117 b9r 0) R6 fun f9Q W0 =>
 oP E (lA 9 f9Q) W0 fun f9R X0 =>
 oP E (xV (Instr.lookup 108 x5 f9R false)) X0 fun c4l Y9 =>
 oP E (fA 117 b9r 1) Y9 fun c3y W1 =>
 oP E (lA 3 c3y) W1 fun c9E U0 =>
 oP E (xBin .eql 3 (.tmp 46) (.tmp 51) c4l c9E) U0 fun f9S Z0 =>
 xcond f9S
 (oP E (xBin .add 3 (.tmp 39) (.const (vI 1)) x39 (vI 1)) Z0 fun f9T X6 =>
 next2 [x7, x9, f9T] X6)
 (oP E (xBin .eql 3 (.tmp 46) (.const (vI 0)) c4l (vI 0)) Z0 fun f9U X7 =>
 xcond f9U
 (oP E (fA 117 b9r 0) X7 fun f9V Z1 =>
 oP E (lA 9 f9V) Z1 fun f9W a1t =>
 j1 [(vI 63), f9W] a1t)
 (oP E (fA 117 b9r 0) X7 fun f9X a1V =>
 oP E (lA 9 f9X) a1V fun f9Y a3k =>
 j1 [(vI 64), f9Y] a3k)))
 (j1 [x7, x9] N8)
def F34 (x0 : Value) (w : World) (R : RT) (E : Pan) : Prop :=
 oP E (xV (Instr.box 44 x0)) w fun o5 w_2 =>
 oP E (lA 44 o5) w_2 fun g3s w_4 =>
 oP E (xCall (fC 53) [g3s]) w_4 fun b4g w_6 =>
 oP E (xBin .neq 29 (.tmp 14) (.const (vI 0)) b4g (vI 0)) w_6 fun d3L w_8 =>
 xcond d3L
 (R (Value.tuple #[(eS), b4g]) w_8)
 (oP E (fA 44 o5 0) w_8 fun g3t o7 =>
 oP E (lA 41 g3t) o7 fun b8Z o4 =>
 oP E (xCall (fC 54) [b8Z]) o4 fun a5L o8 =>
 oP E (eX a5L 0) o8 fun a7j s6 =>
 oP E (eX a5L 1) s6 fun c7Q v7 =>
 oP E (eX a5L 2) v7 fun d0D u1 =>
 oP E (xBin .neq 29 (.tmp 24) (.const (vI 0)) d0D (vI 0)) u1 fun c7R v8 =>
 xcond c7R
 (R (Value.tuple #[c7Q, d0D]) v8)
 (oP E (xV (Instr.build 114 #[])) v8 fun c7O y6 =>
 oP E (xV (Instr.box 114 c7O)) y6 fun d8A z6 =>
 oP E (fA 44 o5 1) z6 fun f9Z E5 =>
 oP E (lA 42 f9Z) E5 fun c2S E1 =>
 oP E (xCall (fC 55) [d8A, c2S]) E1 fun _t33_31 E2 =>
 xcut (fun e0L E3 => d0C (nth e0L 0) (nth e0L.tail 0) E3 R E) fun j1 =>
 oP E (xNil d8A) E2 fun c3w L2 =>
 oP E (fA 114 c3w 0) L2 fun c9C L4 =>
 oP E (lA 112 c9C) L4 fun d8B L9 =>
 oP E (xBuiltin .len #[112] 3 [false] [d8B]) L9 fun g0a M4 =>
 xloop [7, 9, 39] [d0D, (eS), (vI 0)] M4 fun τ_77 a3l next2 =>
 d8z a7j (τ_77 7) (τ_77 9) d8B g0a (τ_77 39) a3l next2 j1 R E))
noncomputable def c34 : Code := Tryd.f34.body.getD .skip
def h34 : Hint := (sQ (.scope (.seq (sQ (sQ (.cond (sQ .none) .none))) (sQ (.seq (sQ (.cond (sQ .none) .none)) (sQ (sQ (sQ (sQ (.cut [7, 9] (sQ (.block (.loop [7, 9, 39] (sQ (.seq (.cond .none .none) (.seq (.block (sQ (sQ (.block (sQ (.cond .none (sQ (.cond (sQ .none) (sQ .none))))))))) .none)))))) (sQ .none)))))))))))
theorem g0b (x0 : Value) (w : World) (R : RT) (E : Pan) : F34 x0 w R E = callX Tryd.prog [.tmp 2, .tmp 3] c34 h34 [x0] w R E := by kernel_rfl
theorem g0c {x0 : Value} (h : F34 x0 w R E) : Cv Tryd.prog 34 #[x0] w R E := by
 refine f8 (args := [x0]) (c := c34) (h := h34) (rs := [.tmp 2, .tmp 3]) Tryd.func34 (by kernel_rfl) (by kernel_rfl) (nB (by kernel_rfl)) (by kernel_rfl) (by kernel_rfl) (by kernel_rfl) ?_
 rw [← g0b]
 exact h
def d8C (x5 : Value) (w : World) (R : RT) (_E : Pan) : Prop :=
 ∀ _τ : Fr, (R (Value.tuple #[x5, (eS), (vI 0)]) w)
def d8D (x5 x6 x13 x14 x15 : Value) (w : World) (next2 : NT) (j1 : NT) (R : RT) (E : Pan) : Prop :=
 oP E (xBin .lss 3 (.tmp 15) (.tmp 14) x15 x14) w fun g0d o8 =>
 xcond g0d
 (oP E (iA 41 x13 x15) o8 fun b8r s6 =>
 oP E (lA 58 b8r) s6 fun c7P v7 =>
 oP E (xV (Instr.alloc 58 true (.tuple #[]))) v7 fun b4k u1 =>
 oP E (sA 58 b4k c7P) u1 fun _z_21 v8 =>
 oP E (lA 58 b4k) v8 fun b1V y6 =>
 oP E (xCall (fC 92) [b1V]) y6 fun c4m z6 =>
 oP E (xV (Instr.lookup 157 x6 c4m false)) z6 fun c9w E5 =>
 oP E (xBin .sub 3 (.tmp 23) (.const (vI 1)) c9w (vI 1)) E5 fun g0e E1 =>
 oP E (xU (Instr.mapUpdate 157 x6 c4m g0e)) E1 fun _z_31 E2 =>
 oP E (fA 58 b4k 0) E2 fun g0f E3 =>
 oP E (lA 9 g0f) E3 fun g0g L2 =>
 oP E (xV (Instr.lookup 108 x5 g0g false)) L2 fun g0h L4 =>
 oP E (xBin .neq 3 (.tmp 29) (.const (vI 0)) g0h (vI 0)) L4 fun g0i L9 =>
 xcond g0i
 (dX L9 fun c0X =>
 qP Tryd.prog (fA 58 b4k 0) fun c2Q =>
 qL Tryd.prog c0X (blk c2Q) (lA 9 c2Q) fun g0j =>
 R (Value.tuple #[(Value.map none), g0j, (vI 60)]) c0X)
 (oP E (fA 58 b4k 1) L9 fun g0k b4y =>
 oP E (lA 3 g0k) b4y fun g0l c4I =>
 oP E (xBin .gtr 3 (.tmp 35) (.const (vI 1024)) g0l (vI 1024)) c4I fun g0m b2n =>
 xcond g0m
 (dX b2n fun Q3 =>
 qP Tryd.prog (fA 58 b4k 0) fun d8E =>
 qL Tryd.prog Q3 (blk d8E) (lA 9 d8E) fun g0n =>
 R (Value.tuple #[(Value.map none), g0n, (vI 61)]) Q3)
 (oP E (xV (Instr.lookup 157 x6 c4m false)) b2n fun g0o W0 =>
 oP E (xBin .lss 3 (.tmp 42) (.const (vI 0)) g0o (vI 0)) W0 fun g0p X0 =>
 xcond g0p
 (dX X0 fun b6W =>
 qP Tryd.prog (fA 58 b4k 0) fun d8F =>
 qL Tryd.prog b6W (blk d8F) (lA 9 d8F) fun g0q =>
 R (Value.tuple #[(Value.map none), g0q, (vI 62)]) b6W)
 (oP E (fA 58 b4k 0) X0 fun g0r c1H =>
 oP E (lA 9 g0r) c1H fun g0s d4e =>
 oP E (xU (Instr.mapUpdate 108 x5 g0s c4m)) d4e fun _z_64 c8u =>
 oP E (xBin .add 3 (.tmp 15) (.const (vI 1)) x15 (vI 1)) c8u fun g0t b2P =>
 next2 [g0t] b2P))))
 (j1 [] o8)
def F54 (x0 : Value) (w : World) (R : RT) (E : Pan) : Prop :=
 oP E (xV (Instr.makeMap 108 none)) w fun c6n w_2 =>
 oP E (xV (Instr.makeMap 157 none)) w_2 fun a6g w_4 =>
 oP E (xU (Instr.mapUpdate 157 a6g (vI 1) (vI 32))) w_4 fun _z_5 w_6 =>
 oP E (xU (Instr.mapUpdate 157 a6g (vI 2) (vI 16))) w_6 fun _z_7 w_8 =>
 xcut (fun _ o7 => d8C c6n o7 R E) fun j1 =>
 oP E (xBuiltin .len #[41] 3 [false] [x0]) w_8 fun c7r o4 =>
 xloop [15] [(vI 0)] o4 fun τ_68 e1i next2 =>
 d8D c6n a6g x0 c7r (τ_68 15) e1i next2 j1 R E
noncomputable def c54 : Code := Tryd.f54.body.getD .skip
def h54 : Hint := (sQ (sQ (sQ (.cut [] (sQ (.block (.loop [15] (sQ (.seq (.cond .none .none) (.seq (.block (sQ (sQ (sQ (.seq (.block (sQ (.cond (.seq (.reg [(0, 2147483648, 256), (1, 4294967296, 2147483648), (0, 4, 0), (7, 8, 4294967296), (15, 16, 0)] [2, 0, 2, 2, 2] (.early 0 (.early 2 (.load 1 (.early 3 (.early 4 .done)))))) .none) (sQ (.cond (.seq (.reg [(0, 137438953472, 256), (1, 274877906944, 137438953472), (0, 4, 0), (7, 8, 274877906944), (15, 16, 0)] [2, 0, 2, 2, 2] (.early 0 (.early 2 (.load 1 (.early 3 (.early 4 .done)))))) .none) (sQ (.cond (.seq (.reg [(0, 17592186044416, 256), (1, 35184372088832, 17592186044416), (0, 4, 0), (7, 8, 35184372088832), (15, 16, 0)] [2, 0, 2, 2, 2] (.early 0 (.early 2 (.load 1 (.early 3 (.early 4 .done)))))) .none) .none))))))) .none))))) .none)))))) (sQ .none)))))
theorem g0u (x0 : Value) (w : World) (R : RT) (E : Pan) : F54 x0 w R E = callX Tryd.prog [.tmp 2, .tmp 3, .tmp 4] c54 h54 [x0] w R E := by kernel_rfl
theorem g0v {x0 : Value} (h : F54 x0 w R E) : Cv Tryd.prog 54 #[x0] w R E := by
 refine f8 (args := [x0]) (c := c54) (h := h54) (rs := [.tmp 2, .tmp 3, .tmp 4]) Tryd.func54 (by kernel_rfl) (by kernel_rfl) (nB (by kernel_rfl)) (by kernel_rfl) (by kernel_rfl) (by kernel_rfl) ?_
 rw [← g0u]
 exact h
def d0E (_x0 _x10 _x11 x12 : Value) (w : World) (next1 : NT) (_R : RT) (E : Pan) : Prop :=
 ∀ _τ : Fr, (oP E (xBin .add 3 (.tmp 12) (.const (vI 1)) x12 (vI 1)) w fun g3u w_6 =>
 next1 [g3u] w_6)
def d0F (x0 x5 _x10 _x11 _x12 : Value) (w : World) (j2 : NT) (_R : RT) (E : Pan) : Prop :=
 ∀ _τ : Fr, (oP E (fA 63 x5 4) w fun g0w v7 =>
 oP E (lA 42 g0w) v7 fun g0x u1 =>
 oP E (xCall (fC 55) [x0, g0x]) u1 fun _t71_21 v8 =>
 oP E (fA 63 x5 5) v8 fun g0y y6 =>
 oP E (lA 42 g0y) y6 fun g0z z6 =>
 oP E (xCall (fC 55) [x0, g0z]) z6 fun _t75_27 E5 =>
 j2 [] E5)
def d8G (x0 _x5 _x10 _x11 _x12 x58 x59 x60 : Value) (w : World) (next6 : NT) (j5 : NT) (_R : RT) (E : Pan) : Prop :=
 oP E (xBin .lss 3 (.tmp 60) (.tmp 59) x60 x59) w fun g0A L4 =>
 xcond g0A
 (oP E (iA 22 x58 x60) L4 fun g0B L9 =>
 oP E (lA 24 g0B) L9 fun g0C M4 =>
 oP E (xV (Instr.alloc 24 true (.tuple #[]))) M4 fun b1v N8 =>
 oP E (sA 24 b1v g0C) N8 fun _z_45 V1 =>
 oP E (lA 24 b1v) V1 fun g0D V2 =>
 oP E (xCall (fC 94) [x0, g0D]) V2 fun _t66_49 Q3 =>
 oP E (xBin .add 3 (.tmp 60) (.const (vI 1)) x60 (vI 1)) Q3 fun g0E R6 =>
 next6 [g0E] R6)
 (j5 [] L4)
def d0G (x0 x5 x10 x11 x12 : Value) (w : World) (j2 : NT) (R : RT) (E : Pan) : Prop :=
 ∀ _τ : Fr, (xcut (fun _ E1 => d0F x0 x5 x10 x11 x12 E1 j2 R E) fun j5 =>
 oP E (fA 63 x5 2) w fun g0F E2 =>
 oP E (lA 22 g0F) E2 fun d8H E3 =>
 oP E (xBuiltin .len #[22] 3 [false] [d8H]) E3 fun g0G L2 =>
 xloop [60] [(vI 0)] L2 fun τ_53 W0 next6 =>
 d8G x0 x5 x10 x11 x12 d8H g0G (τ_53 60) W0 next6 j5 R E)
def d8I (x0 _x5 _x10 _x11 _x12 x47 x48 x49 : Value) (w : World) (next7 : NT) (j4 : NT) (_R : RT) (E : Pan) : Prop :=
 oP E (xBin .lss 3 (.tmp 49) (.tmp 48) x49 x48) w fun g0H Z0 =>
 xcond g0H
 (oP E (iA 25 x47 x49) Z0 fun g0I X6 =>
 oP E (lA 27 g0I) X6 fun g0J X7 =>
 oP E (xV (Instr.alloc 27 true (.tuple #[]))) X7 fun e3J Z1 =>
 oP E (sA 27 e3J g0J) Z1 fun _z_71 a1t =>
 oP E (lA 27 e3J) a1t fun g0K a1V =>
 oP E (xCall (fC 93) [x0, g0K]) a1V fun _t55_75 a3k =>
 oP E (xBin .add 3 (.tmp 49) (.const (vI 1)) x49 (vI 1)) a3k fun g0L a3l =>
 next7 [g0L] a3l)
 (j4 [] Z0)
def d0H (x0 x5 x10 x11 x12 : Value) (w : World) (j2 : NT) (R : RT) (E : Pan) : Prop :=
 ∀ _τ : Fr, (xcut (fun _ X0 => d0G x0 x5 x10 x11 x12 X0 j2 R E) fun j4 =>
 oP E (fA 63 x5 3) w fun c4l Y9 =>
 oP E (lA 25 c4l) Y9 fun d8J W1 =>
 oP E (xBuiltin .len #[25] 3 [false] [d8J]) W1 fun g0M U0 =>
 xloop [49] [(vI 0)] U0 fun τ_79 a3Z next7 =>
 d8I x0 x5 x10 x11 x12 d8J g0M (τ_79 49) a3Z next7 j4 R E)
def d8K (x0 x10 x11 x12 : Value) (w : World) (next1 : NT) (R : RT) (E : Pan) : Prop :=
 oP E (xBin .lss 3 (.tmp 12) (.tmp 11) x12 x11) w fun b1l w_4 =>
 xcond b1l
 (xcut (fun _ w_8 => d0E x0 x10 x11 x12 w_8 next1 R E) fun j2 =>
 oP E (iA 42 x10 x12) w_4 fun a9p o7 =>
 oP E (lA 63 a9p) o7 fun b2l o4 =>
 oP E (xV (Instr.alloc 63 true (.tuple #[]))) o4 fun c4n o8 =>
 oP E (sA 63 c4n b2l) o8 fun _z_15 s6 =>
 xcut (fun _ a4x => d0H x0 c4n x10 x11 x12 a4x j2 R E) fun j3 =>
 oP E (fA 63 c4n 0) s6 fun g0N a4y =>
 oP E (lA 3 g0N) a4y fun d8L a5d =>
 oP E (xBin .eql 3 (.tmp 17) (.const (vI 1)) d8L (vI 1)) a5d fun g0O a4a =>
 xcond g0O
 (dX a4a fun c5p =>
 qP Tryd.prog (xNil x0) fun g0P =>
 qP Tryd.prog (fA 114 g0P 0) fun d0I =>
 qP Tryd.prog (fA 63 c4n 1) fun d8M =>
 qL Tryd.prog c5p (blk d0I) (lA 112 d0I) fun g0Q =>
 qL Tryd.prog c5p (blk d8M) (lA 9 d8M) fun g0R =>
 qP Tryd.prog (xV (Instr.build 117 #[(0, g0R), (1, (vI 1))])) fun g0S =>
 oP E (xV (Instr.buildSlice 112 1 #[(0, g0S)])) c5p fun g0T b9d =>
 keepX [(blk d0I)] c5p b9d (opK Tryd.prog E (xBuiltin .append #[112, 112] 112 [false, false] [g0Q, g0T]) b9d fun g0U c1Z =>
 keepX [] b9d c1Z (qP Tryd.prog (xNil x0) fun e8b =>
 qP Tryd.prog (fA 114 e8b 0) fun e8c =>
 oP E (sA 112 e8c g0U) c1Z fun _z_102 b1u =>
 keepX [] c1Z b1u (j3 [] b1u))))
 (oP E (xBin .eql 3 (.tmp 17) (.const (vI 2)) d8L (vI 2)) a4a fun e8d c6w =>
 xcond e8d
 (dX c6w fun a5q =>
 qP Tryd.prog (xNil x0) fun e8e =>
 qP Tryd.prog (fA 114 e8e 0) fun c5A =>
 qP Tryd.prog (fA 63 c4n 1) fun d2a =>
 qL Tryd.prog a5q (blk c5A) (lA 112 c5A) fun e8f =>
 qL Tryd.prog a5q (blk d2a) (lA 9 d2a) fun e8g =>
 qP Tryd.prog (xV (Instr.build 117 #[(0, e8g), (1, (vI 2))])) fun e8h =>
 oP E (xV (Instr.buildSlice 112 1 #[(0, e8h)])) a5q fun e8i a9q =>
 keepX [(blk c5A)] a5q a9q (opK Tryd.prog E (xBuiltin .append #[112, 112] 112 [false, false] [e8f, e8i]) a9q fun e8j b1m =>
 keepX [] a9q b1m (qP Tryd.prog (xNil x0) fun e8k =>
 qP Tryd.prog (fA 114 e8k 0) fun e8l =>
 oP E (sA 112 e8l e8j) b1m fun _z_119 b3U =>
 keepX [] b1m b3U (j3 [] b3U))))
 (j3 [] c6w)))
 (R (Value.tuple #[]) w_4)
def F55 (x0 x1 : Value) (w : World) (R : RT) (E : Pan) : Prop :=
 oP E (xBuiltin .len #[42] 3 [false] [x1]) w fun b1k w_2 =>
 xloop [12] [(vI 0)] w_2 fun τ_121 b3W next1 =>
 d8K x0 x1 b1k (τ_121 12) b3W next1 R E
noncomputable def c55 : Code := Tryd.f55.body.getD .skip
def h55 : Hint := (sQ (.block (.loop [12] (sQ (.seq (.cond .none .none) (.cut [] (.block (sQ (.cut [] (sQ (.block (sQ (.cond (.reg [(0, 1048576, 1), (0, 2097152, 1), (2, 4194304, 2097152), (4, 8388608, 4194304), (8, 16777216, 8388608), (0, 33554432, 32), (32, 67108864, 33554432), (64, 134217728, 67108864), (128, 268435456, 134217728), (272, 536870912, 285212672), (1023, 1073741824, 1048576), (2047, 2147483648, 1073741824), (3071, 0, 2684354560)] [80, 80, 80, 80, 64, 80, 16, 80, 16, 0, 80, 80, 0] (.early 0 (.early 1 (.early 2 (.early 3 (.early 5 (.load 4 (.load 6 (.early 7 (.step 8 (.step 9 (.early 10 (.early 11 (.step 12 .done)))))))))))))) (sQ (.cond (.reg [(0, 17179869184, 1), (0, 34359738368, 1), (2, 68719476736, 34359738368), (4, 137438953472, 68719476736), (8, 274877906944, 137438953472), (0, 549755813888, 32), (32, 1099511627776, 549755813888), (64, 2199023255552, 1099511627776), (128, 4398046511104, 2199023255552), (272, 8796093022208, 4672924418048), (1023, 17592186044416, 17179869184), (2047, 35184372088832, 17592186044416), (3071, 0, 43980465111040)] [80, 80, 80, 80, 64, 80, 16, 80, 16, 0, 80, 80, 0] (.early 0 (.early 1 (.early 2 (.early 3 (.early 5 (.load 4 (.load 6 (.early 7 (.step 8 (.step 9 (.early 10 (.early 11 (.step 12 .done)))))))))))))) .none)))))) (.cut [] (sQ (.block (.loop [49] (sQ (.seq (.cond .none .none) (.seq (.block (sQ .none)) .none)))))) (.cut [] (sQ (.block (.loop [60] (sQ (.seq (.cond .none .none) (.seq (.block (sQ .none)) .none)))))) (sQ .none)))))) .none))))))
theorem g0V (x0 x1 : Value) (w : World) (R : RT) (E : Pan) : F55 x0 x1 w R E = callX Tryd.prog [] c55 h55 [x0, x1] w R E := by kernel_rfl
theorem g0W {x0 x1 : Value} (h : F55 x0 x1 w R E) : Cv Tryd.prog 55 #[x0, x1] w R E := by
 refine f8 (args := [x0, x1]) (c := c55) (h := h55) (rs := []) Tryd.func55 (by kernel_rfl) (by kernel_rfl) (nB (by kernel_rfl)) (by kernel_rfl) (by kernel_rfl) (by kernel_rfl) ?_
 rw [← g0V]
 exact h
def F92 (x0 : Value) (w : World) (R : RT) (E : Pan) : Prop :=
 oP E (xV (Instr.box 58 x0)) w fun o5 w_2 =>
 oP E (fA 58 o5 1) w_2 fun S7 w_4 =>
 oP E (lA 3 S7) w_4 fun a3j w_6 =>
 oP E (xBin .gtr 3 (.tmp 4) (.const (vI 0)) a3j (vI 0)) w_6 fun a6d w_8 =>
 xcond a6d
 (R (vI 2) w_8)
 (R (vI 1) w_8)
noncomputable def c92 : Code := Tryd.f92.body.getD .skip
def h92 : Hint := (sQ (.seq (sQ (.cond (sQ .none) .none)) (sQ .none)))
theorem g0X (x0 : Value) (w : World) (R : RT) (E : Pan) : F92 x0 w R E = callX Tryd.prog [.tmp 2] c92 h92 [x0] w R E := by kernel_rfl
theorem g0Y {x0 : Value} (h : F92 x0 w R E) : Cv Tryd.prog 92 #[x0] w R E := by
 refine f8 (args := [x0]) (c := c92) (h := h92) (rs := [.tmp 2]) Tryd.func92 (by kernel_rfl) (by kernel_rfl) (nB (by kernel_rfl)) (by kernel_rfl) (by kernel_rfl) (by kernel_rfl) ?_
 rw [← g0X]
 exact h
def d8N (x0 x20 x21 x22 : Value) (w : World) (next2 : NT) (R : RT) (E : Pan) : Prop :=
 oP E (xBin .lss 3 (.tmp 22) (.tmp 21) x22 x21) w fun c6u o7 =>
 xcond c6u
 (oP E (iA 25 x20 x22) o7 fun c9z o4 =>
 oP E (lA 27 c9z) o4 fun c9A o8 =>
 oP E (xV (Instr.alloc 27 true (.tuple #[]))) o8 fun c6N s6 =>
 oP E (sA 27 c6N c9A) s6 fun _z_17 v7 =>
 oP E (lA 27 c6N) v7 fun c9B u1 =>
 oP E (xCall (fC 93) [x0, c9B]) u1 fun _t28_21 v8 =>
 oP E (xBin .add 3 (.tmp 22) (.const (vI 1)) x22 (vI 1)) v8 fun g0Z y6 =>
 next2 [g0Z] y6)
 (R (Value.tuple #[]) o7)
def d0J (x0 x3 : Value) (w : World) (R : RT) (E : Pan) : Prop :=
 ∀ _τ : Fr, (oP E (fA 27 x3 3) w fun d4d w_4 =>
 oP E (lA 25 d4d) w_4 fun c6t w_6 =>
 oP E (xBuiltin .len #[25] 3 [false] [c6t]) w_6 fun c6r w_8 =>
 xloop [22] [(vI 0)] w_8 fun τ_25 z6 next2 =>
 d8N x0 c6t c6r (τ_25 22) z6 next2 R E)
def d8O (x0 _x3 x9 x10 x11 : Value) (w : World) (next3 : NT) (j1 : NT) (_R : RT) (E : Pan) : Prop :=
 oP E (xBin .lss 3 (.tmp 11) (.tmp 10) x11 x10) w fun g1a L2 =>
 xcond g1a
 (oP E (iA 22 x9 x11) L2 fun b9s L4 =>
 oP E (lA 24 b9s) L4 fun d0K L9 =>
 oP E (xV (Instr.alloc 24 true (.tuple #[]))) L9 fun e3K M4 =>
 oP E (sA 24 e3K d0K) M4 fun _z_43 N8 =>
 oP E (lA 24 e3K) N8 fun c2T V1 =>
 oP E (xCall (fC 94) [x0, c2T]) V1 fun _t17_47 V2 =>
 oP E (xBin .add 3 (.tmp 11) (.const (vI 1)) x11 (vI 1)) V2 fun c2U Q3 =>
 next3 [c2U] Q3)
 (j1 [] L2)
def F93 (x0 x1 : Value) (w : World) (R : RT) (E : Pan) : Prop :=
 oP E (xV (Instr.box 27 x1)) w fun b1a w_2 =>
 xcut (fun _ E5 => d0J x0 b1a E5 R E) fun j1 =>
 oP E (fA 27 b1a 2) w_2 fun g3v E1 =>
 oP E (lA 22 g3v) E1 fun e3L E2 =>
 oP E (xBuiltin .len #[22] 3 [false] [e3L]) E2 fun g1b E3 =>
 xloop [11] [(vI 0)] E3 fun τ_51 R6 next3 =>
 d8O x0 b1a e3L g1b (τ_51 11) R6 next3 j1 R E
noncomputable def c93 : Code := Tryd.f93.body.getD .skip
def h93 : Hint := (sQ (.cut [] (sQ (.block (.loop [11] (sQ (.seq (.cond .none .none) (.seq (.block (sQ .none)) .none)))))) (sQ (.block (.loop [22] (sQ (.seq (.cond .none .none) (.seq (.block (sQ .none)) .none))))))))
theorem g1c (x0 x1 : Value) (w : World) (R : RT) (E : Pan) : F93 x0 x1 w R E = callX Tryd.prog [] c93 h93 [x0, x1] w R E := by kernel_rfl
theorem g1d {x0 x1 : Value} (h : F93 x0 x1 w R E) : Cv Tryd.prog 93 #[x0, x1] w R E := by
 refine f8 (args := [x0, x1]) (c := c93) (h := h93) (rs := []) Tryd.func93 (by kernel_rfl) (by kernel_rfl) (nB (by kernel_rfl)) (by kernel_rfl) (by kernel_rfl) (by kernel_rfl) ?_
 rw [← g1c]
 exact h
def d8P (x0 x37 x38 x39 : Value) (w : World) (next2 : NT) (R : RT) (E : Pan) : Prop :=
 oP E (xBin .lss 3 (.tmp 39) (.tmp 38) x39 x38) w fun g3w o7 =>
 xcond g3w
 (oP E (iA 22 x37 x39) o7 fun g1e o4 =>
 oP E (lA 24 g1e) o4 fun g1f o8 =>
 oP E (xV (Instr.alloc 24 true (.tuple #[]))) o8 fun e3M s6 =>
 oP E (sA 24 e3M g1f) s6 fun _z_17 v7 =>
 oP E (lA 24 e3M) v7 fun g1g u1 =>
 oP E (xCall (fC 94) [x0, g1g]) u1 fun _t45_21 v8 =>
 oP E (xBin .add 3 (.tmp 39) (.const (vI 1)) x39 (vI 1)) v8 fun g1h y6 =>
 next2 [g1h] y6)
 (R (Value.tuple #[]) o7)
def d0L (x0 x3 : Value) (w : World) (R : RT) (E : Pan) : Prop :=
 ∀ _τ : Fr, (oP E (fA 24 x3 3) w fun g3x w_4 =>
 oP E (lA 22 g3x) w_4 fun e3N w_6 =>
 oP E (xBuiltin .len #[22] 3 [false] [e3N]) w_6 fun g3y w_8 =>
 xloop [39] [(vI 0)] w_8 fun τ_25 z6 next2 =>
 d8P x0 e3N g3y (τ_25 39) z6 next2 R E)
def F94 (x0 x1 : Value) (w : World) (R : RT) (E : Pan) : Prop :=
 oP E (xV (Instr.box 24 x1)) w fun b1a w_2 =>
 xcut (fun _ E5 => d0L x0 b1a E5 R E) fun j1 =>
 oP E (fA 24 b1a 0) w_2 fun g3z E1 =>
 oP E (lA 3 g3z) E1 fun e3O E2 =>
 oP E (xBin .eql 3 (.tmp 7) (.const (vI 2)) e3O (vI 2)) E2 fun g3A E3 =>
 xcond g3A
 (dX E3 fun a9z =>
 qP Tryd.prog (xNil x0) fun g1i =>
 qP Tryd.prog (fA 114 g1i 0) fun b9s =>
 qP Tryd.prog (fA 24 b1a 2) fun d8Q =>
 qL Tryd.prog a9z (blk b9s) (lA 112 b9s) fun d0K =>
 qL Tryd.prog a9z (blk d8Q) (lA 9 d8Q) fun g1j =>
 qP Tryd.prog (xV (Instr.build 117 #[(0, g1j), (1, (vI 1))])) fun g1k =>
 oP E (xV (Instr.buildSlice 112 1 #[(0, g1k)])) a9z fun g1l b6j =>
 keepX [(blk b9s)] a9z b6j (opK Tryd.prog E (xBuiltin .append #[112, 112] 112 [false, false] [d0K, g1l]) b6j fun g1m b4y =>
 keepX [] b6j b4y (qP Tryd.prog (xNil x0) fun g1n =>
 qP Tryd.prog (fA 114 g1n 0) fun g1o =>
 oP E (sA 112 g1o g1m) b4y fun _z_48 b2n =>
 keepX [] b4y b2n (j1 [] b2n))))
 (oP E (xBin .eql 3 (.tmp 7) (.const (vI 4)) e3O (vI 4)) E3 fun g1p c9M =>
 xcond g1p
 (dX c9M fun R6 =>
 qP Tryd.prog (xNil x0) fun g1q =>
 qP Tryd.prog (fA 114 g1q 0) fun d0M =>
 qP Tryd.prog (fA 24 b1a 2) fun d8R =>
 qL Tryd.prog R6 (blk d0M) (lA 112 d0M) fun g1r =>
 qL Tryd.prog R6 (blk d8R) (lA 9 d8R) fun g1s =>
 qP Tryd.prog (xV (Instr.build 117 #[(0, g1s), (1, (vI 2))])) fun g1t =>
 oP E (xV (Instr.buildSlice 112 1 #[(0, g1t)])) R6 fun c8g W1 =>
 keepX [(blk d0M)] R6 W1 (opK Tryd.prog E (xBuiltin .append #[112, 112] 112 [false, false] [g1r, c8g]) W1 fun c8h U0 =>
 keepX [] W1 U0 (qP Tryd.prog (xNil x0) fun c8i =>
 qP Tryd.prog (fA 114 c8i 0) fun g1u =>
 oP E (sA 112 g1u c8h) U0 fun _z_65 X6 =>
 keepX [] U0 X6 (j1 [] X6))))
 (j1 [] c9M))
noncomputable def c94 : Code := Tryd.f94.body.getD .skip
def h94 : Hint := (sQ (.cut [] (sQ (.block (sQ (.cond (.reg [(0, 1024, 1), (0, 2048, 1), (2, 4096, 2048), (4, 8192, 4096), (8, 16384, 8192), (0, 32768, 8), (32, 65536, 32768), (64, 131072, 65536), (128, 262144, 131072), (272, 524288, 278528), (1023, 1048576, 1024), (2047, 2097152, 1048576), (3071, 0, 2621440)] [80, 80, 80, 80, 64, 80, 16, 80, 16, 0, 80, 80, 0] (.early 0 (.early 1 (.early 2 (.early 3 (.early 5 (.load 4 (.load 6 (.early 7 (.step 8 (.step 9 (.early 10 (.early 11 (.step 12 .done)))))))))))))) (sQ (.cond (.reg [(0, 16777216, 1), (0, 33554432, 1), (2, 67108864, 33554432), (4, 134217728, 67108864), (8, 268435456, 134217728), (0, 536870912, 8), (32, 1073741824, 536870912), (64, 2147483648, 1073741824), (128, 4294967296, 2147483648), (272, 8589934592, 4563402752), (1023, 17179869184, 16777216), (2047, 34359738368, 17179869184), (3071, 0, 42949672960)] [80, 80, 80, 80, 64, 80, 16, 80, 16, 0, 80, 80, 0] (.early 0 (.early 1 (.early 2 (.early 3 (.early 5 (.load 4 (.load 6 (.early 7 (.step 8 (.step 9 (.early 10 (.early 11 (.step 12 .done)))))))))))))) .none)))))) (sQ (.block (.loop [39] (sQ (.seq (.cond .none .none) (.seq (.block (sQ .none)) .none))))))))
theorem g1v (x0 x1 : Value) (w : World) (R : RT) (E : Pan) : F94 x0 x1 w R E = callX Tryd.prog [] c94 h94 [x0, x1] w R E := by kernel_rfl
theorem g1w {x0 x1 : Value} (h : F94 x0 x1 w R E) : Cv Tryd.prog 94 #[x0, x1] w R E := by
 refine f8 (args := [x0, x1]) (c := c94) (h := h94) (rs := []) Tryd.func94 (by kernel_rfl) (by kernel_rfl) (nB (by kernel_rfl)) (by kernel_rfl) (by kernel_rfl) (by kernel_rfl) ?_
 rw [← g1v]
 exact h
end Go.Proofs.YtnhkdkcgdcgmdaaDoor
