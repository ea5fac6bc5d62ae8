/- The second reading of some of the program's functions, printed by gen2.py off the code; each is held against the code by the kernel. -/
import Derived.Test.YtnhkdkcgdcgmdaaGreatDoorProg
import Derived.Test.YtnhkdkcgdcgmdaaGreatDoorzPK0
import Derived.KernelRfl
import Derived.Test.YtnhkdkcgdcgmdaaGreatDoorzPGz
namespace Go.Proofs.YtnhkdkcgdcgmdaaGreatDoor
open Go.RowKit
set_option maxRecDepth 100000
variable {w : World} {R : RT} {E : Pan}
def d3o (x7 x9 : Value) (w : World) (R : RT) (_E : Pan) : Prop :=
 ∀ _τ : Fr, (R (Value.tuple #[x9, x7]) w)
def e2F (x5 x7 x9 x37 x38 x39 : Value) (w : World) (next2 : NT) (j1 : NT) (_R : RT) (E : Pan) : Prop :=
 oP E (xBin .lss 3 (.tmp 39) (.tmp 38) x39 x38) w fun h0C K6 =>
 xcond h0C
 (oP E (iA 123 x37 x39) K6 fun h0D M9 =>
 oP E (lA 127 h0D) M9 fun h0E O1 =>
 oP E (xV (Instr.alloc 127 true (.tuple #[]))) O1 fun c0s N8 =>
 oP E (sA 127 c0s h0E) N8 fun _z_51 M2 =>
 oP E (fA 127 c0s 0) M2 fun h0F O0 =>
 oP E (lA 9 h0F) O0 fun h0G O8 =>
 oP E (xV (Instr.lookup 119 x5 h0G false)) O8 fun c5e O9 =>
 oP E (fA 127 c0s 1) O9 fun h0H R8 =>
 oP E (lA 3 h0H) R8 fun h0I Q1 =>
 oP E (xBin .eql 3 (.tmp 46) (.tmp 51) c5e h0I) Q1 fun h0J T3 =>
 xcond h0J
 (oP E (xBin .add 3 (.tmp 39) (.const (vI 1)) x39 (vI 1)) T3 fun h0K U5 =>
 next2 [x7, x9, h0K] U5)
 (oP E (xBin .eql 3 (.tmp 46) (.const (vI 0)) c5e (vI 0)) T3 fun h0L W9 =>
 xcond h0L
 (oP E (fA 127 c0s 0) W9 fun h0M S3 =>
 oP E (lA 9 h0M) S3 fun h0N Z1 =>
 j1 [(vI 63), h0N] Z1)
 (oP E (fA 127 c0s 0) W9 fun h0O a0O =>
 oP E (lA 9 h0O) a0O fun h0P Y4 =>
 j1 [(vI 64), h0P] Y4)))
 (j1 [x7, x9] K6)
def F33 (x0 : Value) (w : World) (R : RT) (E : Pan) : Prop :=
 oP E (xV (Instr.box 25 x0)) w fun q7 w_2 =>
 oP E (lA 25 q7) w_2 fun c4A w_4 =>
 oP E (xCall (fC 24) [c4A]) w_4 fun a9M w_6 =>
 oP E (xBin .neq 27 (.tmp 14) (.const (vI 0)) a9M (vI 0)) w_6 fun d6P w_8 =>
 xcond d6P
 (R (Value.tuple #[(eS), a9M]) w_8)
 (oP E (fA 25 q7 0) w_8 fun b7Y o7 =>
 oP E (lA 22 b7Y) o7 fun b1i p7 =>
 oP E (xCall (fC 57) [b1i]) p7 fun b3s o8 =>
 oP E (eX b3s 0) o8 fun b9K r5 =>
 oP E (eX b3s 1) r5 fun c9k t8 =>
 oP E (eX b3s 2) t8 fun d3p t7 =>
 oP E (xBin .neq 27 (.tmp 24) (.const (vI 0)) d3p (vI 0)) t7 fun c9l u6 =>
 xcond c9l
 (R (Value.tuple #[c9k, d3p]) u6)
 (oP E (xV (Instr.build 125 #[])) u6 fun c9c v6 =>
 oP E (xV (Instr.box 125 c9c)) v6 fun e2G y7 =>
 oP E (fA 25 q7 1) y7 fun h0Q C4 =>
 oP E (lA 23 h0Q) C4 fun c3S H7 =>
 oP E (xCall (fC 58) [e2G, c3S]) H7 fun _t33_31 D6 =>
 xcut (fun d0y A6 => d3o (nth d0y 0) (nth d0y.tail 0) A6 R E) fun j1 =>
 oP E (xNil e2G) D6 fun d3e K5 =>
 oP E (fA 125 d3e 0) K5 fun d3f K0 =>
 oP E (lA 123 d3f) K0 fun a8x H9 =>
 oP E (xBuiltin .len #[123] 3 [false] [a8x]) H9 fun b6a I0 =>
 xloop [7, 9, 39] [d3p, (eS), (vI 0)] I0 fun τ_77 Z4 next2 =>
 e2F b9K (τ_77 7) (τ_77 9) a8x b6a (τ_77 39) Z4 next2 j1 R E))
noncomputable def c33 : Code := Tryz.f33.body.getD .skip
def h33 : Hint := (sQ (.scope (.seq (sQ (sQ (.cond (sQ .none) .none))) (sQ (.seq (sQ (.cond (sQ .none) .none)) (sQ (sQ (sQ (sQ (.cut [7, 9] (sQ (.block (.loop [7, 9, 39] (sQ (.seq (.cond .none .none) (.seq (.block (sQ (sQ (.block (sQ (.cond .none (sQ (.cond (sQ .none) (sQ .none))))))))) .none)))))) (sQ .none)))))))))))
theorem h0R (x0 : Value) (w : World) (R : RT) (E : Pan) : F33 x0 w R E = callX Tryz.prog [.tmp 2, .tmp 3] c33 h33 [x0] w R E := by kernel_rfl
theorem h0S {x0 : Value} (h : F33 x0 w R E) : Cv Tryz.prog 33 #[x0] w R E := by
 refine i7 (args := [x0]) (c := c33) (h := h33) (rs := [.tmp 2, .tmp 3]) Tryz.func33 (by kernel_rfl) (by kernel_rfl) (nB (by kernel_rfl)) (by kernel_rfl) (by kernel_rfl) (by kernel_rfl) ?_
 rw [← h0R]
 exact h
def e2H (x5 : Value) (w : World) (R : RT) (_E : Pan) : Prop :=
 ∀ _τ : Fr, (R (Value.tuple #[x5, (eS), (vI 0)]) w)
def e2I (x5 x6 x13 x14 x15 : Value) (w : World) (next2 : NT) (j1 : NT) (R : RT) (E : Pan) : Prop :=
 oP E (xBin .lss 3 (.tmp 15) (.tmp 14) x15 x14) w fun b9N o8 =>
 xcond b9N
 (oP E (iA 22 x13 x15) o8 fun a5Q r5 =>
 oP E (lA 71 a5Q) r5 fun b8T t8 =>
 oP E (xV (Instr.alloc 71 true (.tuple #[]))) t8 fun b4F t7 =>
 oP E (sA 71 b4F b8T) t7 fun _z_21 u6 =>
 oP E (lA 71 b4F) u6 fun d1v v6 =>
 oP E (xCall (fC 100) [d1v]) v6 fun c5f y7 =>
 oP E (xV (Instr.lookup 165 x6 c5f false)) y7 fun b3t C4 =>
 oP E (xBin .sub 3 (.tmp 23) (.const (vI 1)) b3t (vI 1)) C4 fun b9S H7 =>
 oP E (xU (Instr.mapUpdate 165 x6 c5f b9S)) H7 fun _z_31 D6 =>
 oP E (fA 71 b4F 0) D6 fun d0P A6 =>
 oP E (lA 9 d0P) A6 fun d0Q K5 =>
 oP E (xV (Instr.lookup 119 x5 d0Q false)) K5 fun d0R K0 =>
 oP E (xBin .neq 3 (.tmp 29) (.const (vI 0)) d0R (vI 0)) K0 fun d0S H9 =>
 xcond d0S
 (dX H9 fun b2O =>
 qP Tryz.prog (fA 71 b4F 0) fun c3Q =>
 qL Tryz.prog b2O (blk c3Q) (lA 9 c3Q) fun h0T =>
 R (Value.tuple #[(Value.map none), h0T, (vI 60)]) b2O)
 (oP E (fA 71 b4F 1) H9 fun h0U a8H =>
 oP E (lA 3 h0U) a8H fun h0V b8X =>
 oP E (xBin .gtr 3 (.tmp 35) (.const (vI 1024)) h0V (vI 1024)) b8X fun h0W b0f =>
 xcond h0W
 (dX b0f fun N8 =>
 qP Tryz.prog (fA 71 b4F 0) fun c4v =>
 qL Tryz.prog N8 (blk c4v) (lA 9 c4v) fun h0X =>
 R (Value.tuple #[(Value.map none), h0X, (vI 61)]) N8)
 (oP E (xV (Instr.lookup 165 x6 c5f false)) b0f fun h0Y O0 =>
 oP E (xBin .lss 3 (.tmp 42) (.const (vI 0)) h0Y (vI 0)) O0 fun h0Z O8 =>
 xcond h0Z
 (dX O8 fun b3o =>
 qP Tryz.prog (fA 71 b4F 0) fun e2J =>
 qL Tryz.prog b3o (blk e2J) (lA 9 e2J) fun d3b =>
 R (Value.tuple #[(Value.map none), d3b, (vI 62)]) b3o)
 (oP E (fA 71 b4F 0) O8 fun h1a b7i =>
 oP E (lA 9 h1a) b7i fun h1b b3D =>
 oP E (xU (Instr.mapUpdate 119 x5 h1b c5f)) b3D fun _z_64 b1x =>
 oP E (xBin .add 3 (.tmp 15) (.const (vI 1)) x15 (vI 1)) b1x fun h1c a6Z =>
 next2 [h1c] a6Z))))
 (j1 [] o8)
def F57 (x0 : Value) (w : World) (R : RT) (E : Pan) : Prop :=
 oP E (xV (Instr.makeMap 119 none)) w fun c0H w_2 =>
 oP E (xV (Instr.makeMap 165 none)) w_2 fun a4b w_4 =>
 oP E (xU (Instr.mapUpdate 165 a4b (vI 1) (vI 32))) w_4 fun _z_5 w_6 =>
 oP E (xU (Instr.mapUpdate 165 a4b (vI 2) (vI 16))) w_6 fun _z_7 w_8 =>
 xcut (fun _ o7 => e2H c0H o7 R E) fun j1 =>
 oP E (xBuiltin .len #[22] 3 [false] [x0]) w_8 fun d2S p7 =>
 xloop [15] [(vI 0)] p7 fun τ_68 d1o next2 =>
 e2I c0H a4b x0 d2S (τ_68 15) d1o next2 j1 R E
noncomputable def c57 : Code := Tryz.f57.body.getD .skip
def h57 : Hint := (sQ (sQ (sQ (.cut [] (sQ (.block (.loop [15] (sQ (.seq (.cond .none .none) (.seq (.block (sQ (sQ (sQ (.seq (.block (sQ (.cond (.seq (.reg [(0, 2147483648, 256), (1, 4294967296, 2147483648), (0, 4, 0), (7, 8, 4294967296), (15, 16, 0)] [2, 0, 2, 2, 2] (.early 0 (.early 2 (.load 1 (.early 3 (.early 4 .done)))))) .none) (sQ (.cond (.seq (.reg [(0, 137438953472, 256), (1, 274877906944, 137438953472), (0, 4, 0), (7, 8, 274877906944), (15, 16, 0)] [2, 0, 2, 2, 2] (.early 0 (.early 2 (.load 1 (.early 3 (.early 4 .done)))))) .none) (sQ (.cond (.seq (.reg [(0, 17592186044416, 256), (1, 35184372088832, 17592186044416), (0, 4, 0), (7, 8, 35184372088832), (15, 16, 0)] [2, 0, 2, 2, 2] (.early 0 (.early 2 (.load 1 (.early 3 (.early 4 .done)))))) .none) .none))))))) .none))))) .none)))))) (sQ .none)))))
theorem h1d (x0 : Value) (w : World) (R : RT) (E : Pan) : F57 x0 w R E = callX Tryz.prog [.tmp 2, .tmp 3, .tmp 4] c57 h57 [x0] w R E := by kernel_rfl
theorem h1e {x0 : Value} (h : F57 x0 w R E) : Cv Tryz.prog 57 #[x0] w R E := by
 refine i7 (args := [x0]) (c := c57) (h := h57) (rs := [.tmp 2, .tmp 3, .tmp 4]) Tryz.func57 (by kernel_rfl) (by kernel_rfl) (nB (by kernel_rfl)) (by kernel_rfl) (by kernel_rfl) (by kernel_rfl) ?_
 rw [← h1d]
 exact h
def d3q (_x0 _x10 _x11 x12 : Value) (w : World) (next1 : NT) (_R : RT) (E : Pan) : Prop :=
 ∀ _τ : Fr, (oP E (xBin .add 3 (.tmp 12) (.const (vI 1)) x12 (vI 1)) w fun h5r w_6 =>
 next1 [h5r] w_6)
def d3r (x0 x5 _x10 _x11 _x12 : Value) (w : World) (j2 : NT) (_R : RT) (E : Pan) : Prop :=
 ∀ _τ : Fr, (oP E (fA 73 x5 4) w fun h1f t8 =>
 oP E (lA 23 h1f) t8 fun h1g t7 =>
 oP E (xCall (fC 58) [x0, h1g]) t7 fun _t71_21 u6 =>
 oP E (fA 73 x5 5) u6 fun h1h v6 =>
 oP E (lA 23 h1h) v6 fun h1i y7 =>
 oP E (xCall (fC 58) [x0, h1i]) y7 fun _t75_27 C4 =>
 j2 [] C4)
def e2K (x0 _x5 _x10 _x11 _x12 x58 x59 x60 : Value) (w : World) (next6 : NT) (j5 : NT) (_R : RT) (E : Pan) : Prop :=
 oP E (xBin .lss 3 (.tmp 60) (.tmp 59) x60 x59) w fun h1j K0 =>
 xcond h1j
 (oP E (iA 51 x58 x60) K0 fun h1k H9 =>
 oP E (lA 53 h1k) H9 fun h1l I0 =>
 oP E (xV (Instr.alloc 53 true (.tuple #[]))) I0 fun b2c K6 =>
 oP E (sA 53 b2c h1l) K6 fun _z_45 M9 =>
 oP E (lA 53 b2c) M9 fun h1m O1 =>
 oP E (xCall (fC 102) [x0, h1m]) O1 fun _t66_49 N8 =>
 oP E (xBin .add 3 (.tmp 60) (.const (vI 1)) x60 (vI 1)) N8 fun h1n M2 =>
 next6 [h1n] M2)
 (j5 [] K0)
def d3s (x0 x5 x10 x11 x12 : Value) (w : World) (j2 : NT) (R : RT) (E : Pan) : Prop :=
 ∀ _τ : Fr, (xcut (fun _ H7 => d3r x0 x5 x10 x11 x12 H7 j2 R E) fun j5 =>
 oP E (fA 73 x5 2) w fun h1o D6 =>
 oP E (lA 51 h1o) D6 fun e2L A6 =>
 oP E (xBuiltin .len #[51] 3 [false] [e2L]) A6 fun h1p K5 =>
 xloop [60] [(vI 0)] K5 fun τ_53 O0 next6 =>
 e2K x0 x5 x10 x11 x12 e2L h1p (τ_53 60) O0 next6 j5 R E)
def e2M (x0 _x5 _x10 _x11 _x12 x47 x48 x49 : Value) (w : World) (next7 : NT) (j4 : NT) (_R : RT) (E : Pan) : Prop :=
 oP E (xBin .lss 3 (.tmp 49) (.tmp 48) x49 x48) w fun h1q T3 =>
 xcond h1q
 (oP E (iA 57 x47 x49) T3 fun h1r U5 =>
 oP E (lA 59 h1r) U5 fun h1s W9 =>
 oP E (xV (Instr.alloc 59 true (.tuple #[]))) W9 fun e8X S3 =>
 oP E (sA 59 e8X h1s) S3 fun _z_71 Z1 =>
 oP E (lA 59 e8X) Z1 fun d3c a0O =>
 oP E (xCall (fC 101) [x0, d3c]) a0O fun _t55_75 Y4 =>
 oP E (xBin .add 3 (.tmp 49) (.const (vI 1)) x49 (vI 1)) Y4 fun d3d Z4 =>
 next7 [d3d] Z4)
 (j4 [] T3)
def d3t (x0 x5 x10 x11 x12 : Value) (w : World) (j2 : NT) (R : RT) (E : Pan) : Prop :=
 ∀ _τ : Fr, (xcut (fun _ O8 => d3s x0 x5 x10 x11 x12 O8 j2 R E) fun j4 =>
 oP E (fA 73 x5 3) w fun c5e O9 =>
 oP E (lA 57 c5e) O9 fun e2N R8 =>
 oP E (xBuiltin .len #[57] 3 [false] [e2N]) R8 fun h1t Q1 =>
 xloop [49] [(vI 0)] Q1 fun τ_79 a2e next7 =>
 e2M x0 x5 x10 x11 x12 e2N h1t (τ_79 49) a2e next7 j4 R E)
def e2O (x0 x10 x11 x12 : Value) (w : World) (next1 : NT) (R : RT) (E : Pan) : Prop :=
 oP E (xBin .lss 3 (.tmp 12) (.tmp 11) x12 x11) w fun d6O w_4 =>
 xcond d6O
 (xcut (fun _ w_8 => d3q x0 x10 x11 x12 w_8 next1 R E) fun j2 =>
 oP E (iA 23 x10 x12) w_4 fun a5x o7 =>
 oP E (lA 73 a5x) o7 fun a5P p7 =>
 oP E (xV (Instr.alloc 73 true (.tuple #[]))) p7 fun c5g o8 =>
 oP E (sA 73 c5g a5P) o8 fun _z_15 r5 =>
 xcut (fun _ Y5 => d3t x0 c5g x10 x11 x12 Y5 j2 R E) fun j3 =>
 oP E (fA 73 c5g 0) r5 fun h1u X0 =>
 oP E (lA 3 h1u) X0 fun e2P a0x =>
 oP E (xBin .eql 3 (.tmp 17) (.const (vI 1)) e2P (vI 1)) a0x fun h1v V9 =>
 xcond h1v
 (dX V9 fun b3E =>
 qP Tryz.prog (xNil x0) fun h1w =>
 qP Tryz.prog (fA 125 h1w 0) fun d3u =>
 qP Tryz.prog (fA 73 c5g 1) fun e2Q =>
 qL Tryz.prog b3E (blk d3u) (lA 123 d3u) fun h1x =>
 qL Tryz.prog b3E (blk e2Q) (lA 9 e2Q) fun h1y =>
 qP Tryz.prog (xV (Instr.build 127 #[(0, h1y), (1, (vI 1))])) fun h1z =>
 oP E (xV (Instr.buildSlice 123 1 #[(0, h1z)])) b3E fun h1A a7d =>
 keepX [(blk d3u)] b3E a7d (opK Tryz.prog E (xBuiltin .append #[123, 123] 123 [false, false] [h1x, h1A]) a7d fun h1B b7G =>
 keepX [] a7d b7G (qP Tryz.prog (xNil x0) fun f5s =>
 qP Tryz.prog (fA 125 f5s 0) fun f5t =>
 oP E (sA 123 f5t h1B) b7G fun _z_102 b7I =>
 keepX [] b7G b7I (j3 [] b7I))))
 (oP E (xBin .eql 3 (.tmp 17) (.const (vI 2)) e2P (vI 2)) V9 fun f5u b4x =>
 xcond f5u
 (dX b4x fun a3D =>
 qP Tryz.prog (xNil x0) fun f5v =>
 qP Tryz.prog (fA 125 f5v 0) fun c6I =>
 qP Tryz.prog (fA 73 c5g 1) fun d5h =>
 qL Tryz.prog a3D (blk c6I) (lA 123 c6I) fun f5w =>
 qL Tryz.prog a3D (blk d5h) (lA 9 d5h) fun f5x =>
 qP Tryz.prog (xV (Instr.build 127 #[(0, f5x), (1, (vI 2))])) fun f5y =>
 oP E (xV (Instr.buildSlice 123 1 #[(0, f5y)])) a3D fun f5z a0X =>
 keepX [(blk c6I)] a3D a0X (opK Tryz.prog E (xBuiltin .append #[123, 123] 123 [false, false] [f5w, f5z]) a0X fun f5A a3d =>
 keepX [] a0X a3d (qP Tryz.prog (xNil x0) fun f5B =>
 qP Tryz.prog (fA 125 f5B 0) fun f5C =>
 oP E (sA 123 f5C f5A) a3d fun _z_119 a0I =>
 keepX [] a3d a0I (j3 [] a0I))))
 (j3 [] b4x)))
 (R (Value.tuple #[]) w_4)
def F58 (x0 x1 : Value) (w : World) (R : RT) (E : Pan) : Prop :=
 oP E (xBuiltin .len #[23] 3 [false] [x1]) w fun d6N w_2 =>
 xloop [12] [(vI 0)] w_2 fun τ_121 a6o next1 =>
 e2O x0 x1 d6N (τ_121 12) a6o next1 R E
noncomputable def c58 : Code := Tryz.f58.body.getD .skip
def h58 : Hint := (sQ (.block (.loop [12] (sQ (.seq (.cond .none .none) (.cut [] (.block (sQ (.cut [] (sQ (.block (sQ (.cond (.reg [(0, 1048576, 1), (0, 2097152, 1), (2, 4194304, 2097152), (4, 8388608, 4194304), (8, 16777216, 8388608), (0, 33554432, 32), (32, 67108864, 33554432), (64, 134217728, 67108864), (128, 268435456, 134217728), (272, 536870912, 285212672), (1023, 1073741824, 1048576), (2047, 2147483648, 1073741824), (3071, 0, 2684354560)] [80, 80, 80, 80, 64, 80, 16, 80, 16, 0, 80, 80, 0] (.early 0 (.early 1 (.early 2 (.early 3 (.early 5 (.load 4 (.load 6 (.early 7 (.step 8 (.step 9 (.early 10 (.early 11 (.step 12 .done)))))))))))))) (sQ (.cond (.reg [(0, 17179869184, 1), (0, 34359738368, 1), (2, 68719476736, 34359738368), (4, 137438953472, 68719476736), (8, 274877906944, 137438953472), (0, 549755813888, 32), (32, 1099511627776, 549755813888), (64, 2199023255552, 1099511627776), (128, 4398046511104, 2199023255552), (272, 8796093022208, 4672924418048), (1023, 17592186044416, 17179869184), (2047, 35184372088832, 17592186044416), (3071, 0, 43980465111040)] [80, 80, 80, 80, 64, 80, 16, 80, 16, 0, 80, 80, 0] (.early 0 (.early 1 (.early 2 (.early 3 (.early 5 (.load 4 (.load 6 (.early 7 (.step 8 (.step 9 (.early 10 (.early 11 (.step 12 .done)))))))))))))) .none)))))) (.cut [] (sQ (.block (.loop [49] (sQ (.seq (.cond .none .none) (.seq (.block (sQ .none)) .none)))))) (.cut [] (sQ (.block (.loop [60] (sQ (.seq (.cond .none .none) (.seq (.block (sQ .none)) .none)))))) (sQ .none)))))) .none))))))
theorem h1C (x0 x1 : Value) (w : World) (R : RT) (E : Pan) : F58 x0 x1 w R E = callX Tryz.prog [] c58 h58 [x0, x1] w R E := by kernel_rfl
theorem h1D {x0 x1 : Value} (h : F58 x0 x1 w R E) : Cv Tryz.prog 58 #[x0, x1] w R E := by
 refine i7 (args := [x0, x1]) (c := c58) (h := h58) (rs := []) Tryz.func58 (by kernel_rfl) (by kernel_rfl) (nB (by kernel_rfl)) (by kernel_rfl) (by kernel_rfl) (by kernel_rfl) ?_
 rw [← h1C]
 exact h
def d8H (x0 : Value) (w : World) (R : RT) (E : Pan) : Prop :=
 oP E (xV (Instr.box 71 x0)) w fun q7 w_2 =>
 oP E (fA 71 q7 1) w_2 fun a0p w_4 =>
 oP E (lA 3 a0p) w_4 fun a3L w_6 =>
 oP E (xBin .gtr 3 (.tmp 4) (.const (vI 0)) a3L (vI 0)) w_6 fun a6l w_8 =>
 xcond a6l
 (R (vI 2) w_8)
 (R (vI 1) w_8)
noncomputable def h1E : Code := Tryz.f100.body.getD .skip
def h1F : Hint := (sQ (.seq (sQ (.cond (sQ .none) .none)) (sQ .none)))
theorem f5D (x0 : Value) (w : World) (R : RT) (E : Pan) : d8H x0 w R E = callX Tryz.prog [.tmp 2] h1E h1F [x0] w R E := by kernel_rfl
theorem f5E {x0 : Value} (h : d8H x0 w R E) : Cv Tryz.prog 100 #[x0] w R E := by
 refine i7 (args := [x0]) (c := h1E) (h := h1F) (rs := [.tmp 2]) Tryz.func100 (by kernel_rfl) (by kernel_rfl) (nB (by kernel_rfl)) (by kernel_rfl) (by kernel_rfl) (by kernel_rfl) ?_
 rw [← f5D]
 exact h
def d5i (x0 x20 x21 x22 : Value) (w : World) (next2 : NT) (R : RT) (E : Pan) : Prop :=
 oP E (xBin .lss 3 (.tmp 22) (.tmp 21) x22 x21) w fun h5s o7 =>
 xcond h5s
 (oP E (iA 57 x20 x22) o7 fun b6p p7 =>
 oP E (lA 59 b6p) p7 fun h1G o8 =>
 oP E (xV (Instr.alloc 59 true (.tuple #[]))) o8 fun a5i r5 =>
 oP E (sA 59 a5i h1G) r5 fun _z_17 t8 =>
 oP E (lA 59 a5i) t8 fun d2v t7 =>
 oP E (xCall (fC 101) [x0, d2v]) t7 fun _t28_21 u6 =>
 oP E (xBin .add 3 (.tmp 22) (.const (vI 1)) x22 (vI 1)) u6 fun h1H v6 =>
 next2 [h1H] v6)
 (R (Value.tuple #[]) o7)
def c6J (x0 x3 : Value) (w : World) (R : RT) (E : Pan) : Prop :=
 ∀ _τ : Fr, (oP E (fA 59 x3 3) w fun h5t w_4 =>
 oP E (lA 57 h5t) w_4 fun e8Y w_6 =>
 oP E (xBuiltin .len #[57] 3 [false] [e8Y]) w_6 fun c0X w_8 =>
 xloop [22] [(vI 0)] w_8 fun τ_25 y7 next2 =>
 d5i x0 e8Y c0X (τ_25 22) y7 next2 R E)
def d5j (x0 _x3 x9 x10 x11 : Value) (w : World) (next3 : NT) (j1 : NT) (_R : RT) (E : Pan) : Prop :=
 oP E (xBin .lss 3 (.tmp 11) (.tmp 10) x11 x10) w fun h1I K5 =>
 xcond h1I
 (oP E (iA 51 x9 x11) K5 fun c0t K0 =>
 oP E (lA 53 c0t) K0 fun d3v H9 =>
 oP E (xV (Instr.alloc 53 true (.tuple #[]))) H9 fun e8Z I0 =>
 oP E (sA 53 e8Z d3v) I0 fun _z_43 K6 =>
 oP E (lA 53 e8Z) K6 fun c3T M9 =>
 oP E (xCall (fC 102) [x0, c3T]) M9 fun _t17_47 O1 =>
 oP E (xBin .add 3 (.tmp 11) (.const (vI 1)) x11 (vI 1)) O1 fun c3U N8 =>
 next3 [c3U] N8)
 (j1 [] K5)
def d8I (x0 x1 : Value) (w : World) (R : RT) (E : Pan) : Prop :=
 oP E (xV (Instr.box 59 x1)) w fun N0 w_2 =>
 xcut (fun _ C4 => c6J x0 N0 C4 R E) fun j1 =>
 oP E (fA 59 N0 2) w_2 fun h5u H7 =>
 oP E (lA 51 h5u) H7 fun e9a D6 =>
 oP E (xBuiltin .len #[51] 3 [false] [e9a]) D6 fun b6q A6 =>
 xloop [11] [(vI 0)] A6 fun τ_51 M2 next3 =>
 d5j x0 N0 e9a b6q (τ_51 11) M2 next3 j1 R E
noncomputable def h1J : Code := Tryz.f101.body.getD .skip
def h1K : Hint := (sQ (.cut [] (sQ (.block (.loop [11] (sQ (.seq (.cond .none .none) (.seq (.block (sQ .none)) .none)))))) (sQ (.block (.loop [22] (sQ (.seq (.cond .none .none) (.seq (.block (sQ .none)) .none))))))))
theorem f5F (x0 x1 : Value) (w : World) (R : RT) (E : Pan) : d8I x0 x1 w R E = callX Tryz.prog [] h1J h1K [x0, x1] w R E := by kernel_rfl
theorem f5G {x0 x1 : Value} (h : d8I x0 x1 w R E) : Cv Tryz.prog 101 #[x0, x1] w R E := by
 refine i7 (args := [x0, x1]) (c := h1J) (h := h1K) (rs := []) Tryz.func101 (by kernel_rfl) (by kernel_rfl) (nB (by kernel_rfl)) (by kernel_rfl) (by kernel_rfl) (by kernel_rfl) ?_
 rw [← f5F]
 exact h
def d5k (x0 x37 x38 x39 : Value) (w : World) (next2 : NT) (R : RT) (E : Pan) : Prop :=
 oP E (xBin .lss 3 (.tmp 39) (.tmp 38) x39 x38) w fun h5v o7 =>
 xcond h5v
 (oP E (iA 51 x37 x39) o7 fun h1L p7 =>
 oP E (lA 53 h1L) p7 fun h1M o8 =>
 oP E (xV (Instr.alloc 53 true (.tuple #[]))) o8 fun b7C r5 =>
 oP E (sA 53 b7C h1M) r5 fun _z_17 t8 =>
 oP E (lA 53 b7C) t8 fun h1N t7 =>
 oP E (xCall (fC 102) [x0, h1N]) t7 fun _t45_21 u6 =>
 oP E (xBin .add 3 (.tmp 39) (.const (vI 1)) x39 (vI 1)) u6 fun h1O v6 =>
 next2 [h1O] v6)
 (R (Value.tuple #[]) o7)
def c6K (x0 x3 : Value) (w : World) (R : RT) (E : Pan) : Prop :=
 ∀ _τ : Fr, (oP E (fA 53 x3 3) w fun h5w w_4 =>
 oP E (lA 51 h5w) w_4 fun e9b w_6 =>
 oP E (xBuiltin .len #[51] 3 [false] [e9b]) w_6 fun h5x w_8 =>
 xloop [39] [(vI 0)] w_8 fun τ_25 y7 next2 =>
 d5k x0 e9b h5x (τ_25 39) y7 next2 R E)
def d8J (x0 x1 : Value) (w : World) (R : RT) (E : Pan) : Prop :=
 oP E (xV (Instr.box 53 x1)) w fun N0 w_2 =>
 xcut (fun _ C4 => c6K x0 N0 C4 R E) fun j1 =>
 oP E (fA 53 N0 0) w_2 fun h5y H7 =>
 oP E (lA 3 h5y) H7 fun e9c D6 =>
 oP E (xBin .eql 3 (.tmp 7) (.const (vI 2)) e9c (vI 2)) D6 fun h5z A6 =>
 xcond h5z
 (dX A6 fun a7c =>
 qP Tryz.prog (xNil x0) fun h1P =>
 qP Tryz.prog (fA 125 h1P 0) fun c0t =>
 qP Tryz.prog (fA 53 N0 2) fun e2R =>
 qL Tryz.prog a7c (blk c0t) (lA 123 c0t) fun d3v =>
 qL Tryz.prog a7c (blk e2R) (lA 9 e2R) fun h1Q =>
 qP Tryz.prog (xV (Instr.build 127 #[(0, h1Q), (1, (vI 1))])) fun h1R =>
 oP E (xV (Instr.buildSlice 123 1 #[(0, h1R)])) a7c fun h1S b1w =>
 keepX [(blk c0t)] a7c b1w (opK Tryz.prog E (xBuiltin .append #[123, 123] 123 [false, false] [d3v, h1S]) b1w fun h1T a8H =>
 keepX [] b1w a8H (qP Tryz.prog (xNil x0) fun h1U =>
 qP Tryz.prog (fA 125 h1U 0) fun h1V =>
 oP E (sA 123 h1V h1T) a8H fun _z_48 b0f =>
 keepX [] a8H b0f (j1 [] b0f))))
 (oP E (xBin .eql 3 (.tmp 7) (.const (vI 4)) e9c (vI 4)) A6 fun h1W a8Z =>
 xcond h1W
 (dX a8Z fun M2 =>
 qP Tryz.prog (xNil x0) fun h1X =>
 qP Tryz.prog (fA 125 h1X 0) fun d3w =>
 qP Tryz.prog (fA 53 N0 2) fun e2S =>
 qL Tryz.prog M2 (blk d3w) (lA 123 d3w) fun h1Y =>
 qL Tryz.prog M2 (blk e2S) (lA 9 e2S) fun h1Z =>
 qP Tryz.prog (xV (Instr.build 127 #[(0, h1Z), (1, (vI 2))])) fun h2a =>
 oP E (xV (Instr.buildSlice 123 1 #[(0, h2a)])) M2 fun c9D R8 =>
 keepX [(blk d3w)] M2 R8 (opK Tryz.prog E (xBuiltin .append #[123, 123] 123 [false, false] [h1Y, c9D]) R8 fun c9E Q1 =>
 keepX [] R8 Q1 (qP Tryz.prog (xNil x0) fun c9F =>
 qP Tryz.prog (fA 125 c9F 0) fun h2b =>
 oP E (sA 123 h2b c9E) Q1 fun _z_65 U5 =>
 keepX [] Q1 U5 (j1 [] U5))))
 (j1 [] a8Z))
noncomputable def h2c : Code := Tryz.f102.body.getD .skip
def h2d : Hint := (sQ (.cut [] (sQ (.block (sQ (.cond (.reg [(0, 1024, 1), (0, 2048, 1), (2, 4096, 2048), (4, 8192, 4096), (8, 16384, 8192), (0, 32768, 8), (32, 65536, 32768), (64, 131072, 65536), (128, 262144, 131072), (272, 524288, 278528), (1023, 1048576, 1024), (2047, 2097152, 1048576), (3071, 0, 2621440)] [80, 80, 80, 80, 64, 80, 16, 80, 16, 0, 80, 80, 0] (.early 0 (.early 1 (.early 2 (.early 3 (.early 5 (.load 4 (.load 6 (.early 7 (.step 8 (.step 9 (.early 10 (.early 11 (.step 12 .done)))))))))))))) (sQ (.cond (.reg [(0, 16777216, 1), (0, 33554432, 1), (2, 67108864, 33554432), (4, 134217728, 67108864), (8, 268435456, 134217728), (0, 536870912, 8), (32, 1073741824, 536870912), (64, 2147483648, 1073741824), (128, 4294967296, 2147483648), (272, 8589934592, 4563402752), (1023, 17179869184, 16777216), (2047, 34359738368, 17179869184), (3071, 0, 42949672960)] [80, 80, 80, 80, 64, 80, 16, 80, 16, 0, 80, 80, 0] (.early 0 (.early 1 (.early 2 (.early 3 (.early 5 (.load 4 (.load 6 (.early 7 (.step 8 (.step 9 (.early 10 (.early 11 (.step 12 .done)))))))))))))) .none)))))) (sQ (.block (.loop [39] (sQ (.seq (.cond .none .none) (.seq (.block (sQ .none)) .none))))))))
theorem f5H (x0 x1 : Value) (w : World) (R : RT) (E : Pan) : d8J x0 x1 w R E = callX Tryz.prog [] h2c h2d [x0, x1] w R E := by kernel_rfl
theorem f5I {x0 x1 : Value} (h : d8J x0 x1 w R E) : Cv Tryz.prog 102 #[x0, x1] w R E := by
 refine i7 (args := [x0, x1]) (c := h2c) (h := h2d) (rs := []) Tryz.func102 (by kernel_rfl) (by kernel_rfl) (nB (by kernel_rfl)) (by kernel_rfl) (by kernel_rfl) (by kernel_rfl) ?_
 rw [← f5H]
 exact h
end Go.Proofs.YtnhkdkcgdcgmdaaGreatDoor
