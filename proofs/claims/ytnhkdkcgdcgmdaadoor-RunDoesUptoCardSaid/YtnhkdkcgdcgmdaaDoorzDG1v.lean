/- The second reading of some of the program's functions, printed by gen2.py off the code; each is held against the code by the kernel. -/
import Derived.Test.YtnhkdkcgdcgmdaaDoorProg
import Derived.Test.YtnhkdkcgdcgmdaaDoorzDK0
import Derived.KernelRfl
import Derived.Test.YtnhkdkcgdcgmdaaDoorzDGz
namespace Go.Proofs.YtnhkdkcgdcgmdaaDoor
open Go.RowKit
set_option maxRecDepth 100000
variable {w : World} {R : RT} {E : Pan}
def c4I (x7 x9 : Value) (w : World) (R : RT) (_E : Pan) : Prop :=
 ∀ _τ : Fr, (R (Value.tuple #[x9, x7]) w)
def d1H (x5 x7 x9 x37 x38 x39 : Value) (w : World) (next2 : NT) (j1 : NT) (_R : RT) (E : Pan) : Prop :=
 oP E (xBin .lss 3 (.tmp 39) (.tmp 38) x39 x38) w fun b7F E7 =>
 xcond b7F
 (oP E (iA 112 x37 x39) E7 fun c3v K7 =>
 oP E (lA 117 c3v) K7 fun f5M J0 =>
 oP E (xV (Instr.alloc 117 true (.tuple #[]))) J0 fun b3O F7 =>
 oP E (sA 117 b3O f5M) F7 fun _z_51 E2 =>
 oP E (fA 117 b3O 0) E2 fun f5N L0 =>
 oP E (lA 9 f5N) L0 fun f5O L4 =>
 oP E (xV (Instr.lookup 108 x5 f5O false)) L4 fun b8o L1 =>
 oP E (fA 117 b3O 1) L1 fun b7G N8 =>
 oP E (lA 3 b7G) N8 fun c3x L5 =>
 oP E (xBin .eql 3 (.tmp 46) (.tmp 51) b8o c3x) L5 fun f5P M4 =>
 xcond f5P
 (oP E (xBin .add 3 (.tmp 39) (.const (vI 1)) x39 (vI 1)) M4 fun f5Q N9 =>
 next2 [x7, x9, f5Q] N9)
 (oP E (xBin .eql 3 (.tmp 46) (.const (vI 0)) b8o (vI 0)) M4 fun f5R O0 =>
 xcond f5R
 (oP E (fA 117 b3O 0) O0 fun f5S L2 =>
 oP E (lA 9 f5S) L2 fun f5T O4 =>
 j1 [(vI 63), f5T] O4)
 (oP E (fA 117 b3O 0) O0 fun f5U O5 =>
 oP E (lA 9 f5U) O5 fun f5V Q7 =>
 j1 [(vI 64), f5V] Q7)))
 (j1 [x7, x9] E7)
def F34 (x0 : Value) (w : World) (R : RT) (E : Pan) : Prop :=
 oP E (xV (Instr.box 44 x0)) w fun s8 w_2 =>
 oP E (lA 44 s8) w_2 fun c8n w_4 =>
 oP E (xCall (fC 53) [c8n]) w_4 fun a3F w_6 =>
 oP E (xBin .neq 29 (.tmp 14) (.const (vI 0)) a3F (vI 0)) w_6 fun c7I w_8 =>
 xcond c7I
 (R (Value.tuple #[(eS), a3F]) w_8)
 (oP E (fA 44 s8 0) w_8 fun c8p m4 =>
 oP E (lA 41 c8p) m4 fun a6t o0 =>
 oP E (xCall (fC 54) [a6t]) o0 fun a8p m8 =>
 oP E (eX a8p 0) m8 fun b3p o8 =>
 oP E (eX a8p 1) o8 fun c1Q p6 =>
 oP E (eX a8p 2) p6 fun c4J p7 =>
 oP E (xBin .neq 29 (.tmp 24) (.const (vI 0)) c4J (vI 0)) p7 fun b2H q9 =>
 xcond b2H
 (R (Value.tuple #[c1Q, c4J]) q9)
 (oP E (xV (Instr.build 114 #[])) q9 fun c1F t8 =>
 oP E (xV (Instr.box 114 c1F)) t8 fun d1I z8 =>
 oP E (fA 44 s8 1) z8 fun f5W B9 =>
 oP E (lA 42 f5W) B9 fun b6X D3 =>
 oP E (xCall (fC 55) [d1I, b6X]) D3 fun _t33_31 B4 =>
 xcut (fun b9r C6 => c4I (nth b9r 0) (nth b9r.tail 0) C6 R E) fun j1 =>
 oP E (xNil d1I) B4 fun b0n E5 =>
 oP E (fA 114 b0n 0) E5 fun b3v D4 =>
 oP E (lA 112 b3v) D4 fun b8c D6 =>
 oP E (xBuiltin .len #[112] 3 [false] [b8c]) D6 fun c4z G0 =>
 xloop [7, 9, 39] [c4J, (eS), (vI 0)] G0 fun τ_77 N0 next2 =>
 d1H b3p (τ_77 7) (τ_77 9) b8c c4z (τ_77 39) N0 next2 j1 R E))
noncomputable def c34 : Code := Tryd.f34.body.getD .skip
def h34 : Hint := (sQ (.scope (.seq (sQ (sQ (.cond (sQ .none) .none))) (sQ (.seq (sQ (.cond (sQ .none) .none)) (sQ (sQ (sQ (sQ (.cut [7, 9] (sQ (.block (.loop [7, 9, 39] (sQ (.seq (.cond .none .none) (.seq (.block (sQ (sQ (.block (sQ (.cond .none (sQ (.cond (sQ .none) (sQ .none))))))))) .none)))))) (sQ .none)))))))))))
theorem f5X (x0 : Value) (w : World) (R : RT) (E : Pan) : F34 x0 w R E = callX Tryd.prog [.tmp 2, .tmp 3] c34 h34 [x0] w R E := by kernel_rfl
theorem f5Y {x0 : Value} (h : F34 x0 w R E) : Cv Tryd.prog 34 #[x0] w R E := by
 refine g8 (args := [x0]) (c := c34) (h := h34) (rs := [.tmp 2, .tmp 3]) Tryd.func34 (by kernel_rfl) (by kernel_rfl) (nB (by kernel_rfl)) (by kernel_rfl) (by kernel_rfl) (by kernel_rfl) ?_
 rw [← f5X]
 exact h
def d1J (x5 : Value) (w : World) (R : RT) (_E : Pan) : Prop :=
 ∀ _τ : Fr, (R (Value.tuple #[x5, (eS), (vI 0)]) w)
def d1K (x5 x6 x13 x14 x15 : Value) (w : World) (next2 : NT) (j1 : NT) (R : RT) (E : Pan) : Prop :=
 oP E (xBin .lss 3 (.tmp 15) (.tmp 14) x15 x14) w fun f5Z m8 =>
 xcond f5Z
 (oP E (iA 41 x13 x15) m8 fun a1Z o8 =>
 oP E (lA 58 a1Z) o8 fun b2E p6 =>
 oP E (xV (Instr.alloc 58 true (.tuple #[]))) p6 fun a9k p7 =>
 oP E (sA 58 a9k b2E) p7 fun _z_21 q9 =>
 oP E (lA 58 a9k) q9 fun f6a t8 =>
 oP E (xCall (fC 92) [f6a]) t8 fun b8p z8 =>
 oP E (xV (Instr.lookup 157 x6 b8p false)) z8 fun b3q B9 =>
 oP E (xBin .sub 3 (.tmp 23) (.const (vI 1)) b3q (vI 1)) B9 fun c4v D3 =>
 oP E (xU (Instr.mapUpdate 157 x6 b8p c4v)) D3 fun _z_31 B4 =>
 oP E (fA 58 a9k 0) B4 fun f6b C6 =>
 oP E (lA 9 f6b) C6 fun f6c E5 =>
 oP E (xV (Instr.lookup 108 x5 f6c false)) E5 fun f6d D4 =>
 oP E (xBin .neq 3 (.tmp 29) (.const (vI 0)) f6d (vI 0)) D4 fun f6e D6 =>
 xcond f6e
 (dX D6 fun b8J =>
 qP Tryd.prog (fA 58 a9k 0) fun b6V =>
 qL Tryd.prog b8J (blk b6V) (lA 9 b6V) fun f6f =>
 R (Value.tuple #[(Value.map none), f6f, (vI 60)]) b8J)
 (oP E (fA 58 a9k 1) D6 fun f6g a7I =>
 oP E (lA 3 f6g) a7I fun f6h b8K =>
 oP E (xBin .gtr 3 (.tmp 35) (.const (vI 1024)) f6h (vI 1024)) b8K fun f6i b0W =>
 xcond f6i
 (dX b0W fun F7 =>
 qP Tryd.prog (fA 58 a9k 0) fun d1L =>
 qL Tryd.prog F7 (blk d1L) (lA 9 d1L) fun f6j =>
 R (Value.tuple #[(Value.map none), f6j, (vI 61)]) F7)
 (oP E (xV (Instr.lookup 157 x6 b8p false)) b0W fun b7T L0 =>
 oP E (xBin .lss 3 (.tmp 42) (.const (vI 0)) b7T (vI 0)) L0 fun c3M L4 =>
 xcond c3M
 (dX L4 fun d4h =>
 qP Tryd.prog (fA 58 a9k 0) fun d1M =>
 qL Tryd.prog d4h (blk d1M) (lA 9 d1M) fun c4w =>
 R (Value.tuple #[(Value.map none), c4w, (vI 62)]) d4h)
 (oP E (fA 58 a9k 0) L4 fun f6k d3P =>
 oP E (lA 9 f6k) d3P fun f6l g3Q =>
 oP E (xU (Instr.mapUpdate 108 x5 f6l b8p)) g3Q fun _z_64 b3d =>
 oP E (xBin .add 3 (.tmp 15) (.const (vI 1)) x15 (vI 1)) b3d fun f6m b1z =>
 next2 [f6m] b1z))))
 (j1 [] m8)
def F54 (x0 : Value) (w : World) (R : RT) (E : Pan) : Prop :=
 oP E (xV (Instr.makeMap 108 none)) w fun b4j w_2 =>
 oP E (xV (Instr.makeMap 157 none)) w_2 fun a0x w_4 =>
 oP E (xU (Instr.mapUpdate 157 a0x (vI 1) (vI 32))) w_4 fun _z_5 w_6 =>
 oP E (xU (Instr.mapUpdate 157 a0x (vI 2) (vI 16))) w_6 fun _z_7 w_8 =>
 xcut (fun _ m4 => d1J b4j m4 R E) fun j1 =>
 oP E (xBuiltin .len #[41] 3 [false] [x0]) w_8 fun f6n o0 =>
 xloop [15] [(vI 0)] o0 fun τ_68 g3R next2 =>
 d1K b4j a0x x0 f6n (τ_68 15) g3R next2 j1 R E
noncomputable def c54 : Code := Tryd.f54.body.getD .skip
def h54 : Hint := (sQ (sQ (sQ (.cut [] (sQ (.block (.loop [15] (sQ (.seq (.cond .none .none) (.seq (.block (sQ (sQ (sQ (.seq (.block (sQ (.cond (.seq (.reg [(0, 2147483648, 256), (1, 4294967296, 2147483648), (0, 4, 0), (7, 8, 4294967296), (15, 16, 0)] [2, 0, 2, 2, 2] (.early 0 (.early 2 (.load 1 (.early 3 (.early 4 .done)))))) .none) (sQ (.cond (.seq (.reg [(0, 137438953472, 256), (1, 274877906944, 137438953472), (0, 4, 0), (7, 8, 274877906944), (15, 16, 0)] [2, 0, 2, 2, 2] (.early 0 (.early 2 (.load 1 (.early 3 (.early 4 .done)))))) .none) (sQ (.cond (.seq (.reg [(0, 17592186044416, 256), (1, 35184372088832, 17592186044416), (0, 4, 0), (7, 8, 35184372088832), (15, 16, 0)] [2, 0, 2, 2, 2] (.early 0 (.early 2 (.load 1 (.early 3 (.early 4 .done)))))) .none) .none))))))) .none))))) .none)))))) (sQ .none)))))
theorem f6o (x0 : Value) (w : World) (R : RT) (E : Pan) : F54 x0 w R E = callX Tryd.prog [.tmp 2, .tmp 3, .tmp 4] c54 h54 [x0] w R E := by kernel_rfl
theorem f6p {x0 : Value} (h : F54 x0 w R E) : Cv Tryd.prog 54 #[x0] w R E := by
 refine g8 (args := [x0]) (c := c54) (h := h54) (rs := [.tmp 2, .tmp 3, .tmp 4]) Tryd.func54 (by kernel_rfl) (by kernel_rfl) (nB (by kernel_rfl)) (by kernel_rfl) (by kernel_rfl) (by kernel_rfl) ?_
 rw [← f6o]
 exact h
def c4K (_x0 _x10 _x11 x12 : Value) (w : World) (next1 : NT) (_R : RT) (E : Pan) : Prop :=
 ∀ _τ : Fr, (oP E (xBin .add 3 (.tmp 12) (.const (vI 1)) x12 (vI 1)) w fun f9B w_6 =>
 next1 [f9B] w_6)
def c4L (x0 x5 _x10 _x11 _x12 : Value) (w : World) (j2 : NT) (_R : RT) (E : Pan) : Prop :=
 ∀ _τ : Fr, (oP E (fA 63 x5 4) w fun f6q p6 =>
 oP E (lA 42 f6q) p6 fun f6r p7 =>
 oP E (xCall (fC 55) [x0, f6r]) p7 fun _t71_21 q9 =>
 oP E (fA 63 x5 5) q9 fun f6s t8 =>
 oP E (lA 42 f6s) t8 fun f6t z8 =>
 oP E (xCall (fC 55) [x0, f6t]) z8 fun _t75_27 B9 =>
 j2 [] B9)
def d1N (x0 _x5 _x10 _x11 _x12 x58 x59 x60 : Value) (w : World) (next6 : NT) (j5 : NT) (_R : RT) (E : Pan) : Prop :=
 oP E (xBin .lss 3 (.tmp 60) (.tmp 59) x60 x59) w fun f6u D4 =>
 xcond f6u
 (oP E (iA 22 x58 x60) D4 fun f6v D6 =>
 oP E (lA 24 f6v) D6 fun f6w G0 =>
 oP E (xV (Instr.alloc 24 true (.tuple #[]))) G0 fun d7O E7 =>
 oP E (sA 24 d7O f6w) E7 fun _z_45 K7 =>
 oP E (lA 24 d7O) K7 fun f6x J0 =>
 oP E (xCall (fC 94) [x0, f6x]) J0 fun _t66_49 F7 =>
 oP E (xBin .add 3 (.tmp 60) (.const (vI 1)) x60 (vI 1)) F7 fun f6y E2 =>
 next6 [f6y] E2)
 (j5 [] D4)
def c4M (x0 x5 x10 x11 x12 : Value) (w : World) (j2 : NT) (R : RT) (E : Pan) : Prop :=
 ∀ _τ : Fr, (xcut (fun _ D3 => c4L x0 x5 x10 x11 x12 D3 j2 R E) fun j5 =>
 oP E (fA 63 x5 2) w fun f6z B4 =>
 oP E (lA 22 f6z) B4 fun d1O C6 =>
 oP E (xBuiltin .len #[22] 3 [false] [d1O]) C6 fun f6A E5 =>
 xloop [60] [(vI 0)] E5 fun τ_53 L0 next6 =>
 d1N x0 x5 x10 x11 x12 d1O f6A (τ_53 60) L0 next6 j5 R E)
def d1P (x0 _x5 _x10 _x11 _x12 x47 x48 x49 : Value) (w : World) (next7 : NT) (j4 : NT) (_R : RT) (E : Pan) : Prop :=
 oP E (xBin .lss 3 (.tmp 49) (.tmp 48) x49 x48) w fun f6B M4 =>
 xcond f6B
 (oP E (iA 25 x47 x49) M4 fun f6C N9 =>
 oP E (lA 27 f6C) N9 fun f6D O0 =>
 oP E (xV (Instr.alloc 27 true (.tuple #[]))) O0 fun d7P L2 =>
 oP E (sA 27 d7P f6D) L2 fun _z_71 O4 =>
 oP E (lA 27 d7P) O4 fun c4x O5 =>
 oP E (xCall (fC 93) [x0, c4x]) O5 fun _t55_75 Q7 =>
 oP E (xBin .add 3 (.tmp 49) (.const (vI 1)) x49 (vI 1)) Q7 fun c4y N0 =>
 next7 [c4y] N0)
 (j4 [] M4)
def c4N (x0 x5 x10 x11 x12 : Value) (w : World) (j2 : NT) (R : RT) (E : Pan) : Prop :=
 ∀ _τ : Fr, (xcut (fun _ L4 => c4M x0 x5 x10 x11 x12 L4 j2 R E) fun j4 =>
 oP E (fA 63 x5 3) w fun b8o L1 =>
 oP E (lA 25 b8o) L1 fun d1Q N8 =>
 oP E (xBuiltin .len #[25] 3 [false] [d1Q]) N8 fun f6E L5 =>
 xloop [49] [(vI 0)] L5 fun τ_79 R8 next7 =>
 d1P x0 x5 x10 x11 x12 d1Q f6E (τ_79 49) R8 next7 j4 R E)
def d1R (x0 x10 x11 x12 : Value) (w : World) (next1 : NT) (R : RT) (E : Pan) : Prop :=
 oP E (xBin .lss 3 (.tmp 12) (.tmp 11) x12 x11) w fun b7u w_4 =>
 xcond b7u
 (xcut (fun _ w_8 => c4K x0 x10 x11 x12 w_8 next1 R E) fun j2 =>
 oP E (iA 42 x10 x12) w_4 fun a3z m4 =>
 oP E (lA 63 a3z) m4 fun a5i o0 =>
 oP E (xV (Instr.alloc 63 true (.tuple #[]))) o0 fun b8q m8 =>
 oP E (sA 63 b8q a5i) m8 fun _z_15 o8 =>
 xcut (fun _ P9 => c4N x0 b8q x10 x11 x12 P9 j2 R E) fun j3 =>
 oP E (fA 63 b8q 0) o8 fun f6F O6 =>
 oP E (lA 3 f6F) O6 fun d1S R9 =>
 oP E (xBin .eql 3 (.tmp 17) (.const (vI 1)) d1S (vI 1)) R9 fun f6G M5 =>
 xcond f6G
 (dX M5 fun b9D =>
 qP Tryd.prog (xNil x0) fun f6H =>
 qP Tryd.prog (fA 114 f6H 0) fun c4O =>
 qP Tryd.prog (fA 63 b8q 1) fun d1T =>
 qL Tryd.prog b9D (blk c4O) (lA 112 c4O) fun f6I =>
 qL Tryd.prog b9D (blk d1T) (lA 9 d1T) fun f6J =>
 qP Tryd.prog (xV (Instr.build 117 #[(0, f6J), (1, (vI 1))])) fun f6K =>
 oP E (xV (Instr.buildSlice 112 1 #[(0, f6K)])) b9D fun f6L b1R =>
 keepX [(blk c4O)] b9D b1R (opK Tryd.prog E (xBuiltin .append #[112, 112] 112 [false, false] [f6I, f6L]) b1R fun f6M c3V =>
 keepX [] b1R c3V (qP Tryd.prog (xNil x0) fun e3x =>
 qP Tryd.prog (fA 114 e3x 0) fun e3y =>
 oP E (sA 112 e3y f6M) c3V fun _z_102 b8a =>
 keepX [] c3V b8a (j3 [] b8a))))
 (oP E (xBin .eql 3 (.tmp 17) (.const (vI 2)) d1S (vI 2)) M5 fun e3z d7Q =>
 xcond e3z
 (dX d7Q fun U1 =>
 qP Tryd.prog (xNil x0) fun e3A =>
 qP Tryd.prog (fA 114 e3A 0) fun b9R =>
 qP Tryd.prog (fA 63 b8q 1) fun c6l =>
 qL Tryd.prog U1 (blk b9R) (lA 112 b9R) fun e3B =>
 qL Tryd.prog U1 (blk c6l) (lA 9 c6l) fun e3C =>
 qP Tryd.prog (xV (Instr.build 117 #[(0, e3C), (1, (vI 2))])) fun e3D =>
 oP E (xV (Instr.buildSlice 112 1 #[(0, e3D)])) U1 fun e3E Q8 =>
 keepX [(blk b9R)] U1 Q8 (opK Tryd.prog E (xBuiltin .append #[112, 112] 112 [false, false] [e3B, e3E]) Q8 fun e3F U2 =>
 keepX [] Q8 U2 (qP Tryd.prog (xNil x0) fun e3G =>
 qP Tryd.prog (fA 114 e3G 0) fun e3H =>
 oP E (sA 112 e3H e3F) U2 fun _z_119 Q0 =>
 keepX [] U2 Q0 (j3 [] Q0))))
 (j3 [] d7Q)))
 (R (Value.tuple #[]) w_4)
def F55 (x0 x1 : Value) (w : World) (R : RT) (E : Pan) : Prop :=
 oP E (xBuiltin .len #[42] 3 [false] [x1]) w fun c7H w_2 =>
 xloop [12] [(vI 0)] w_2 fun τ_121 a1H next1 =>
 d1R x0 x1 c7H (τ_121 12) a1H next1 R E
noncomputable def c55 : Code := Tryd.f55.body.getD .skip
def h55 : Hint := (sQ (.block (.loop [12] (sQ (.seq (.cond .none .none) (.cut [] (.block (sQ (.cut [] (sQ (.block (sQ (.cond (.reg [(0, 1048576, 1), (0, 2097152, 1), (2, 4194304, 2097152), (4, 8388608, 4194304), (8, 16777216, 8388608), (0, 33554432, 32), (32, 67108864, 33554432), (64, 134217728, 67108864), (128, 268435456, 134217728), (272, 536870912, 285212672), (1023, 1073741824, 1048576), (2047, 2147483648, 1073741824), (3071, 0, 2684354560)] [80, 80, 80, 80, 64, 80, 16, 80, 16, 0, 80, 80, 0] (.early 0 (.early 1 (.early 2 (.early 3 (.early 5 (.load 4 (.load 6 (.early 7 (.step 8 (.step 9 (.early 10 (.early 11 (.step 12 .done)))))))))))))) (sQ (.cond (.reg [(0, 17179869184, 1), (0, 34359738368, 1), (2, 68719476736, 34359738368), (4, 137438953472, 68719476736), (8, 274877906944, 137438953472), (0, 549755813888, 32), (32, 1099511627776, 549755813888), (64, 2199023255552, 1099511627776), (128, 4398046511104, 2199023255552), (272, 8796093022208, 4672924418048), (1023, 17592186044416, 17179869184), (2047, 35184372088832, 17592186044416), (3071, 0, 43980465111040)] [80, 80, 80, 80, 64, 80, 16, 80, 16, 0, 80, 80, 0] (.early 0 (.early 1 (.early 2 (.early 3 (.early 5 (.load 4 (.load 6 (.early 7 (.step 8 (.step 9 (.early 10 (.early 11 (.step 12 .done)))))))))))))) .none)))))) (.cut [] (sQ (.block (.loop [49] (sQ (.seq (.cond .none .none) (.seq (.block (sQ .none)) .none)))))) (.cut [] (sQ (.block (.loop [60] (sQ (.seq (.cond .none .none) (.seq (.block (sQ .none)) .none)))))) (sQ .none)))))) .none))))))
theorem f6N (x0 x1 : Value) (w : World) (R : RT) (E : Pan) : F55 x0 x1 w R E = callX Tryd.prog [] c55 h55 [x0, x1] w R E := by kernel_rfl
theorem f6O {x0 x1 : Value} (h : F55 x0 x1 w R E) : Cv Tryd.prog 55 #[x0, x1] w R E := by
 refine g8 (args := [x0, x1]) (c := c55) (h := h55) (rs := []) Tryd.func55 (by kernel_rfl) (by kernel_rfl) (nB (by kernel_rfl)) (by kernel_rfl) (by kernel_rfl) (by kernel_rfl) ?_
 rw [← f6N]
 exact h
def F92 (x0 : Value) (w : World) (R : RT) (E : Pan) : Prop :=
 oP E (xV (Instr.box 58 x0)) w fun s8 w_2 =>
 oP E (fA 58 s8 1) w_2 fun a2R w_4 =>
 oP E (lA 3 a2R) w_4 fun a1C w_6 =>
 oP E (xBin .gtr 3 (.tmp 4) (.const (vI 0)) a1C (vI 0)) w_6 fun a4q w_8 =>
 xcond a4q
 (R (vI 2) w_8)
 (R (vI 1) w_8)
noncomputable def c92 : Code := Tryd.f92.body.getD .skip
def h92 : Hint := (sQ (.seq (sQ (.cond (sQ .none) .none)) (sQ .none)))
theorem f6P (x0 : Value) (w : World) (R : RT) (E : Pan) : F92 x0 w R E = callX Tryd.prog [.tmp 2] c92 h92 [x0] w R E := by kernel_rfl
theorem f6Q {x0 : Value} (h : F92 x0 w R E) : Cv Tryd.prog 92 #[x0] w R E := by
 refine g8 (args := [x0]) (c := c92) (h := h92) (rs := [.tmp 2]) Tryd.func92 (by kernel_rfl) (by kernel_rfl) (nB (by kernel_rfl)) (by kernel_rfl) (by kernel_rfl) (by kernel_rfl) ?_
 rw [← f6P]
 exact h
def d1U (x0 x20 x21 x22 : Value) (w : World) (next2 : NT) (R : RT) (E : Pan) : Prop :=
 oP E (xBin .lss 3 (.tmp 22) (.tmp 21) x22 x21) w fun b4D m4 =>
 xcond b4D
 (oP E (iA 25 x20 x22) m4 fun a6u o0 =>
 oP E (lA 27 a6u) o0 fun c3t m8 =>
 oP E (xV (Instr.alloc 27 true (.tuple #[]))) m8 fun d7R o8 =>
 oP E (sA 27 d7R c3t) o8 fun _z_17 p6 =>
 oP E (lA 27 d7R) p6 fun c3u p7 =>
 oP E (xCall (fC 93) [x0, c3u]) p7 fun _t28_21 q9 =>
 oP E (xBin .add 3 (.tmp 22) (.const (vI 1)) x22 (vI 1)) q9 fun f6R t8 =>
 next2 [f6R] t8)
 (R (Value.tuple #[]) m4)
def c4P (x0 x3 : Value) (w : World) (R : RT) (E : Pan) : Prop :=
 ∀ _τ : Fr, (oP E (fA 27 x3 3) w fun c7V w_4 =>
 oP E (lA 25 c7V) w_4 fun c0L w_6 =>
 oP E (xBuiltin .len #[25] 3 [false] [c0L]) w_6 fun c0I w_8 =>
 xloop [22] [(vI 0)] w_8 fun τ_25 z8 next2 =>
 d1U x0 c0L c0I (τ_25 22) z8 next2 R E)
def d1V (x0 _x3 x9 x10 x11 : Value) (w : World) (next3 : NT) (j1 : NT) (_R : RT) (E : Pan) : Prop :=
 oP E (xBin .lss 3 (.tmp 11) (.tmp 10) x11 x10) w fun f6S E5 =>
 xcond f6S
 (oP E (iA 22 x9 x11) E5 fun b3P D4 =>
 oP E (lA 24 b3P) D4 fun c4Q D6 =>
 oP E (xV (Instr.alloc 24 true (.tuple #[]))) D6 fun d7S G0 =>
 oP E (sA 24 d7S c4Q) G0 fun _z_43 E7 =>
 oP E (lA 24 d7S) E7 fun b6Y K7 =>
 oP E (xCall (fC 94) [x0, b6Y]) K7 fun _t17_47 J0 =>
 oP E (xBin .add 3 (.tmp 11) (.const (vI 1)) x11 (vI 1)) J0 fun b6Z F7 =>
 next3 [b6Z] F7)
 (j1 [] E5)
def F93 (x0 x1 : Value) (w : World) (R : RT) (E : Pan) : Prop :=
 oP E (xV (Instr.box 27 x1)) w fun E8 w_2 =>
 xcut (fun _ B9 => c4P x0 E8 B9 R E) fun j1 =>
 oP E (fA 27 E8 2) w_2 fun f9C D3 =>
 oP E (lA 22 f9C) D3 fun d7T B4 =>
 oP E (xBuiltin .len #[22] 3 [false] [d7T]) B4 fun f6T C6 =>
 xloop [11] [(vI 0)] C6 fun τ_51 E2 next3 =>
 d1V x0 E8 d7T f6T (τ_51 11) E2 next3 j1 R E
noncomputable def c93 : Code := Tryd.f93.body.getD .skip
def h93 : Hint := (sQ (.cut [] (sQ (.block (.loop [11] (sQ (.seq (.cond .none .none) (.seq (.block (sQ .none)) .none)))))) (sQ (.block (.loop [22] (sQ (.seq (.cond .none .none) (.seq (.block (sQ .none)) .none))))))))
theorem f6U (x0 x1 : Value) (w : World) (R : RT) (E : Pan) : F93 x0 x1 w R E = callX Tryd.prog [] c93 h93 [x0, x1] w R E := by kernel_rfl
theorem f6V {x0 x1 : Value} (h : F93 x0 x1 w R E) : Cv Tryd.prog 93 #[x0, x1] w R E := by
 refine g8 (args := [x0, x1]) (c := c93) (h := h93) (rs := []) Tryd.func93 (by kernel_rfl) (by kernel_rfl) (nB (by kernel_rfl)) (by kernel_rfl) (by kernel_rfl) (by kernel_rfl) ?_
 rw [← f6U]
 exact h
def d1W (x0 x37 x38 x39 : Value) (w : World) (next2 : NT) (R : RT) (E : Pan) : Prop :=
 oP E (xBin .lss 3 (.tmp 39) (.tmp 38) x39 x38) w fun f9D m4 =>
 xcond f9D
 (oP E (iA 22 x37 x39) m4 fun f6W o0 =>
 oP E (lA 24 f6W) o0 fun f6X m8 =>
 oP E (xV (Instr.alloc 24 true (.tuple #[]))) m8 fun d7U o8 =>
 oP E (sA 24 d7U f6X) o8 fun _z_17 p6 =>
 oP E (lA 24 d7U) p6 fun f6Y p7 =>
 oP E (xCall (fC 94) [x0, f6Y]) p7 fun _t45_21 q9 =>
 oP E (xBin .add 3 (.tmp 39) (.const (vI 1)) x39 (vI 1)) q9 fun f6Z t8 =>
 next2 [f6Z] t8)
 (R (Value.tuple #[]) m4)
def c4R (x0 x3 : Value) (w : World) (R : RT) (E : Pan) : Prop :=
 ∀ _τ : Fr, (oP E (fA 24 x3 3) w fun f9E w_4 =>
 oP E (lA 22 f9E) w_4 fun d7V w_6 =>
 oP E (xBuiltin .len #[22] 3 [false] [d7V]) w_6 fun f9F w_8 =>
 xloop [39] [(vI 0)] w_8 fun τ_25 z8 next2 =>
 d1W x0 d7V f9F (τ_25 39) z8 next2 R E)
def F94 (x0 x1 : Value) (w : World) (R : RT) (E : Pan) : Prop :=
 oP E (xV (Instr.box 24 x1)) w fun E8 w_2 =>
 xcut (fun _ B9 => c4R x0 E8 B9 R E) fun j1 =>
 oP E (fA 24 E8 0) w_2 fun f9G D3 =>
 oP E (lA 3 f9G) D3 fun d7W B4 =>
 oP E (xBin .eql 3 (.tmp 7) (.const (vI 2)) d7W (vI 2)) B4 fun f9H C6 =>
 xcond f9H
 (dX C6 fun a9E =>
 qP Tryd.prog (xNil x0) fun f7a =>
 qP Tryd.prog (fA 114 f7a 0) fun b3P =>
 qP Tryd.prog (fA 24 E8 2) fun d1X =>
 qL Tryd.prog a9E (blk b3P) (lA 112 b3P) fun c4Q =>
 qL Tryd.prog a9E (blk d1X) (lA 9 d1X) fun f7b =>
 qP Tryd.prog (xV (Instr.build 117 #[(0, f7b), (1, (vI 1))])) fun f7c =>
 oP E (xV (Instr.buildSlice 112 1 #[(0, f7c)])) a9E fun f7d b5x =>
 keepX [(blk b3P)] a9E b5x (opK Tryd.prog E (xBuiltin .append #[112, 112] 112 [false, false] [c4Q, f7d]) b5x fun f7e a7I =>
 keepX [] b5x a7I (qP Tryd.prog (xNil x0) fun f7f =>
 qP Tryd.prog (fA 114 f7f 0) fun f7g =>
 oP E (sA 112 f7g f7e) a7I fun _z_48 b0W =>
 keepX [] a7I b0W (j1 [] b0W))))
 (oP E (xBin .eql 3 (.tmp 7) (.const (vI 4)) d7W (vI 4)) C6 fun f7h b9M =>
 xcond f7h
 (dX b9M fun E2 =>
 qP Tryd.prog (xNil x0) fun f7i =>
 qP Tryd.prog (fA 114 f7i 0) fun c4S =>
 qP Tryd.prog (fA 24 E8 2) fun b7X =>
 qL Tryd.prog E2 (blk c4S) (lA 112 c4S) fun f7j =>
 qL Tryd.prog E2 (blk b7X) (lA 9 b7X) fun b0t =>
 qP Tryd.prog (xV (Instr.build 117 #[(0, b0t), (1, (vI 2))])) fun f7k =>
 oP E (xV (Instr.buildSlice 112 1 #[(0, f7k)])) E2 fun b2V N8 =>
 keepX [(blk c4S)] E2 N8 (opK Tryd.prog E (xBuiltin .append #[112, 112] 112 [false, false] [f7j, b2V]) N8 fun b2W L5 =>
 keepX [] N8 L5 (qP Tryd.prog (xNil x0) fun b2X =>
 qP Tryd.prog (fA 114 b2X 0) fun f7l =>
 oP E (sA 112 f7l b2W) L5 fun _z_65 N9 =>
 keepX [] L5 N9 (j1 [] N9))))
 (j1 [] b9M))
noncomputable def c94 : Code := Tryd.f94.body.getD .skip
def h94 : Hint := (sQ (.cut [] (sQ (.block (sQ (.cond (.reg [(0, 1024, 1), (0, 2048, 1), (2, 4096, 2048), (4, 8192, 4096), (8, 16384, 8192), (0, 32768, 8), (32, 65536, 32768), (64, 131072, 65536), (128, 262144, 131072), (272, 524288, 278528), (1023, 1048576, 1024), (2047, 2097152, 1048576), (3071, 0, 2621440)] [80, 80, 80, 80, 64, 80, 16, 80, 16, 0, 80, 80, 0] (.early 0 (.early 1 (.early 2 (.early 3 (.early 5 (.load 4 (.load 6 (.early 7 (.step 8 (.step 9 (.early 10 (.early 11 (.step 12 .done)))))))))))))) (sQ (.cond (.reg [(0, 16777216, 1), (0, 33554432, 1), (2, 67108864, 33554432), (4, 134217728, 67108864), (8, 268435456, 134217728), (0, 536870912, 8), (32, 1073741824, 536870912), (64, 2147483648, 1073741824), (128, 4294967296, 2147483648), (272, 8589934592, 4563402752), (1023, 17179869184, 16777216), (2047, 34359738368, 17179869184), (3071, 0, 42949672960)] [80, 80, 80, 80, 64, 80, 16, 80, 16, 0, 80, 80, 0] (.early 0 (.early 1 (.early 2 (.early 3 (.early 5 (.load 4 (.load 6 (.early 7 (.step 8 (.step 9 (.early 10 (.early 11 (.step 12 .done)))))))))))))) .none)))))) (sQ (.block (.loop [39] (sQ (.seq (.cond .none .none) (.seq (.block (sQ .none)) .none))))))))
theorem f7m (x0 x1 : Value) (w : World) (R : RT) (E : Pan) : F94 x0 x1 w R E = callX Tryd.prog [] c94 h94 [x0, x1] w R E := by kernel_rfl
theorem f7n {x0 x1 : Value} (h : F94 x0 x1 w R E) : Cv Tryd.prog 94 #[x0, x1] w R E := by
 refine g8 (args := [x0, x1]) (c := c94) (h := h94) (rs := []) Tryd.func94 (by kernel_rfl) (by kernel_rfl) (nB (by kernel_rfl)) (by kernel_rfl) (by kernel_rfl) (by kernel_rfl) ?_
 rw [← f7m]
 exact h
end Go.Proofs.YtnhkdkcgdcgmdaaDoor
