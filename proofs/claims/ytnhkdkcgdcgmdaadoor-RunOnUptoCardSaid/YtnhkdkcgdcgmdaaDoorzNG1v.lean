/- The second reading of some of the program's functions, printed by gen2.py off the code; each is held against the code by the kernel. -/
import Derived.Test.YtnhkdkcgdcgmdaaDoorProg
import Derived.Test.YtnhkdkcgdcgmdaaDoorzNK0
import Derived.KernelRfl
import Derived.Test.YtnhkdkcgdcgmdaaDoorzNGz
namespace Go.Proofs.YtnhkdkcgdcgmdaaDoor
open Go.RowKit
set_option maxRecDepth 100000
variable {w : World} {R : RT} {E : Pan}
def c6D (x7 x9 : Value) (w : World) (R : RT) (_E : Pan) : Prop :=
 ∀ _τ : Fr, (R (Value.tuple #[x9, x7]) w)
def d4x (x5 x7 x9 x37 x38 x39 : Value) (w : World) (next2 : NT) (j1 : NT) (_R : RT) (E : Pan) : Prop :=
 oP E (xBin .lss 3 (.tmp 39) (.tmp 38) x39 x38) w fun b8Q G7 =>
 xcond b8Q
 (oP E (iA 112 x37 x39) G7 fun c5a K1 =>
 oP E (lA 117 c5a) K1 fun f9q K4 =>
 oP E (xV (Instr.alloc 117 true (.tuple #[]))) K4 fun b5b D5 =>
 oP E (sA 117 b5b f9q) D5 fun _z_51 F0 =>
 oP E (fA 117 b5b 0) F0 fun f9r M0 =>
 oP E (lA 9 f9r) M0 fun f9s N2 =>
 oP E (xV (Instr.lookup 108 x5 f9s false)) N2 fun b9s M1 =>
 oP E (fA 117 b5b 1) M1 fun b8R O8 =>
 oP E (lA 3 b8R) O8 fun c5c N3 =>
 oP E (xBin .eql 3 (.tmp 46) (.tmp 51) b9s c5c) N3 fun f9t N6 =>
 xcond f9t
 (oP E (xBin .add 3 (.tmp 39) (.const (vI 1)) x39 (vI 1)) N6 fun f9u O9 =>
 next2 [x7, x9, f9u] O9)
 (oP E (xBin .eql 3 (.tmp 46) (.const (vI 0)) b9s (vI 0)) N6 fun f9v P0 =>
 xcond f9v
 (oP E (fA 117 b5b 0) P0 fun f9w M2 =>
 oP E (lA 9 f9w) M2 fun f9x P5 =>
 j1 [(vI 63), f9x] P5)
 (oP E (fA 117 b5b 0) P0 fun f9y P6 =>
 oP E (lA 9 f9y) P6 fun f9z S4 =>
 j1 [(vI 64), f9z] S4)))
 (j1 [x7, x9] G7)
def F34 (x0 : Value) (w : World) (R : RT) (E : Pan) : Prop :=
 oP E (xV (Instr.box 44 x0)) w fun v7 w_2 =>
 oP E (lA 44 v7) w_2 fun d0P w_4 =>
 oP E (xCall (fC 53) [d0P]) w_4 fun a4q w_6 =>
 oP E (xBin .neq 29 (.tmp 14) (.const (vI 0)) a4q (vI 0)) w_6 fun d0e w_8 =>
 xcond d0e
 (R (Value.tuple #[(eS), a4q]) w_8)
 (oP E (fA 44 v7 0) w_8 fun d0R o0 =>
 oP E (lA 41 d0R) o0 fun a7m o8 =>
 oP E (xCall (fC 54) [a7m]) o8 fun a9s p5 =>
 oP E (eX a9s 0) p5 fun b4z p9 =>
 oP E (eX a9s 1) p9 fun c3m r7 =>
 oP E (eX a9s 2) r7 fun c6E q7 =>
 oP E (xBin .neq 29 (.tmp 24) (.const (vI 0)) c6E (vI 0)) q7 fun b3Q s7 =>
 xcond b3Q
 (R (Value.tuple #[c3m, c6E]) s7)
 (oP E (xV (Instr.build 114 #[])) s7 fun c3b u9 =>
 oP E (xV (Instr.box 114 c3b)) u9 fun d4y A6 =>
 oP E (fA 44 v7 1) A6 fun f9A C8 =>
 oP E (lA 42 f9A) C8 fun b8n E0 =>
 oP E (xCall (fC 55) [d4y, b8n]) E0 fun _t33_31 C3 =>
 xcut (fun c4E D3 => c6D (nth c4E 0) (nth c4E.tail 0) D3 R E) fun j1 =>
 oP E (xNil d4y) C3 fun b1x G6 =>
 oP E (fA 114 b1x 0) G6 fun b4F E1 =>
 oP E (lA 112 b4F) E1 fun b9j E3 =>
 oP E (xBuiltin .len #[112] 3 [false] [b9j]) E3 fun c6o I0 =>
 xloop [7, 9, 39] [c6E, (eS), (vI 0)] I0 fun τ_77 N8 next2 =>
 d4x b4z (τ_77 7) (τ_77 9) b9j c6o (τ_77 39) N8 next2 j1 R E))
noncomputable def c34 : Code := Tryd.f34.body.getD .skip
def h34 : Hint := (sQ (.scope (.seq (sQ (sQ (.cond (sQ .none) .none))) (sQ (.seq (sQ (.cond (sQ .none) .none)) (sQ (sQ (sQ (sQ (.cut [7, 9] (sQ (.block (.loop [7, 9, 39] (sQ (.seq (.cond .none .none) (.seq (.block (sQ (sQ (.block (sQ (.cond .none (sQ (.cond (sQ .none) (sQ .none))))))))) .none)))))) (sQ .none)))))))))))
theorem f9B (x0 : Value) (w : World) (R : RT) (E : Pan) : F34 x0 w R E = callX Tryd.prog [.tmp 2, .tmp 3] c34 h34 [x0] w R E := by kernel_rfl
theorem f9C {x0 : Value} (h : F34 x0 w R E) : Cv Tryd.prog 34 #[x0] w R E := by
 refine h9 (args := [x0]) (c := c34) (h := h34) (rs := [.tmp 2, .tmp 3]) Tryd.func34 (by kernel_rfl) (by kernel_rfl) (nB (by kernel_rfl)) (by kernel_rfl) (by kernel_rfl) (by kernel_rfl) ?_
 rw [← f9B]
 exact h
def d4z (x5 : Value) (w : World) (R : RT) (_E : Pan) : Prop :=
 ∀ _τ : Fr, (R (Value.tuple #[x5, (eS), (vI 0)]) w)
def d4A (x5 x6 x13 x14 x15 : Value) (w : World) (next2 : NT) (j1 : NT) (R : RT) (E : Pan) : Prop :=
 oP E (xBin .lss 3 (.tmp 15) (.tmp 14) x15 x14) w fun f9D p5 =>
 xcond f9D
 (oP E (iA 41 x13 x15) p5 fun a2K p9 =>
 oP E (lA 58 a2K) p9 fun b3N r7 =>
 oP E (xV (Instr.alloc 58 true (.tuple #[]))) r7 fun b0u q7 =>
 oP E (sA 58 b0u b3N) q7 fun _z_21 s7 =>
 oP E (lA 58 b0u) s7 fun f9E u9 =>
 oP E (xCall (fC 92) [f9E]) u9 fun b9t A6 =>
 oP E (xV (Instr.lookup 157 x6 b9t false)) A6 fun b4A C8 =>
 oP E (xBin .sub 3 (.tmp 23) (.const (vI 1)) b4A (vI 1)) C8 fun c6k E0 =>
 oP E (xU (Instr.mapUpdate 157 x6 b9t c6k)) E0 fun _z_31 C3 =>
 oP E (fA 58 b0u 0) C3 fun f9F D3 =>
 oP E (lA 9 f9F) D3 fun f9G G6 =>
 oP E (xV (Instr.lookup 108 x5 f9G false)) G6 fun f9H E1 =>
 oP E (xBin .neq 3 (.tmp 29) (.const (vI 0)) f9H (vI 0)) E1 fun f9I E3 =>
 xcond f9I
 (dX E3 fun b9S =>
 qP Tryd.prog (fA 58 b0u 0) fun b8l =>
 qL Tryd.prog b9S (blk b8l) (lA 9 b8l) fun f9J =>
 R (Value.tuple #[(Value.map none), f9J, (vI 60)]) b9S)
 (oP E (fA 58 b0u 1) E3 fun f9K b0J =>
 oP E (lA 3 f9K) b0J fun f9L b9T =>
 oP E (xBin .gtr 3 (.tmp 35) (.const (vI 1024)) f9L (vI 1024)) b9T fun f9M b2h =>
 xcond f9M
 (dX b2h fun D5 =>
 qP Tryd.prog (fA 58 b0u 0) fun d4B =>
 qL Tryd.prog D5 (blk d4B) (lA 9 d4B) fun f9N =>
 R (Value.tuple #[(Value.map none), f9N, (vI 61)]) D5)
 (oP E (xV (Instr.lookup 157 x6 b9t false)) b2h fun b9b M0 =>
 oP E (xBin .lss 3 (.tmp 42) (.const (vI 0)) b9b (vI 0)) M0 fun c5u N2 =>
 xcond c5u
 (dX N2 fun d6S =>
 qP Tryd.prog (fA 58 b0u 0) fun d4C =>
 qL Tryd.prog d6S (blk d4C) (lA 9 d4C) fun c6l =>
 R (Value.tuple #[(Value.map none), c6l, (vI 62)]) d6S)
 (oP E (fA 58 b0u 0) N2 fun f9O d6E =>
 oP E (lA 9 f9O) d6E fun f9P g7c =>
 oP E (xU (Instr.mapUpdate 108 x5 f9P b9t)) g7c fun _z_64 b6M =>
 oP E (xBin .add 3 (.tmp 15) (.const (vI 1)) x15 (vI 1)) b6M fun f9Q b2I =>
 next2 [f9Q] b2I))))
 (j1 [] p5)
def F54 (x0 : Value) (w : World) (R : RT) (E : Pan) : Prop :=
 oP E (xV (Instr.makeMap 108 none)) w fun b5r w_2 =>
 oP E (xV (Instr.makeMap 157 none)) w_2 fun a1f w_4 =>
 oP E (xU (Instr.mapUpdate 157 a1f (vI 1) (vI 32))) w_4 fun _z_5 w_6 =>
 oP E (xU (Instr.mapUpdate 157 a1f (vI 2) (vI 16))) w_6 fun _z_7 w_8 =>
 xcut (fun _ o0 => d4z b5r o0 R E) fun j1 =>
 oP E (xBuiltin .len #[41] 3 [false] [x0]) w_8 fun b4Q o8 =>
 xloop [15] [(vI 0)] o8 fun τ_68 g7d next2 =>
 d4A b5r a1f x0 b4Q (τ_68 15) g7d next2 j1 R E
noncomputable def c54 : Code := Tryd.f54.body.getD .skip
def h54 : Hint := (sQ (sQ (sQ (.cut [] (sQ (.block (.loop [15] (sQ (.seq (.cond .none .none) (.seq (.block (sQ (sQ (sQ (.seq (.block (sQ (.cond (.seq (.reg [(0, 2147483648, 256), (1, 4294967296, 2147483648), (0, 4, 0), (7, 8, 4294967296), (15, 16, 0)] [2, 0, 2, 2, 2] (.early 0 (.early 2 (.load 1 (.early 3 (.early 4 .done)))))) .none) (sQ (.cond (.seq (.reg [(0, 137438953472, 256), (1, 274877906944, 137438953472), (0, 4, 0), (7, 8, 274877906944), (15, 16, 0)] [2, 0, 2, 2, 2] (.early 0 (.early 2 (.load 1 (.early 3 (.early 4 .done)))))) .none) (sQ (.cond (.seq (.reg [(0, 17592186044416, 256), (1, 35184372088832, 17592186044416), (0, 4, 0), (7, 8, 35184372088832), (15, 16, 0)] [2, 0, 2, 2, 2] (.early 0 (.early 2 (.load 1 (.early 3 (.early 4 .done)))))) .none) .none))))))) .none))))) .none)))))) (sQ .none)))))
theorem f9R (x0 : Value) (w : World) (R : RT) (E : Pan) : F54 x0 w R E = callX Tryd.prog [.tmp 2, .tmp 3, .tmp 4] c54 h54 [x0] w R E := by kernel_rfl
theorem f9S {x0 : Value} (h : F54 x0 w R E) : Cv Tryd.prog 54 #[x0] w R E := by
 refine h9 (args := [x0]) (c := c54) (h := h54) (rs := [.tmp 2, .tmp 3, .tmp 4]) Tryd.func54 (by kernel_rfl) (by kernel_rfl) (nB (by kernel_rfl)) (by kernel_rfl) (by kernel_rfl) (by kernel_rfl) ?_
 rw [← f9R]
 exact h
def c6F (_x0 _x10 _x11 x12 : Value) (w : World) (next1 : NT) (_R : RT) (E : Pan) : Prop :=
 ∀ _τ : Fr, (oP E (xBin .add 3 (.tmp 12) (.const (vI 1)) x12 (vI 1)) w fun g3a w_6 =>
 next1 [g3a] w_6)
def c6G (x0 x5 _x10 _x11 _x12 : Value) (w : World) (j2 : NT) (_R : RT) (E : Pan) : Prop :=
 ∀ _τ : Fr, (oP E (fA 63 x5 4) w fun f9T r7 =>
 oP E (lA 42 f9T) r7 fun f9U q7 =>
 oP E (xCall (fC 55) [x0, f9U]) q7 fun _t71_21 s7 =>
 oP E (fA 63 x5 5) s7 fun f9V u9 =>
 oP E (lA 42 f9V) u9 fun f9W A6 =>
 oP E (xCall (fC 55) [x0, f9W]) A6 fun _t75_27 C8 =>
 j2 [] C8)
def d4D (x0 _x5 _x10 _x11 _x12 x58 x59 x60 : Value) (w : World) (next6 : NT) (j5 : NT) (_R : RT) (E : Pan) : Prop :=
 oP E (xBin .lss 3 (.tmp 60) (.tmp 59) x60 x59) w fun f9X E1 =>
 xcond f9X
 (oP E (iA 22 x58 x60) E1 fun f9Y E3 =>
 oP E (lA 24 f9Y) E3 fun f9Z I0 =>
 oP E (xV (Instr.alloc 24 true (.tuple #[]))) I0 fun e0T G7 =>
 oP E (sA 24 e0T f9Z) G7 fun _z_45 K1 =>
 oP E (lA 24 e0T) K1 fun g0a K4 =>
 oP E (xCall (fC 94) [x0, g0a]) K4 fun _t66_49 D5 =>
 oP E (xBin .add 3 (.tmp 60) (.const (vI 1)) x60 (vI 1)) D5 fun g0b F0 =>
 next6 [g0b] F0)
 (j5 [] E1)
def c6H (x0 x5 x10 x11 x12 : Value) (w : World) (j2 : NT) (R : RT) (E : Pan) : Prop :=
 ∀ _τ : Fr, (xcut (fun _ E0 => c6G x0 x5 x10 x11 x12 E0 j2 R E) fun j5 =>
 oP E (fA 63 x5 2) w fun g0c C3 =>
 oP E (lA 22 g0c) C3 fun d4E D3 =>
 oP E (xBuiltin .len #[22] 3 [false] [d4E]) D3 fun g0d G6 =>
 xloop [60] [(vI 0)] G6 fun τ_53 M0 next6 =>
 d4D x0 x5 x10 x11 x12 d4E g0d (τ_53 60) M0 next6 j5 R E)
def d4F (x0 _x5 _x10 _x11 _x12 x47 x48 x49 : Value) (w : World) (next7 : NT) (j4 : NT) (_R : RT) (E : Pan) : Prop :=
 oP E (xBin .lss 3 (.tmp 49) (.tmp 48) x49 x48) w fun g0e N6 =>
 xcond g0e
 (oP E (iA 25 x47 x49) N6 fun g0f O9 =>
 oP E (lA 27 g0f) O9 fun g0g P0 =>
 oP E (xV (Instr.alloc 27 true (.tuple #[]))) P0 fun e0U M2 =>
 oP E (sA 27 e0U g0g) M2 fun _z_71 P5 =>
 oP E (lA 27 e0U) P5 fun c6m P6 =>
 oP E (xCall (fC 93) [x0, c6m]) P6 fun _t55_75 S4 =>
 oP E (xBin .add 3 (.tmp 49) (.const (vI 1)) x49 (vI 1)) S4 fun c6n N8 =>
 next7 [c6n] N8)
 (j4 [] N6)
def c6I (x0 x5 x10 x11 x12 : Value) (w : World) (j2 : NT) (R : RT) (E : Pan) : Prop :=
 ∀ _τ : Fr, (xcut (fun _ N2 => c6H x0 x5 x10 x11 x12 N2 j2 R E) fun j4 =>
 oP E (fA 63 x5 3) w fun b9s M1 =>
 oP E (lA 25 b9s) M1 fun d4G O8 =>
 oP E (xBuiltin .len #[25] 3 [false] [d4G]) O8 fun g0h N3 =>
 xloop [49] [(vI 0)] N3 fun τ_79 S7 next7 =>
 d4F x0 x5 x10 x11 x12 d4G g0h (τ_79 49) S7 next7 j4 R E)
def d4H (x0 x10 x11 x12 : Value) (w : World) (next1 : NT) (R : RT) (E : Pan) : Prop :=
 oP E (xBin .lss 3 (.tmp 12) (.tmp 11) x12 x11) w fun b8J w_4 =>
 xcond b8J
 (xcut (fun _ w_8 => c6F x0 x10 x11 x12 w_8 next1 R E) fun j2 =>
 oP E (iA 42 x10 x12) w_4 fun a4k o0 =>
 oP E (lA 63 a4k) o0 fun a5V o8 =>
 oP E (xV (Instr.alloc 63 true (.tuple #[]))) o8 fun b9u p5 =>
 oP E (sA 63 b9u a5V) p5 fun _z_15 p9 =>
 xcut (fun _ R1 => c6I x0 b9u x10 x11 x12 R1 j2 R E) fun j3 =>
 oP E (fA 63 b9u 0) p9 fun g0i P1 =>
 oP E (lA 3 g0i) P1 fun d4I S8 =>
 oP E (xBin .eql 3 (.tmp 17) (.const (vI 1)) d4I (vI 1)) S8 fun g0j N9 =>
 xcond g0j
 (dX N9 fun c0M =>
 qP Tryd.prog (xNil x0) fun g0k =>
 qP Tryd.prog (fA 114 g0k 0) fun c6J =>
 qP Tryd.prog (fA 63 b9u 1) fun d4J =>
 qL Tryd.prog c0M (blk c6J) (lA 112 c6J) fun g0l =>
 qL Tryd.prog c0M (blk d4J) (lA 9 d4J) fun g0m =>
 qP Tryd.prog (xV (Instr.build 117 #[(0, g0m), (1, (vI 1))])) fun g0n =>
 oP E (xV (Instr.buildSlice 112 1 #[(0, g0n)])) c0M fun g0o b3b =>
 keepX [(blk c6J)] c0M b3b (opK Tryd.prog E (xBuiltin .append #[112, 112] 112 [false, false] [g0l, g0o]) b3b fun g0p c5D =>
 keepX [] b3b c5D (qP Tryd.prog (xNil x0) fun e6O =>
 qP Tryd.prog (fA 114 e6O 0) fun e6P =>
 oP E (sA 112 e6P g0p) c5D fun _z_102 b9h =>
 keepX [] c5D b9h (j3 [] b9h))))
 (oP E (xBin .eql 3 (.tmp 17) (.const (vI 2)) d4I (vI 2)) N9 fun e6Q b5T =>
 xcond e6Q
 (dX b5T fun X5 =>
 qP Tryd.prog (xNil x0) fun e6R =>
 qP Tryd.prog (fA 114 e6R 0) fun c1e =>
 qP Tryd.prog (fA 63 b9u 1) fun c8v =>
 qL Tryd.prog X5 (blk c1e) (lA 112 c1e) fun e6S =>
 qL Tryd.prog X5 (blk c8v) (lA 9 c8v) fun e6T =>
 qP Tryd.prog (xV (Instr.build 117 #[(0, e6T), (1, (vI 2))])) fun e6U =>
 oP E (xV (Instr.buildSlice 112 1 #[(0, e6U)])) X5 fun e6V R3 =>
 keepX [(blk c1e)] X5 R3 (opK Tryd.prog E (xBuiltin .append #[112, 112] 112 [false, false] [e6S, e6V]) R3 fun e6W U6 =>
 keepX [] R3 U6 (qP Tryd.prog (xNil x0) fun e6X =>
 qP Tryd.prog (fA 114 e6X 0) fun e6Y =>
 oP E (sA 112 e6Y e6W) U6 fun _z_119 P2 =>
 keepX [] U6 P2 (j3 [] P2))))
 (j3 [] b5T)))
 (R (Value.tuple #[]) w_4)
def F55 (x0 x1 : Value) (w : World) (R : RT) (E : Pan) : Prop :=
 oP E (xBuiltin .len #[42] 3 [false] [x1]) w fun d0d w_2 =>
 xloop [12] [(vI 0)] w_2 fun τ_121 a2s next1 =>
 d4H x0 x1 d0d (τ_121 12) a2s next1 R E
noncomputable def c55 : Code := Tryd.f55.body.getD .skip
def h55 : Hint := (sQ (.block (.loop [12] (sQ (.seq (.cond .none .none) (.cut [] (.block (sQ (.cut [] (sQ (.block (sQ (.cond (.reg [(0, 1048576, 1), (0, 2097152, 1), (2, 4194304, 2097152), (4, 8388608, 4194304), (8, 16777216, 8388608), (0, 33554432, 32), (32, 67108864, 33554432), (64, 134217728, 67108864), (128, 268435456, 134217728), (272, 536870912, 285212672), (1023, 1073741824, 1048576), (2047, 2147483648, 1073741824), (3071, 0, 2684354560)] [80, 80, 80, 80, 64, 80, 16, 80, 16, 0, 80, 80, 0] (.early 0 (.early 1 (.early 2 (.early 3 (.early 5 (.load 4 (.load 6 (.early 7 (.step 8 (.step 9 (.early 10 (.early 11 (.step 12 .done)))))))))))))) (sQ (.cond (.reg [(0, 17179869184, 1), (0, 34359738368, 1), (2, 68719476736, 34359738368), (4, 137438953472, 68719476736), (8, 274877906944, 137438953472), (0, 549755813888, 32), (32, 1099511627776, 549755813888), (64, 2199023255552, 1099511627776), (128, 4398046511104, 2199023255552), (272, 8796093022208, 4672924418048), (1023, 17592186044416, 17179869184), (2047, 35184372088832, 17592186044416), (3071, 0, 43980465111040)] [80, 80, 80, 80, 64, 80, 16, 80, 16, 0, 80, 80, 0] (.early 0 (.early 1 (.early 2 (.early 3 (.early 5 (.load 4 (.load 6 (.early 7 (.step 8 (.step 9 (.early 10 (.early 11 (.step 12 .done)))))))))))))) .none)))))) (.cut [] (sQ (.block (.loop [49] (sQ (.seq (.cond .none .none) (.seq (.block (sQ .none)) .none)))))) (.cut [] (sQ (.block (.loop [60] (sQ (.seq (.cond .none .none) (.seq (.block (sQ .none)) .none)))))) (sQ .none)))))) .none))))))
theorem g0q (x0 x1 : Value) (w : World) (R : RT) (E : Pan) : F55 x0 x1 w R E = callX Tryd.prog [] c55 h55 [x0, x1] w R E := by kernel_rfl
theorem g0r {x0 x1 : Value} (h : F55 x0 x1 w R E) : Cv Tryd.prog 55 #[x0, x1] w R E := by
 refine h9 (args := [x0, x1]) (c := c55) (h := h55) (rs := []) Tryd.func55 (by kernel_rfl) (by kernel_rfl) (nB (by kernel_rfl)) (by kernel_rfl) (by kernel_rfl) (by kernel_rfl) ?_
 rw [← g0q]
 exact h
def F92 (x0 : Value) (w : World) (R : RT) (E : Pan) : Prop :=
 oP E (xV (Instr.box 58 x0)) w fun v7 w_2 =>
 oP E (fA 58 v7 1) w_2 fun a0k w_4 =>
 oP E (lA 3 a0k) w_4 fun a2p w_6 =>
 oP E (xBin .gtr 3 (.tmp 4) (.const (vI 0)) a2p (vI 0)) w_6 fun a5d w_8 =>
 xcond a5d
 (R (vI 2) w_8)
 (R (vI 1) w_8)
noncomputable def c92 : Code := Tryd.f92.body.getD .skip
def h92 : Hint := (sQ (.seq (sQ (.cond (sQ .none) .none)) (sQ .none)))
theorem g0s (x0 : Value) (w : World) (R : RT) (E : Pan) : F92 x0 w R E = callX Tryd.prog [.tmp 2] c92 h92 [x0] w R E := by kernel_rfl
theorem g0t {x0 : Value} (h : F92 x0 w R E) : Cv Tryd.prog 92 #[x0] w R E := by
 refine h9 (args := [x0]) (c := c92) (h := h92) (rs := [.tmp 2]) Tryd.func92 (by kernel_rfl) (by kernel_rfl) (nB (by kernel_rfl)) (by kernel_rfl) (by kernel_rfl) (by kernel_rfl) ?_
 rw [← g0s]
 exact h
def d4K (x0 x20 x21 x22 : Value) (w : World) (next2 : NT) (R : RT) (E : Pan) : Prop :=
 oP E (xBin .lss 3 (.tmp 22) (.tmp 21) x22 x21) w fun b5K o0 =>
 xcond b5K
 (oP E (iA 25 x20 x22) o0 fun a7n o8 =>
 oP E (lA 27 a7n) o8 fun c4Y p5 =>
 oP E (xV (Instr.alloc 27 true (.tuple #[]))) p5 fun e0V p9 =>
 oP E (sA 27 e0V c4Y) p9 fun _z_17 r7 =>
 oP E (lA 27 e0V) r7 fun c4Z q7 =>
 oP E (xCall (fC 93) [x0, c4Z]) q7 fun _t28_21 s7 =>
 oP E (xBin .add 3 (.tmp 22) (.const (vI 1)) x22 (vI 1)) s7 fun g0u u9 =>
 next2 [g0u] u9)
 (R (Value.tuple #[]) o0)
def c6K (x0 x3 : Value) (w : World) (R : RT) (E : Pan) : Prop :=
 ∀ _τ : Fr, (oP E (fA 27 x3 3) w fun d0v w_4 =>
 oP E (lA 25 d0v) w_4 fun c2d w_6 =>
 oP E (xBuiltin .len #[25] 3 [false] [c2d]) w_6 fun c2a w_8 =>
 xloop [22] [(vI 0)] w_8 fun τ_25 A6 next2 =>
 d4K x0 c2d c2a (τ_25 22) A6 next2 R E)
def d4L (x0 _x3 x9 x10 x11 : Value) (w : World) (next3 : NT) (j1 : NT) (_R : RT) (E : Pan) : Prop :=
 oP E (xBin .lss 3 (.tmp 11) (.tmp 10) x11 x10) w fun g0v G6 =>
 xcond g0v
 (oP E (iA 22 x9 x11) G6 fun b5c E1 =>
 oP E (lA 24 b5c) E1 fun c6L E3 =>
 oP E (xV (Instr.alloc 24 true (.tuple #[]))) E3 fun e0W I0 =>
 oP E (sA 24 e0W c6L) I0 fun _z_43 G7 =>
 oP E (lA 24 e0W) G7 fun b8o K1 =>
 oP E (xCall (fC 94) [x0, b8o]) K1 fun _t17_47 K4 =>
 oP E (xBin .add 3 (.tmp 11) (.const (vI 1)) x11 (vI 1)) K4 fun b8p D5 =>
 next3 [b8p] D5)
 (j1 [] G6)
def F93 (x0 x1 : Value) (w : World) (R : RT) (E : Pan) : Prop :=
 oP E (xV (Instr.box 27 x1)) w fun K2 w_2 =>
 xcut (fun _ C8 => c6K x0 K2 C8 R E) fun j1 =>
 oP E (fA 27 K2 2) w_2 fun g3b E0 =>
 oP E (lA 22 g3b) E0 fun e0X C3 =>
 oP E (xBuiltin .len #[22] 3 [false] [e0X]) C3 fun g0w D3 =>
 xloop [11] [(vI 0)] D3 fun τ_51 F0 next3 =>
 d4L x0 K2 e0X g0w (τ_51 11) F0 next3 j1 R E
noncomputable def c93 : Code := Tryd.f93.body.getD .skip
def h93 : Hint := (sQ (.cut [] (sQ (.block (.loop [11] (sQ (.seq (.cond .none .none) (.seq (.block (sQ .none)) .none)))))) (sQ (.block (.loop [22] (sQ (.seq (.cond .none .none) (.seq (.block (sQ .none)) .none))))))))
theorem g0x (x0 x1 : Value) (w : World) (R : RT) (E : Pan) : F93 x0 x1 w R E = callX Tryd.prog [] c93 h93 [x0, x1] w R E := by kernel_rfl
theorem g0y {x0 x1 : Value} (h : F93 x0 x1 w R E) : Cv Tryd.prog 93 #[x0, x1] w R E := by
 refine h9 (args := [x0, x1]) (c := c93) (h := h93) (rs := []) Tryd.func93 (by kernel_rfl) (by kernel_rfl) (nB (by kernel_rfl)) (by kernel_rfl) (by kernel_rfl) (by kernel_rfl) ?_
 rw [← g0x]
 exact h
def d4M (x0 x37 x38 x39 : Value) (w : World) (next2 : NT) (R : RT) (E : Pan) : Prop :=
 oP E (xBin .lss 3 (.tmp 39) (.tmp 38) x39 x38) w fun g3c o0 =>
 xcond g3c
 (oP E (iA 22 x37 x39) o0 fun g0z o8 =>
 oP E (lA 24 g0z) o8 fun g0A p5 =>
 oP E (xV (Instr.alloc 24 true (.tuple #[]))) p5 fun e0Y p9 =>
 oP E (sA 24 e0Y g0A) p9 fun _z_17 r7 =>
 oP E (lA 24 e0Y) r7 fun g0B q7 =>
 oP E (xCall (fC 94) [x0, g0B]) q7 fun _t45_21 s7 =>
 oP E (xBin .add 3 (.tmp 39) (.const (vI 1)) x39 (vI 1)) s7 fun g0C u9 =>
 next2 [g0C] u9)
 (R (Value.tuple #[]) o0)
def c6M (x0 x3 : Value) (w : World) (R : RT) (E : Pan) : Prop :=
 ∀ _τ : Fr, (oP E (fA 24 x3 3) w fun g3d w_4 =>
 oP E (lA 22 g3d) w_4 fun e0Z w_6 =>
 oP E (xBuiltin .len #[22] 3 [false] [e0Z]) w_6 fun g3e w_8 =>
 xloop [39] [(vI 0)] w_8 fun τ_25 A6 next2 =>
 d4M x0 e0Z g3e (τ_25 39) A6 next2 R E)
def F94 (x0 x1 : Value) (w : World) (R : RT) (E : Pan) : Prop :=
 oP E (xV (Instr.box 24 x1)) w fun K2 w_2 =>
 xcut (fun _ C8 => c6M x0 K2 C8 R E) fun j1 =>
 oP E (fA 24 K2 0) w_2 fun g3f E0 =>
 oP E (lA 3 g3f) E0 fun e1a C3 =>
 oP E (xBin .eql 3 (.tmp 7) (.const (vI 2)) e1a (vI 2)) C3 fun g3g D3 =>
 xcond g3g
 (dX D3 fun b0N =>
 qP Tryd.prog (xNil x0) fun g0D =>
 qP Tryd.prog (fA 114 g0D 0) fun b5c =>
 qP Tryd.prog (fA 24 K2 2) fun d4N =>
 qL Tryd.prog b0N (blk b5c) (lA 112 b5c) fun c6L =>
 qL Tryd.prog b0N (blk d4N) (lA 9 d4N) fun g0E =>
 qP Tryd.prog (xV (Instr.build 117 #[(0, g0E), (1, (vI 1))])) fun g0F =>
 oP E (xV (Instr.buildSlice 112 1 #[(0, g0F)])) b0N fun g0G b3T =>
 keepX [(blk b5c)] b0N b3T (opK Tryd.prog E (xBuiltin .append #[112, 112] 112 [false, false] [c6L, g0G]) b3T fun g0H b0J =>
 keepX [] b3T b0J (qP Tryd.prog (xNil x0) fun g0I =>
 qP Tryd.prog (fA 114 g0I 0) fun g0J =>
 oP E (sA 112 g0J g0H) b0J fun _z_48 b2h =>
 keepX [] b0J b2h (j1 [] b2h))))
 (oP E (xBin .eql 3 (.tmp 7) (.const (vI 4)) e1a (vI 4)) D3 fun g0K c0V =>
 xcond g0K
 (dX c0V fun F0 =>
 qP Tryd.prog (xNil x0) fun g0L =>
 qP Tryd.prog (fA 114 g0L 0) fun c6N =>
 qP Tryd.prog (fA 24 K2 2) fun b9f =>
 qL Tryd.prog F0 (blk c6N) (lA 112 c6N) fun g0M =>
 qL Tryd.prog F0 (blk b9f) (lA 9 b9f) fun b1D =>
 qP Tryd.prog (xV (Instr.build 117 #[(0, b1D), (1, (vI 2))])) fun g0N =>
 oP E (xV (Instr.buildSlice 112 1 #[(0, g0N)])) F0 fun b4h O8 =>
 keepX [(blk c6N)] F0 O8 (opK Tryd.prog E (xBuiltin .append #[112, 112] 112 [false, false] [g0M, b4h]) O8 fun b4i N3 =>
 keepX [] O8 N3 (qP Tryd.prog (xNil x0) fun b4j =>
 qP Tryd.prog (fA 114 b4j 0) fun g0O =>
 oP E (sA 112 g0O b4i) N3 fun _z_65 O9 =>
 keepX [] N3 O9 (j1 [] O9))))
 (j1 [] c0V))
noncomputable def c94 : Code := Tryd.f94.body.getD .skip
def h94 : Hint := (sQ (.cut [] (sQ (.block (sQ (.cond (.reg [(0, 1024, 1), (0, 2048, 1), (2, 4096, 2048), (4, 8192, 4096), (8, 16384, 8192), (0, 32768, 8), (32, 65536, 32768), (64, 131072, 65536), (128, 262144, 131072), (272, 524288, 278528), (1023, 1048576, 1024), (2047, 2097152, 1048576), (3071, 0, 2621440)] [80, 80, 80, 80, 64, 80, 16, 80, 16, 0, 80, 80, 0] (.early 0 (.early 1 (.early 2 (.early 3 (.early 5 (.load 4 (.load 6 (.early 7 (.step 8 (.step 9 (.early 10 (.early 11 (.step 12 .done)))))))))))))) (sQ (.cond (.reg [(0, 16777216, 1), (0, 33554432, 1), (2, 67108864, 33554432), (4, 134217728, 67108864), (8, 268435456, 134217728), (0, 536870912, 8), (32, 1073741824, 536870912), (64, 2147483648, 1073741824), (128, 4294967296, 2147483648), (272, 8589934592, 4563402752), (1023, 17179869184, 16777216), (2047, 34359738368, 17179869184), (3071, 0, 42949672960)] [80, 80, 80, 80, 64, 80, 16, 80, 16, 0, 80, 80, 0] (.early 0 (.early 1 (.early 2 (.early 3 (.early 5 (.load 4 (.load 6 (.early 7 (.step 8 (.step 9 (.early 10 (.early 11 (.step 12 .done)))))))))))))) .none)))))) (sQ (.block (.loop [39] (sQ (.seq (.cond .none .none) (.seq (.block (sQ .none)) .none))))))))
theorem g0P (x0 x1 : Value) (w : World) (R : RT) (E : Pan) : F94 x0 x1 w R E = callX Tryd.prog [] c94 h94 [x0, x1] w R E := by kernel_rfl
theorem g0Q {x0 x1 : Value} (h : F94 x0 x1 w R E) : Cv Tryd.prog 94 #[x0, x1] w R E := by
 refine h9 (args := [x0, x1]) (c := c94) (h := h94) (rs := []) Tryd.func94 (by kernel_rfl) (by kernel_rfl) (nB (by kernel_rfl)) (by kernel_rfl) (by kernel_rfl) (by kernel_rfl) ?_
 rw [← g0P]
 exact h
end Go.Proofs.YtnhkdkcgdcgmdaaDoor
