/- The second reading of some of the program's functions, printed by gen2.py off the code; each is held against the code by the kernel. -/
import Derived.Test.YtnhkdkcgdcgmdaaGreatDoorProg
import Derived.Test.YtnhkdkcgdcgmdaaGreatDoorzRK0
import Derived.KernelRfl
import Derived.Test.YtnhkdkcgdcgmdaaGreatDoorzRGz
namespace Go.Proofs.YtnhkdkcgdcgmdaaGreatDoor
open Go.RowKit
set_option maxRecDepth 100000
variable {w : World} {R : RT} {E : Pan}
def d3D (x7 x9 : Value) (w : World) (R : RT) (_E : Pan) : Prop :=
 ∀ _τ : Fr, (R (Value.tuple #[x9, x7]) w)
def e3p (x5 x7 x9 x37 x38 x39 : Value) (w : World) (next2 : NT) (j1 : NT) (_R : RT) (E : Pan) : Prop :=
 oP E (xBin .lss 3 (.tmp 39) (.tmp 38) x39 x38) w fun g8g G4 =>
 xcond g8g
 (oP E (iA 123 x37 x39) G4 fun g8h O4 =>
 oP E (lA 127 g8h) O4 fun g8i N8 =>
 oP E (xV (Instr.alloc 127 true (.tuple #[]))) N8 fun c0F M9 =>
 oP E (sA 127 c0F g8i) M9 fun _z_51 K6 =>
 oP E (fA 127 c0F 0) K6 fun g8j N7 =>
 oP E (lA 9 g8j) N7 fun g8k O3 =>
 oP E (xV (Instr.lookup 119 x5 g8k false)) O3 fun c5R M8 =>
 oP E (fA 127 c0F 1) M8 fun g8l Q4 =>
 oP E (lA 3 g8l) Q4 fun g8m P6 =>
 oP E (xBin .eql 3 (.tmp 46) (.tmp 51) c5R g8m) P6 fun g8n Q5 =>
 xcond g8n
 (oP E (xBin .add 3 (.tmp 39) (.const (vI 1)) x39 (vI 1)) Q5 fun g8o S6 =>
 next2 [x7, x9, g8o] S6)
 (oP E (xBin .eql 3 (.tmp 46) (.const (vI 0)) c5R (vI 0)) Q5 fun g8p Q8 =>
 xcond g8p
 (oP E (fA 127 c0F 0) Q8 fun g8q Q3 =>
 oP E (lA 9 g8q) Q3 fun g8r W6 =>
 j1 [(vI 63), g8r] W6)
 (oP E (fA 127 c0F 0) Q8 fun g8s Y7 =>
 oP E (lA 9 g8s) Y7 fun g8t a0v =>
 j1 [(vI 64), g8t] a0v)))
 (j1 [x7, x9] G4)
def F33 (x0 : Value) (w : World) (R : RT) (E : Pan) : Prop :=
 oP E (xV (Instr.box 25 x0)) w fun r5 w_2 =>
 oP E (lA 25 r5) w_2 fun c5S w_4 =>
 oP E (xCall (fC 24) [c5S]) w_4 fun a8o w_6 =>
 oP E (xBin .neq 27 (.tmp 14) (.const (vI 0)) a8o (vI 0)) w_6 fun c4S w_8 =>
 xcond c4S
 (R (Value.tuple #[(eS), a8o]) w_8)
 (oP E (fA 25 r5 0) w_8 fun b8y q7 =>
 oP E (lA 22 b8y) q7 fun a8O q9 =>
 oP E (xCall (fC 57) [a8O]) q9 fun b0p p9 =>
 oP E (eX b0p 0) p9 fun c0j s6 =>
 oP E (eX b0p 1) s6 fun d0m u5 =>
 oP E (eX b0p 2) u5 fun d3E u9 =>
 oP E (xBin .neq 27 (.tmp 24) (.const (vI 0)) d3E (vI 0)) u9 fun b9t y6 =>
 xcond b9t
 (R (Value.tuple #[d0m, d3E]) y6)
 (oP E (xV (Instr.build 125 #[])) y6 fun d0d z6 =>
 oP E (xV (Instr.box 125 d0d)) z6 fun e3q A6 =>
 oP E (fA 25 r5 1) A6 fun g8u D8 =>
 oP E (lA 23 g8u) D8 fun c4y K1 =>
 oP E (xCall (fC 58) [e3q, c4y]) K1 fun _t33_31 B7 =>
 xcut (fun d1D B3 => d3D (nth d1D 0) (nth d1D.tail 0) B3 R E) fun j1 =>
 oP E (xNil e3q) B7 fun d3F J0 =>
 oP E (fA 125 d3F 0) J0 fun d3G I0 =>
 oP E (lA 123 d3G) I0 fun a8Q G3 =>
 oP E (xBuiltin .len #[123] 3 [false] [a8Q]) G3 fun b6J G6 =>
 xloop [7, 9, 39] [d3E, (eS), (vI 0)] G6 fun τ_77 W7 next2 =>
 e3p c0j (τ_77 7) (τ_77 9) a8Q b6J (τ_77 39) W7 next2 j1 R E))
noncomputable def c33 : Code := Tryz.f33.body.getD .skip
def h33 : Hint := (sQ (.scope (.seq (sQ (sQ (.cond (sQ .none) .none))) (sQ (.seq (sQ (.cond (sQ .none) .none)) (sQ (sQ (sQ (sQ (.cut [7, 9] (sQ (.block (.loop [7, 9, 39] (sQ (.seq (.cond .none .none) (.seq (.block (sQ (sQ (.block (sQ (.cond .none (sQ (.cond (sQ .none) (sQ .none))))))))) .none)))))) (sQ .none)))))))))))
theorem g8v (x0 : Value) (w : World) (R : RT) (E : Pan) : F33 x0 w R E = callX Tryz.prog [.tmp 2, .tmp 3] c33 h33 [x0] w R E := by kernel_rfl
theorem g8w {x0 : Value} (h : F33 x0 w R E) : Cv Tryz.prog 33 #[x0] w R E := by
 refine i6 (args := [x0]) (c := c33) (h := h33) (rs := [.tmp 2, .tmp 3]) Tryz.func33 (by kernel_rfl) (by kernel_rfl) (nB (by kernel_rfl)) (by kernel_rfl) (by kernel_rfl) (by kernel_rfl) ?_
 rw [← g8v]
 exact h
def e3r (x5 : Value) (w : World) (R : RT) (_E : Pan) : Prop :=
 ∀ _τ : Fr, (R (Value.tuple #[x5, (eS), (vI 0)]) w)
def e3s (x5 x6 x13 x14 x15 : Value) (w : World) (next2 : NT) (j1 : NT) (R : RT) (E : Pan) : Prop :=
 oP E (xBin .lss 3 (.tmp 15) (.tmp 14) x15 x14) w fun d1X p9 =>
 xcond d1X
 (oP E (iA 22 x13 x15) p9 fun a6c s6 =>
 oP E (lA 71 a6c) s6 fun b9r u5 =>
 oP E (xV (Instr.alloc 71 true (.tuple #[]))) u5 fun b5l u9 =>
 oP E (sA 71 b5l b9r) u9 fun _z_21 y6 =>
 oP E (lA 71 b5l) y6 fun d2z z6 =>
 oP E (xCall (fC 100) [d2z]) z6 fun c5T A6 =>
 oP E (xV (Instr.lookup 165 x6 c5T false)) A6 fun b3Z D8 =>
 oP E (xBin .sub 3 (.tmp 23) (.const (vI 1)) b3Z (vI 1)) D8 fun c0q K1 =>
 oP E (xU (Instr.mapUpdate 165 x6 c5T c0q)) K1 fun _z_31 B7 =>
 oP E (fA 71 b5l 0) B7 fun d1Y B3 =>
 oP E (lA 9 d1Y) B3 fun d1Z J0 =>
 oP E (xV (Instr.lookup 119 x5 d1Z false)) J0 fun d2a I0 =>
 oP E (xBin .neq 3 (.tmp 29) (.const (vI 0)) d2a (vI 0)) I0 fun d2b G3 =>
 xcond d2b
 (dX G3 fun b7y =>
 qP Tryz.prog (fA 71 b5l 0) fun c4t =>
 qL Tryz.prog b7y (blk c4t) (lA 9 c4t) fun g8x =>
 R (Value.tuple #[(Value.map none), g8x, (vI 60)]) b7y)
 (oP E (fA 71 b5l 1) G3 fun g8y b2g =>
 oP E (lA 3 g8y) b2g fun g8z b9w =>
 oP E (xBin .gtr 3 (.tmp 35) (.const (vI 1024)) g8z (vI 1024)) b9w fun g8A b0L =>
 xcond g8A
 (dX b0L fun M9 =>
 qP Tryz.prog (fA 71 b5l 0) fun c5d =>
 qL Tryz.prog M9 (blk c5d) (lA 9 c5d) fun g8B =>
 R (Value.tuple #[(Value.map none), g8B, (vI 61)]) M9)
 (oP E (xV (Instr.lookup 165 x6 c5T false)) b0L fun g8C N7 =>
 oP E (xBin .lss 3 (.tmp 42) (.const (vI 0)) g8C (vI 0)) N7 fun g8D O3 =>
 xcond g8D
 (dX O3 fun b7V =>
 qP Tryz.prog (fA 71 b5l 0) fun e3t =>
 qL Tryz.prog b7V (blk e3t) (lA 9 e3t) fun d3H =>
 R (Value.tuple #[(Value.map none), d3H, (vI 62)]) b7V)
 (oP E (fA 71 b5l 0) O3 fun g8E c2O =>
 oP E (lA 9 g8E) c2O fun g8F d2v =>
 oP E (xU (Instr.mapUpdate 119 x5 g8F c5T)) d2v fun _z_64 b5B =>
 oP E (xBin .add 3 (.tmp 15) (.const (vI 1)) x15 (vI 1)) b5B fun g8G b2m =>
 next2 [g8G] b2m))))
 (j1 [] p9)
def F57 (x0 : Value) (w : World) (R : RT) (E : Pan) : Prop :=
 oP E (xV (Instr.makeMap 119 none)) w fun c1f w_2 =>
 oP E (xV (Instr.makeMap 165 none)) w_2 fun a4h w_4 =>
 oP E (xU (Instr.mapUpdate 165 a4h (vI 1) (vI 32))) w_4 fun _z_5 w_6 =>
 oP E (xU (Instr.mapUpdate 165 a4h (vI 2) (vI 16))) w_6 fun _z_7 w_8 =>
 xcut (fun _ q7 => e3r c1f q7 R E) fun j1 =>
 oP E (xBuiltin .len #[22] 3 [false] [x0]) w_8 fun d3I q9 =>
 xloop [15] [(vI 0)] q9 fun τ_68 e6H next2 =>
 e3s c1f a4h x0 d3I (τ_68 15) e6H next2 j1 R E
noncomputable def c57 : Code := Tryz.f57.body.getD .skip
def h57 : Hint := (sQ (sQ (sQ (.cut [] (sQ (.block (.loop [15] (sQ (.seq (.cond .none .none) (.seq (.block (sQ (sQ (sQ (.seq (.block (sQ (.cond (.seq (.reg [(0, 2147483648, 256), (1, 4294967296, 2147483648), (0, 4, 0), (7, 8, 4294967296), (15, 16, 0)] [2, 0, 2, 2, 2] (.early 0 (.early 2 (.load 1 (.early 3 (.early 4 .done)))))) .none) (sQ (.cond (.seq (.reg [(0, 137438953472, 256), (1, 274877906944, 137438953472), (0, 4, 0), (7, 8, 274877906944), (15, 16, 0)] [2, 0, 2, 2, 2] (.early 0 (.early 2 (.load 1 (.early 3 (.early 4 .done)))))) .none) (sQ (.cond (.seq (.reg [(0, 17592186044416, 256), (1, 35184372088832, 17592186044416), (0, 4, 0), (7, 8, 35184372088832), (15, 16, 0)] [2, 0, 2, 2, 2] (.early 0 (.early 2 (.load 1 (.early 3 (.early 4 .done)))))) .none) .none))))))) .none))))) .none)))))) (sQ .none)))))
theorem g8H (x0 : Value) (w : World) (R : RT) (E : Pan) : F57 x0 w R E = callX Tryz.prog [.tmp 2, .tmp 3, .tmp 4] c57 h57 [x0] w R E := by kernel_rfl
theorem g8I {x0 : Value} (h : F57 x0 w R E) : Cv Tryz.prog 57 #[x0] w R E := by
 refine i6 (args := [x0]) (c := c57) (h := h57) (rs := [.tmp 2, .tmp 3, .tmp 4]) Tryz.func57 (by kernel_rfl) (by kernel_rfl) (nB (by kernel_rfl)) (by kernel_rfl) (by kernel_rfl) (by kernel_rfl) ?_
 rw [← g8H]
 exact h
def d3J (_x0 _x10 _x11 x12 : Value) (w : World) (next1 : NT) (_R : RT) (E : Pan) : Prop :=
 ∀ _τ : Fr, (oP E (xBin .add 3 (.tmp 12) (.const (vI 1)) x12 (vI 1)) w fun h5O w_6 =>
 next1 [h5O] w_6)
def d3K (x0 x5 _x10 _x11 _x12 : Value) (w : World) (j2 : NT) (_R : RT) (E : Pan) : Prop :=
 ∀ _τ : Fr, (oP E (fA 73 x5 4) w fun g8J u5 =>
 oP E (lA 23 g8J) u5 fun g8K u9 =>
 oP E (xCall (fC 58) [x0, g8K]) u9 fun _t71_21 y6 =>
 oP E (fA 73 x5 5) y6 fun g8L z6 =>
 oP E (lA 23 g8L) z6 fun g8M A6 =>
 oP E (xCall (fC 58) [x0, g8M]) A6 fun _t75_27 D8 =>
 j2 [] D8)
def e3u (x0 _x5 _x10 _x11 _x12 x58 x59 x60 : Value) (w : World) (next6 : NT) (j5 : NT) (_R : RT) (E : Pan) : Prop :=
 oP E (xBin .lss 3 (.tmp 60) (.tmp 59) x60 x59) w fun g8N I0 =>
 xcond g8N
 (oP E (iA 51 x58 x60) I0 fun g8O G3 =>
 oP E (lA 53 g8O) G3 fun g8P G6 =>
 oP E (xV (Instr.alloc 53 true (.tuple #[]))) G6 fun b2L G4 =>
 oP E (sA 53 b2L g8P) G4 fun _z_45 O4 =>
 oP E (lA 53 b2L) O4 fun g8Q N8 =>
 oP E (xCall (fC 102) [x0, g8Q]) N8 fun _t66_49 M9 =>
 oP E (xBin .add 3 (.tmp 60) (.const (vI 1)) x60 (vI 1)) M9 fun g8R K6 =>
 next6 [g8R] K6)
 (j5 [] I0)
def d3L (x0 x5 x10 x11 x12 : Value) (w : World) (j2 : NT) (R : RT) (E : Pan) : Prop :=
 ∀ _τ : Fr, (xcut (fun _ K1 => d3K x0 x5 x10 x11 x12 K1 j2 R E) fun j5 =>
 oP E (fA 73 x5 2) w fun g8S B7 =>
 oP E (lA 51 g8S) B7 fun e3v B3 =>
 oP E (xBuiltin .len #[51] 3 [false] [e3v]) B3 fun g8T J0 =>
 xloop [60] [(vI 0)] J0 fun τ_53 N7 next6 =>
 e3u x0 x5 x10 x11 x12 e3v g8T (τ_53 60) N7 next6 j5 R E)
def e3w (x0 _x5 _x10 _x11 _x12 x47 x48 x49 : Value) (w : World) (next7 : NT) (j4 : NT) (_R : RT) (E : Pan) : Prop :=
 oP E (xBin .lss 3 (.tmp 49) (.tmp 48) x49 x48) w fun d3M Q5 =>
 xcond d3M
 (oP E (iA 57 x47 x49) Q5 fun d3N S6 =>
 oP E (lA 59 d3N) S6 fun d3O Q8 =>
 oP E (xV (Instr.alloc 59 true (.tuple #[]))) Q8 fun f0t Q3 =>
 oP E (sA 59 f0t d3O) Q3 fun _z_71 W6 =>
 oP E (lA 59 f0t) W6 fun d3P Y7 =>
 oP E (xCall (fC 101) [x0, d3P]) Y7 fun _t55_75 a0v =>
 oP E (xBin .add 3 (.tmp 49) (.const (vI 1)) x49 (vI 1)) a0v fun d3Q W7 =>
 next7 [d3Q] W7)
 (j4 [] Q5)
def d3R (x0 x5 x10 x11 x12 : Value) (w : World) (j2 : NT) (R : RT) (E : Pan) : Prop :=
 ∀ _τ : Fr, (xcut (fun _ O3 => d3L x0 x5 x10 x11 x12 O3 j2 R E) fun j4 =>
 oP E (fA 73 x5 3) w fun c5R M8 =>
 oP E (lA 57 c5R) M8 fun e3x Q4 =>
 oP E (xBuiltin .len #[57] 3 [false] [e3x]) Q4 fun g8U P6 =>
 xloop [49] [(vI 0)] P6 fun τ_79 a0E next7 =>
 e3w x0 x5 x10 x11 x12 e3x g8U (τ_79 49) a0E next7 j4 R E)
def e3y (x0 x10 x11 x12 : Value) (w : World) (next1 : NT) (R : RT) (E : Pan) : Prop :=
 oP E (xBin .lss 3 (.tmp 12) (.tmp 11) x12 x11) w fun d8x w_4 =>
 xcond d8x
 (xcut (fun _ w_8 => d3J x0 x10 x11 x12 w_8 next1 R E) fun j2 =>
 oP E (iA 23 x10 x12) w_4 fun a5I q7 =>
 oP E (lA 73 a5I) q7 fun a7E q9 =>
 oP E (xV (Instr.alloc 73 true (.tuple #[]))) q9 fun c5U p9 =>
 oP E (sA 73 c5U a7E) p9 fun _z_15 s6 =>
 xcut (fun _ V7 => d3R x0 c5U x10 x11 x12 V7 j2 R E) fun j3 =>
 oP E (fA 73 c5U 0) s6 fun g8V U9 =>
 oP E (lA 3 g8V) U9 fun e3z a0g =>
 oP E (xBin .eql 3 (.tmp 17) (.const (vI 1)) e3z (vI 1)) a0g fun g8W V0 =>
 xcond g8W
 (dX V0 fun c0t =>
 qP Tryz.prog (xNil x0) fun g8X =>
 qP Tryz.prog (fA 125 g8X 0) fun d3S =>
 qP Tryz.prog (fA 73 c5U 1) fun e3A =>
 qL Tryz.prog c0t (blk d3S) (lA 123 d3S) fun g8Y =>
 qL Tryz.prog c0t (blk e3A) (lA 9 e3A) fun g8Z =>
 qP Tryz.prog (xV (Instr.build 127 #[(0, g8Z), (1, (vI 1))])) fun g9a =>
 oP E (xV (Instr.buildSlice 123 1 #[(0, g9a)])) c0t fun g9b a7t =>
 keepX [(blk d3S)] c0t a7t (opK Tryz.prog E (xBuiltin .append #[123, 123] 123 [false, false] [g8Y, g9b]) a7t fun g9c b8h =>
 keepX [] a7t b8h (qP Tryz.prog (xNil x0) fun f4R =>
 qP Tryz.prog (fA 125 f4R 0) fun f4S =>
 oP E (sA 123 f4S g9c) b8h fun _z_102 a9c =>
 keepX [] b8h a9c (j3 [] a9c))))
 (oP E (xBin .eql 3 (.tmp 17) (.const (vI 2)) e3z (vI 2)) V0 fun f4T b5f =>
 xcond f4T
 (dX b5f fun a3H =>
 qP Tryz.prog (xNil x0) fun f4U =>
 qP Tryz.prog (fA 125 f4U 0) fun c7u =>
 qP Tryz.prog (fA 73 c5U 1) fun d6n =>
 qL Tryz.prog a3H (blk c7u) (lA 123 c7u) fun f4V =>
 qL Tryz.prog a3H (blk d6n) (lA 9 d6n) fun f4W =>
 qP Tryz.prog (xV (Instr.build 127 #[(0, f4W), (1, (vI 2))])) fun f4X =>
 oP E (xV (Instr.buildSlice 123 1 #[(0, f4X)])) a3H fun f4Y a1f =>
 keepX [(blk c7u)] a3H a1f (opK Tryz.prog E (xBuiltin .append #[123, 123] 123 [false, false] [f4V, f4Y]) a1f fun f4Z a3m =>
 keepX [] a1f a3m (qP Tryz.prog (xNil x0) fun f5a =>
 qP Tryz.prog (fA 125 f5a 0) fun f5b =>
 oP E (sA 123 f5b f4Z) a3m fun _z_119 a0K =>
 keepX [] a3m a0K (j3 [] a0K))))
 (j3 [] b5f)))
 (R (Value.tuple #[]) w_4)
def F58 (x0 x1 : Value) (w : World) (R : RT) (E : Pan) : Prop :=
 oP E (xBuiltin .len #[23] 3 [false] [x1]) w fun d8w w_2 =>
 xloop [12] [(vI 0)] w_2 fun τ_121 a6C next1 =>
 e3y x0 x1 d8w (τ_121 12) a6C next1 R E
noncomputable def c58 : Code := Tryz.f58.body.getD .skip
def h58 : Hint := (sQ (.block (.loop [12] (sQ (.seq (.cond .none .none) (.cut [] (.block (sQ (.cut [] (sQ (.block (sQ (.cond (.reg [(0, 1048576, 1), (0, 2097152, 1), (2, 4194304, 2097152), (4, 8388608, 4194304), (8, 16777216, 8388608), (0, 33554432, 32), (32, 67108864, 33554432), (64, 134217728, 67108864), (128, 268435456, 134217728), (272, 536870912, 285212672), (1023, 1073741824, 1048576), (2047, 2147483648, 1073741824), (3071, 0, 2684354560)] [80, 80, 80, 80, 64, 80, 16, 80, 16, 0, 80, 80, 0] (.early 0 (.early 1 (.early 2 (.early 3 (.early 5 (.load 4 (.load 6 (.early 7 (.step 8 (.step 9 (.early 10 (.early 11 (.step 12 .done)))))))))))))) (sQ (.cond (.reg [(0, 17179869184, 1), (0, 34359738368, 1), (2, 68719476736, 34359738368), (4, 137438953472, 68719476736), (8, 274877906944, 137438953472), (0, 549755813888, 32), (32, 1099511627776, 549755813888), (64, 2199023255552, 1099511627776), (128, 4398046511104, 2199023255552), (272, 8796093022208, 4672924418048), (1023, 17592186044416, 17179869184), (2047, 35184372088832, 17592186044416), (3071, 0, 43980465111040)] [80, 80, 80, 80, 64, 80, 16, 80, 16, 0, 80, 80, 0] (.early 0 (.early 1 (.early 2 (.early 3 (.early 5 (.load 4 (.load 6 (.early 7 (.step 8 (.step 9 (.early 10 (.early 11 (.step 12 .done)))))))))))))) .none)))))) (.cut [] (sQ (.block (.loop [49] (sQ (.seq (.cond .none .none) (.seq (.block (sQ .none)) .none)))))) (.cut [] (sQ (.block (.loop [60] (sQ (.seq (.cond .none .none) (.seq (.block (sQ .none)) .none)))))) (sQ .none)))))) .none))))))
theorem g9d (x0 x1 : Value) (w : World) (R : RT) (E : Pan) : F58 x0 x1 w R E = callX Tryz.prog [] c58 h58 [x0, x1] w R E := by kernel_rfl
theorem g9e {x0 x1 : Value} (h : F58 x0 x1 w R E) : Cv Tryz.prog 58 #[x0, x1] w R E := by
 refine i6 (args := [x0, x1]) (c := c58) (h := h58) (rs := []) Tryz.func58 (by kernel_rfl) (by kernel_rfl) (nB (by kernel_rfl)) (by kernel_rfl) (by kernel_rfl) (by kernel_rfl) ?_
 rw [← g9d]
 exact h
def e0d (x0 : Value) (w : World) (R : RT) (E : Pan) : Prop :=
 oP E (xV (Instr.box 71 x0)) w fun r5 w_2 =>
 oP E (fA 71 r5 1) w_2 fun Y5 w_4 =>
 oP E (lA 3 Y5) w_4 fun a3S w_6 =>
 oP E (xBin .gtr 3 (.tmp 4) (.const (vI 0)) a3S (vI 0)) w_6 fun a6A w_8 =>
 xcond a6A
 (R (vI 2) w_8)
 (R (vI 1) w_8)
noncomputable def g9f : Code := Tryz.f100.body.getD .skip
def g9g : Hint := (sQ (.seq (sQ (.cond (sQ .none) .none)) (sQ .none)))
theorem f5c (x0 : Value) (w : World) (R : RT) (E : Pan) : e0d x0 w R E = callX Tryz.prog [.tmp 2] g9f g9g [x0] w R E := by kernel_rfl
theorem f5d {x0 : Value} (h : e0d x0 w R E) : Cv Tryz.prog 100 #[x0] w R E := by
 refine i6 (args := [x0]) (c := g9f) (h := g9g) (rs := [.tmp 2]) Tryz.func100 (by kernel_rfl) (by kernel_rfl) (nB (by kernel_rfl)) (by kernel_rfl) (by kernel_rfl) (by kernel_rfl) ?_
 rw [← f5c]
 exact h
def d6o (x0 x20 x21 x22 : Value) (w : World) (next2 : NT) (R : RT) (E : Pan) : Prop :=
 oP E (xBin .lss 3 (.tmp 22) (.tmp 21) x22 x21) w fun h5P q7 =>
 xcond h5P
 (oP E (iA 57 x20 x22) q7 fun b6W q9 =>
 oP E (lA 59 b6W) q9 fun g9h p9 =>
 oP E (xV (Instr.alloc 59 true (.tuple #[]))) p9 fun c9e s6 =>
 oP E (sA 59 c9e g9h) s6 fun _z_17 u5 =>
 oP E (lA 59 c9e) u5 fun d3T u9 =>
 oP E (xCall (fC 101) [x0, d3T]) u9 fun _t28_21 y6 =>
 oP E (xBin .add 3 (.tmp 22) (.const (vI 1)) x22 (vI 1)) y6 fun g9i z6 =>
 next2 [g9i] z6)
 (R (Value.tuple #[]) q7)
def c7v (x0 x3 : Value) (w : World) (R : RT) (E : Pan) : Prop :=
 ∀ _τ : Fr, (oP E (fA 59 x3 3) w fun h5Q w_4 =>
 oP E (lA 57 h5Q) w_4 fun f0u w_6 =>
 oP E (xBuiltin .len #[57] 3 [false] [f0u]) w_6 fun c1v w_8 =>
 xloop [22] [(vI 0)] w_8 fun τ_25 A6 next2 =>
 d6o x0 f0u c1v (τ_25 22) A6 next2 R E)
def d6p (x0 _x3 x9 x10 x11 : Value) (w : World) (next3 : NT) (j1 : NT) (_R : RT) (E : Pan) : Prop :=
 oP E (xBin .lss 3 (.tmp 11) (.tmp 10) x11 x10) w fun g9j J0 =>
 xcond g9j
 (oP E (iA 51 x9 x11) J0 fun c0G I0 =>
 oP E (lA 53 c0G) I0 fun d3U G3 =>
 oP E (xV (Instr.alloc 53 true (.tuple #[]))) G3 fun f0v G6 =>
 oP E (sA 53 f0v d3U) G6 fun _z_43 G4 =>
 oP E (lA 53 f0v) G4 fun c4z O4 =>
 oP E (xCall (fC 102) [x0, c4z]) O4 fun _t17_47 N8 =>
 oP E (xBin .add 3 (.tmp 11) (.const (vI 1)) x11 (vI 1)) N8 fun c4A M9 =>
 next3 [c4A] M9)
 (j1 [] J0)
def e0e (x0 x1 : Value) (w : World) (R : RT) (E : Pan) : Prop :=
 oP E (xV (Instr.box 59 x1)) w fun M5 w_2 =>
 xcut (fun _ D8 => c7v x0 M5 D8 R E) fun j1 =>
 oP E (fA 59 M5 2) w_2 fun h5R K1 =>
 oP E (lA 51 h5R) K1 fun f0w B7 =>
 oP E (xBuiltin .len #[51] 3 [false] [f0w]) B7 fun b6X B3 =>
 xloop [11] [(vI 0)] B3 fun τ_51 K6 next3 =>
 d6p x0 M5 f0w b6X (τ_51 11) K6 next3 j1 R E
noncomputable def g9k : Code := Tryz.f101.body.getD .skip
def g9l : Hint := (sQ (.cut [] (sQ (.block (.loop [11] (sQ (.seq (.cond .none .none) (.seq (.block (sQ .none)) .none)))))) (sQ (.block (.loop [22] (sQ (.seq (.cond .none .none) (.seq (.block (sQ .none)) .none))))))))
theorem f5e (x0 x1 : Value) (w : World) (R : RT) (E : Pan) : e0e x0 x1 w R E = callX Tryz.prog [] g9k g9l [x0, x1] w R E := by kernel_rfl
theorem f5f {x0 x1 : Value} (h : e0e x0 x1 w R E) : Cv Tryz.prog 101 #[x0, x1] w R E := by
 refine i6 (args := [x0, x1]) (c := g9k) (h := g9l) (rs := []) Tryz.func101 (by kernel_rfl) (by kernel_rfl) (nB (by kernel_rfl)) (by kernel_rfl) (by kernel_rfl) (by kernel_rfl) ?_
 rw [← f5e]
 exact h
def d6q (x0 x37 x38 x39 : Value) (w : World) (next2 : NT) (R : RT) (E : Pan) : Prop :=
 oP E (xBin .lss 3 (.tmp 39) (.tmp 38) x39 x38) w fun h5S q7 =>
 xcond h5S
 (oP E (iA 51 x37 x39) q7 fun g9m q9 =>
 oP E (lA 53 g9m) q9 fun g9n p9 =>
 oP E (xV (Instr.alloc 53 true (.tuple #[]))) p9 fun b8g s6 =>
 oP E (sA 53 b8g g9n) s6 fun _z_17 u5 =>
 oP E (lA 53 b8g) u5 fun g9o u9 =>
 oP E (xCall (fC 102) [x0, g9o]) u9 fun _t45_21 y6 =>
 oP E (xBin .add 3 (.tmp 39) (.const (vI 1)) x39 (vI 1)) y6 fun g9p z6 =>
 next2 [g9p] z6)
 (R (Value.tuple #[]) q7)
def c7w (x0 x3 : Value) (w : World) (R : RT) (E : Pan) : Prop :=
 ∀ _τ : Fr, (oP E (fA 53 x3 3) w fun h5T w_4 =>
 oP E (lA 51 h5T) w_4 fun f0x w_6 =>
 oP E (xBuiltin .len #[51] 3 [false] [f0x]) w_6 fun h5U w_8 =>
 xloop [39] [(vI 0)] w_8 fun τ_25 A6 next2 =>
 d6q x0 f0x h5U (τ_25 39) A6 next2 R E)
def e0f (x0 x1 : Value) (w : World) (R : RT) (E : Pan) : Prop :=
 oP E (xV (Instr.box 53 x1)) w fun M5 w_2 =>
 xcut (fun _ D8 => c7w x0 M5 D8 R E) fun j1 =>
 oP E (fA 53 M5 0) w_2 fun h5V K1 =>
 oP E (lA 3 h5V) K1 fun f0y B7 =>
 oP E (xBin .eql 3 (.tmp 7) (.const (vI 2)) f0y (vI 2)) B7 fun h5W B3 =>
 xcond h5W
 (dX B3 fun a6O =>
 qP Tryz.prog (xNil x0) fun g9q =>
 qP Tryz.prog (fA 125 g9q 0) fun c0G =>
 qP Tryz.prog (fA 53 M5 2) fun e3B =>
 qL Tryz.prog a6O (blk c0G) (lA 123 c0G) fun d3U =>
 qL Tryz.prog a6O (blk e3B) (lA 9 e3B) fun g9r =>
 qP Tryz.prog (xV (Instr.build 127 #[(0, g9r), (1, (vI 1))])) fun g9s =>
 oP E (xV (Instr.buildSlice 123 1 #[(0, g9s)])) a6O fun g9t b3w =>
 keepX [(blk c0G)] a6O b3w (opK Tryz.prog E (xBuiltin .append #[123, 123] 123 [false, false] [d3U, g9t]) b3w fun g9u b2g =>
 keepX [] b3w b2g (qP Tryz.prog (xNil x0) fun g9v =>
 qP Tryz.prog (fA 125 g9v 0) fun g9w =>
 oP E (sA 123 g9w g9u) b2g fun _z_48 b0L =>
 keepX [] b2g b0L (j1 [] b0L))))
 (oP E (xBin .eql 3 (.tmp 7) (.const (vI 4)) f0y (vI 4)) B3 fun g9x b5T =>
 xcond g9x
 (dX b5T fun K6 =>
 qP Tryz.prog (xNil x0) fun g9y =>
 qP Tryz.prog (fA 125 g9y 0) fun d3V =>
 qP Tryz.prog (fA 53 M5 2) fun e3C =>
 qL Tryz.prog K6 (blk d3V) (lA 123 d3V) fun g9z =>
 qL Tryz.prog K6 (blk e3C) (lA 9 e3C) fun g9A =>
 qP Tryz.prog (xV (Instr.build 127 #[(0, g9A), (1, (vI 2))])) fun g9B =>
 oP E (xV (Instr.buildSlice 123 1 #[(0, g9B)])) K6 fun d0I Q4 =>
 keepX [(blk d3V)] K6 Q4 (opK Tryz.prog E (xBuiltin .append #[123, 123] 123 [false, false] [g9z, d0I]) Q4 fun d0J P6 =>
 keepX [] Q4 P6 (qP Tryz.prog (xNil x0) fun d0K =>
 qP Tryz.prog (fA 125 d0K 0) fun g9C =>
 oP E (sA 123 g9C d0J) P6 fun _z_65 S6 =>
 keepX [] P6 S6 (j1 [] S6))))
 (j1 [] b5T))
noncomputable def g9D : Code := Tryz.f102.body.getD .skip
def g9E : Hint := (sQ (.cut [] (sQ (.block (sQ (.cond (.reg [(0, 1024, 1), (0, 2048, 1), (2, 4096, 2048), (4, 8192, 4096), (8, 16384, 8192), (0, 32768, 8), (32, 65536, 32768), (64, 131072, 65536), (128, 262144, 131072), (272, 524288, 278528), (1023, 1048576, 1024), (2047, 2097152, 1048576), (3071, 0, 2621440)] [80, 80, 80, 80, 64, 80, 16, 80, 16, 0, 80, 80, 0] (.early 0 (.early 1 (.early 2 (.early 3 (.early 5 (.load 4 (.load 6 (.early 7 (.step 8 (.step 9 (.early 10 (.early 11 (.step 12 .done)))))))))))))) (sQ (.cond (.reg [(0, 16777216, 1), (0, 33554432, 1), (2, 67108864, 33554432), (4, 134217728, 67108864), (8, 268435456, 134217728), (0, 536870912, 8), (32, 1073741824, 536870912), (64, 2147483648, 1073741824), (128, 4294967296, 2147483648), (272, 8589934592, 4563402752), (1023, 17179869184, 16777216), (2047, 34359738368, 17179869184), (3071, 0, 42949672960)] [80, 80, 80, 80, 64, 80, 16, 80, 16, 0, 80, 80, 0] (.early 0 (.early 1 (.early 2 (.early 3 (.early 5 (.load 4 (.load 6 (.early 7 (.step 8 (.step 9 (.early 10 (.early 11 (.step 12 .done)))))))))))))) .none)))))) (sQ (.block (.loop [39] (sQ (.seq (.cond .none .none) (.seq (.block (sQ .none)) .none))))))))
theorem f5g (x0 x1 : Value) (w : World) (R : RT) (E : Pan) : e0f x0 x1 w R E = callX Tryz.prog [] g9D g9E [x0, x1] w R E := by kernel_rfl
theorem f5h {x0 x1 : Value} (h : e0f x0 x1 w R E) : Cv Tryz.prog 102 #[x0, x1] w R E := by
 refine i6 (args := [x0, x1]) (c := g9D) (h := g9E) (rs := []) Tryz.func102 (by kernel_rfl) (by kernel_rfl) (nB (by kernel_rfl)) (by kernel_rfl) (by kernel_rfl) (by kernel_rfl) ?_
 rw [← f5g]
 exact h
end Go.Proofs.YtnhkdkcgdcgmdaaGreatDoor
