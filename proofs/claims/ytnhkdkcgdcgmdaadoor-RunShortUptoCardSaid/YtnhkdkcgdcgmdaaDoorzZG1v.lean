/- The second reading of some of the program's functions, printed by gen2.py off the code; each is held against the code by the kernel. -/
import Derived.Test.YtnhkdkcgdcgmdaaDoorProg
import Derived.Test.YtnhkdkcgdcgmdaaDoorzZK0
import Derived.KernelRfl
import Derived.Test.YtnhkdkcgdcgmdaaDoorzZGz
namespace Go.Proofs.YtnhkdkcgdcgmdaaDoor
open Go.RowKit
set_option maxRecDepth 100000
variable {w : World} {R : RT} {E : Pan}
def c5X (x7 x9 : Value) (w : World) (R : RT) (_E : Pan) : Prop :=
 ∀ _τ : Fr, (R (Value.tuple #[x9, x7]) w)
def d3p (x5 x7 x9 x37 x38 x39 : Value) (w : World) (next2 : NT) (j1 : NT) (_R : RT) (E : Pan) : Prop :=
 oP E (xBin .lss 3 (.tmp 39) (.tmp 38) x39 x38) w fun b8I G4 =>
 xcond b8I
 (oP E (iA 112 x37 x39) G4 fun c4J K5 =>
 oP E (lA 117 c4J) K5 fun f8m L3 =>
 oP E (xV (Instr.alloc 117 true (.tuple #[]))) L3 fun b4J J9 =>
 oP E (sA 117 b4J f8m) J9 fun _z_51 E6 =>
 oP E (fA 117 b4J 0) E6 fun f8n N1 =>
 oP E (lA 9 f8n) N1 fun f8o N2 =>
 oP E (xV (Instr.lookup 108 x5 f8o false)) N2 fun b9i L6 =>
 oP E (fA 117 b4J 1) L6 fun b8J P2 =>
 oP E (lA 3 b8J) P2 fun c4L L8 =>
 oP E (xBin .eql 3 (.tmp 46) (.tmp 51) b9i c4L) L8 fun f8p N9 =>
 xcond f8p
 (oP E (xBin .add 3 (.tmp 39) (.const (vI 1)) x39 (vI 1)) N9 fun f8q P3 =>
 next2 [x7, x9, f8q] P3)
 (oP E (xBin .eql 3 (.tmp 46) (.const (vI 0)) b9i (vI 0)) N9 fun f8r O0 =>
 xcond f8r
 (oP E (fA 117 b4J 0) O0 fun f8s M9 =>
 oP E (lA 9 f8s) M9 fun f8t O1 =>
 j1 [(vI 63), f8t] O1)
 (oP E (fA 117 b4J 0) O0 fun f8u R5 =>
 oP E (lA 9 f8u) R5 fun f8v T1 =>
 j1 [(vI 64), f8v] T1)))
 (j1 [x7, x9] G4)
def F34 (x0 : Value) (w : World) (R : RT) (E : Pan) : Prop :=
 oP E (xV (Instr.box 44 x0)) w fun v7 w_2 =>
 oP E (lA 44 v7) w_2 fun d0m w_4 =>
 oP E (xCall (fC 53) [d0m]) w_4 fun a4r w_6 =>
 oP E (xBin .neq 29 (.tmp 14) (.const (vI 0)) a4r (vI 0)) w_6 fun c9g w_8 =>
 xcond c9g
 (R (Value.tuple #[(eS), a4r]) w_8)
 (oP E (fA 44 v7 0) w_8 fun d0o o3 =>
 oP E (lA 41 d0o) o3 fun a7c p8 =>
 oP E (xCall (fC 54) [a7c]) p8 fun a9f o9 =>
 oP E (eX a9f 0) o9 fun b4i q8 =>
 oP E (eX a9f 1) q8 fun c3b r7 =>
 oP E (eX a9f 2) r7 fun c5Y r9 =>
 oP E (xBin .neq 29 (.tmp 24) (.const (vI 0)) c5Y (vI 0)) r9 fun b3E t8 =>
 xcond b3E
 (R (Value.tuple #[c3b, c5Y]) t8)
 (oP E (xV (Instr.build 114 #[])) t8 fun c2Q v6 =>
 oP E (xV (Instr.box 114 c2Q)) v6 fun d3q A9 =>
 oP E (fA 44 v7 1) A9 fun f8w C7 =>
 oP E (lA 42 f8w) C7 fun b8d D8 =>
 oP E (xCall (fC 55) [d3q, b8d]) D8 fun _t33_31 C3 =>
 xcut (fun c4q D1 => c5X (nth c4q 0) (nth c4q.tail 0) D1 R E) fun j1 =>
 oP E (xNil d3q) C3 fun b1k G3 =>
 oP E (fA 114 b1k 0) G3 fun b4o D9 =>
 oP E (lA 112 b4o) D9 fun b9g E2 =>
 oP E (xBuiltin .len #[112] 3 [false] [b9g]) E2 fun c5Q G9 =>
 xloop [7, 9, 39] [c5Y, (eS), (vI 0)] G9 fun τ_77 N3 next2 =>
 d3p b4i (τ_77 7) (τ_77 9) b9g c5Q (τ_77 39) N3 next2 j1 R E))
noncomputable def c34 : Code := Tryd.f34.body.getD .skip
def h34 : Hint := (sQ (.scope (.seq (sQ (sQ (.cond (sQ .none) .none))) (sQ (.seq (sQ (.cond (sQ .none) .none)) (sQ (sQ (sQ (sQ (.cut [7, 9] (sQ (.block (.loop [7, 9, 39] (sQ (.seq (.cond .none .none) (.seq (.block (sQ (sQ (.block (sQ (.cond .none (sQ (.cond (sQ .none) (sQ .none))))))))) .none)))))) (sQ .none)))))))))))
theorem f8x (x0 : Value) (w : World) (R : RT) (E : Pan) : F34 x0 w R E = callX Tryd.prog [.tmp 2, .tmp 3] c34 h34 [x0] w R E := by kernel_rfl
theorem f8y {x0 : Value} (h : F34 x0 w R E) : Cv Tryd.prog 34 #[x0] w R E := by
 refine i8 (args := [x0]) (c := c34) (h := h34) (rs := [.tmp 2, .tmp 3]) Tryd.func34 (by kernel_rfl) (by kernel_rfl) (nB (by kernel_rfl)) (by kernel_rfl) (by kernel_rfl) (by kernel_rfl) ?_
 rw [← f8x]
 exact h
def d3r (x5 : Value) (w : World) (R : RT) (_E : Pan) : Prop :=
 ∀ _τ : Fr, (R (Value.tuple #[x5, (eS), (vI 0)]) w)
def d3s (x5 x6 x13 x14 x15 : Value) (w : World) (next2 : NT) (j1 : NT) (R : RT) (E : Pan) : Prop :=
 oP E (xBin .lss 3 (.tmp 15) (.tmp 14) x15 x14) w fun f8z o9 =>
 xcond f8z
 (oP E (iA 41 x13 x15) o9 fun a2I q8 =>
 oP E (lA 58 a2I) q8 fun b3B r7 =>
 oP E (xV (Instr.alloc 58 true (.tuple #[]))) r7 fun b0f r9 =>
 oP E (sA 58 b0f b3B) r9 fun _z_21 t8 =>
 oP E (lA 58 b0f) t8 fun f8A v6 =>
 oP E (xCall (fC 92) [f8A]) v6 fun b9j A9 =>
 oP E (xV (Instr.lookup 157 x6 b9j false)) A9 fun b4j C7 =>
 oP E (xBin .sub 3 (.tmp 23) (.const (vI 1)) b4j (vI 1)) C7 fun c5N D8 =>
 oP E (xU (Instr.mapUpdate 157 x6 b9j c5N)) D8 fun _z_31 C3 =>
 oP E (fA 58 b0f 0) C3 fun f8B D1 =>
 oP E (lA 9 f8B) D1 fun f8C G3 =>
 oP E (xV (Instr.lookup 108 x5 f8C false)) G3 fun f8D D9 =>
 oP E (xBin .neq 3 (.tmp 29) (.const (vI 0)) f8D (vI 0)) D9 fun f8E E2 =>
 xcond f8E
 (dX E2 fun b9H =>
 qP Tryd.prog (fA 58 b0f 0) fun b8b =>
 qL Tryd.prog b9H (blk b8b) (lA 9 b8b) fun f8F =>
 R (Value.tuple #[(Value.map none), f8F, (vI 60)]) b9H)
 (oP E (fA 58 b0f 1) E2 fun f8G b0v =>
 oP E (lA 3 f8G) b0v fun f8H b3I =>
 oP E (xBin .gtr 3 (.tmp 35) (.const (vI 1024)) f8H (vI 1024)) b3I fun f8I b1T =>
 xcond f8I
 (dX b1T fun J9 =>
 qP Tryd.prog (fA 58 b0f 0) fun d3t =>
 qL Tryd.prog J9 (blk d3t) (lA 9 d3t) fun f8J =>
 R (Value.tuple #[(Value.map none), f8J, (vI 61)]) J9)
 (oP E (xV (Instr.lookup 157 x6 b9j false)) b1T fun b8W N1 =>
 oP E (xBin .lss 3 (.tmp 42) (.const (vI 0)) b8W (vI 0)) N1 fun c5c N2 =>
 xcond c5c
 (dX N2 fun c0q =>
 qP Tryd.prog (fA 58 b0f 0) fun d3u =>
 qL Tryd.prog c0q (blk d3u) (lA 9 d3u) fun b4A =>
 R (Value.tuple #[(Value.map none), b4A, (vI 62)]) c0q)
 (oP E (fA 58 b0f 0) N2 fun f8K d5y =>
 oP E (lA 9 f8K) d5y fun f8L d7h =>
 oP E (xU (Instr.mapUpdate 108 x5 f8L b9j)) d7h fun _z_64 b6C =>
 oP E (xBin .add 3 (.tmp 15) (.const (vI 1)) x15 (vI 1)) b6C fun f8M a7s =>
 next2 [f8M] a7s))))
 (j1 [] o9)
def F54 (x0 : Value) (w : World) (R : RT) (E : Pan) : Prop :=
 oP E (xV (Instr.makeMap 108 none)) w fun b5d w_2 =>
 oP E (xV (Instr.makeMap 157 none)) w_2 fun a1j w_4 =>
 oP E (xU (Instr.mapUpdate 157 a1j (vI 1) (vI 32))) w_4 fun _z_5 w_6 =>
 oP E (xU (Instr.mapUpdate 157 a1j (vI 2) (vI 16))) w_6 fun _z_7 w_8 =>
 xcut (fun _ o3 => d3r b5d o3 R E) fun j1 =>
 oP E (xBuiltin .len #[41] 3 [false] [x0]) w_8 fun f8N p8 =>
 xloop [15] [(vI 0)] p8 fun τ_68 g6f next2 =>
 d3s b5d a1j x0 f8N (τ_68 15) g6f next2 j1 R E
noncomputable def c54 : Code := Tryd.f54.body.getD .skip
def h54 : Hint := (sQ (sQ (sQ (.cut [] (sQ (.block (.loop [15] (sQ (.seq (.cond .none .none) (.seq (.block (sQ (sQ (sQ (.seq (.block (sQ (.cond (.seq (.reg [(0, 2147483648, 256), (1, 4294967296, 2147483648), (0, 4, 0), (7, 8, 4294967296), (15, 16, 0)] [2, 0, 2, 2, 2] (.early 0 (.early 2 (.load 1 (.early 3 (.early 4 .done)))))) .none) (sQ (.cond (.seq (.reg [(0, 137438953472, 256), (1, 274877906944, 137438953472), (0, 4, 0), (7, 8, 274877906944), (15, 16, 0)] [2, 0, 2, 2, 2] (.early 0 (.early 2 (.load 1 (.early 3 (.early 4 .done)))))) .none) (sQ (.cond (.seq (.reg [(0, 17592186044416, 256), (1, 35184372088832, 17592186044416), (0, 4, 0), (7, 8, 35184372088832), (15, 16, 0)] [2, 0, 2, 2, 2] (.early 0 (.early 2 (.load 1 (.early 3 (.early 4 .done)))))) .none) .none))))))) .none))))) .none)))))) (sQ .none)))))
theorem f8O (x0 : Value) (w : World) (R : RT) (E : Pan) : F54 x0 w R E = callX Tryd.prog [.tmp 2, .tmp 3, .tmp 4] c54 h54 [x0] w R E := by kernel_rfl
theorem f8P {x0 : Value} (h : F54 x0 w R E) : Cv Tryd.prog 54 #[x0] w R E := by
 refine i8 (args := [x0]) (c := c54) (h := h54) (rs := [.tmp 2, .tmp 3, .tmp 4]) Tryd.func54 (by kernel_rfl) (by kernel_rfl) (nB (by kernel_rfl)) (by kernel_rfl) (by kernel_rfl) (by kernel_rfl) ?_
 rw [← f8O]
 exact h
def c5Z (_x0 _x10 _x11 x12 : Value) (w : World) (next1 : NT) (_R : RT) (E : Pan) : Prop :=
 ∀ _τ : Fr, (oP E (xBin .add 3 (.tmp 12) (.const (vI 1)) x12 (vI 1)) w fun g2h w_6 =>
 next1 [g2h] w_6)
def c6a (x0 x5 _x10 _x11 _x12 : Value) (w : World) (j2 : NT) (_R : RT) (E : Pan) : Prop :=
 ∀ _τ : Fr, (oP E (fA 63 x5 4) w fun f8Q r7 =>
 oP E (lA 42 f8Q) r7 fun f8R r9 =>
 oP E (xCall (fC 55) [x0, f8R]) r9 fun _t71_21 t8 =>
 oP E (fA 63 x5 5) t8 fun f8S v6 =>
 oP E (lA 42 f8S) v6 fun f8T A9 =>
 oP E (xCall (fC 55) [x0, f8T]) A9 fun _t75_27 C7 =>
 j2 [] C7)
def d3v (x0 _x5 _x10 _x11 _x12 x58 x59 x60 : Value) (w : World) (next6 : NT) (j5 : NT) (_R : RT) (E : Pan) : Prop :=
 oP E (xBin .lss 3 (.tmp 60) (.tmp 59) x60 x59) w fun f8U D9 =>
 xcond f8U
 (oP E (iA 22 x58 x60) D9 fun f8V E2 =>
 oP E (lA 24 f8V) E2 fun f8W G9 =>
 oP E (xV (Instr.alloc 24 true (.tuple #[]))) G9 fun d9C G4 =>
 oP E (sA 24 d9C f8W) G4 fun _z_45 K5 =>
 oP E (lA 24 d9C) K5 fun f8X L3 =>
 oP E (xCall (fC 94) [x0, f8X]) L3 fun _t66_49 J9 =>
 oP E (xBin .add 3 (.tmp 60) (.const (vI 1)) x60 (vI 1)) J9 fun f8Y E6 =>
 next6 [f8Y] E6)
 (j5 [] D9)
def c6b (x0 x5 x10 x11 x12 : Value) (w : World) (j2 : NT) (R : RT) (E : Pan) : Prop :=
 ∀ _τ : Fr, (xcut (fun _ D8 => c6a x0 x5 x10 x11 x12 D8 j2 R E) fun j5 =>
 oP E (fA 63 x5 2) w fun f8Z C3 =>
 oP E (lA 22 f8Z) C3 fun d3w D1 =>
 oP E (xBuiltin .len #[22] 3 [false] [d3w]) D1 fun f9a G3 =>
 xloop [60] [(vI 0)] G3 fun τ_53 N1 next6 =>
 d3v x0 x5 x10 x11 x12 d3w f9a (τ_53 60) N1 next6 j5 R E)
def d3x (x0 _x5 _x10 _x11 _x12 x47 x48 x49 : Value) (w : World) (next7 : NT) (j4 : NT) (_R : RT) (E : Pan) : Prop :=
 oP E (xBin .lss 3 (.tmp 49) (.tmp 48) x49 x48) w fun f9b N9 =>
 xcond f9b
 (oP E (iA 25 x47 x49) N9 fun f9c P3 =>
 oP E (lA 27 f9c) P3 fun f9d O0 =>
 oP E (xV (Instr.alloc 27 true (.tuple #[]))) O0 fun d9D M9 =>
 oP E (sA 27 d9D f9d) M9 fun _z_71 O1 =>
 oP E (lA 27 d9D) O1 fun c5O R5 =>
 oP E (xCall (fC 93) [x0, c5O]) R5 fun _t55_75 T1 =>
 oP E (xBin .add 3 (.tmp 49) (.const (vI 1)) x49 (vI 1)) T1 fun c5P N3 =>
 next7 [c5P] N3)
 (j4 [] N9)
def c6c (x0 x5 x10 x11 x12 : Value) (w : World) (j2 : NT) (R : RT) (E : Pan) : Prop :=
 ∀ _τ : Fr, (xcut (fun _ N2 => c6b x0 x5 x10 x11 x12 N2 j2 R E) fun j4 =>
 oP E (fA 63 x5 3) w fun b9i L6 =>
 oP E (lA 25 b9i) L6 fun d3y P2 =>
 oP E (xBuiltin .len #[25] 3 [false] [d3y]) P2 fun f9e L8 =>
 xloop [49] [(vI 0)] L8 fun τ_79 T7 next7 =>
 d3x x0 x5 x10 x11 x12 d3y f9e (τ_79 49) T7 next7 j4 R E)
def d3z (x0 x10 x11 x12 : Value) (w : World) (next1 : NT) (R : RT) (E : Pan) : Prop :=
 oP E (xBin .lss 3 (.tmp 12) (.tmp 11) x12 x11) w fun b8z w_4 =>
 xcond b8z
 (xcut (fun _ w_8 => c5Z x0 x10 x11 x12 w_8 next1 R E) fun j2 =>
 oP E (iA 42 x10 x12) w_4 fun a4l o3 =>
 oP E (lA 63 a4l) o3 fun a5Q p8 =>
 oP E (xV (Instr.alloc 63 true (.tuple #[]))) p8 fun b9k o9 =>
 oP E (sA 63 b9k a5Q) o9 fun _z_15 q8 =>
 xcut (fun _ P4 => c6c x0 b9k x10 x11 x12 P4 j2 R E) fun j3 =>
 oP E (fA 63 b9k 0) q8 fun f9f Q2 =>
 oP E (lA 3 f9f) Q2 fun d3A T8 =>
 oP E (xBin .eql 3 (.tmp 17) (.const (vI 1)) d3A (vI 1)) T8 fun f9g N4 =>
 xcond f9g
 (dX N4 fun c0D =>
 qP Tryd.prog (xNil x0) fun f9h =>
 qP Tryd.prog (fA 114 f9h 0) fun c6d =>
 qP Tryd.prog (fA 63 b9k 1) fun d3B =>
 qL Tryd.prog c0D (blk c6d) (lA 112 c6d) fun f9i =>
 qL Tryd.prog c0D (blk d3B) (lA 9 d3B) fun f9j =>
 qP Tryd.prog (xV (Instr.build 117 #[(0, f9j), (1, (vI 1))])) fun f9k =>
 oP E (xV (Instr.buildSlice 112 1 #[(0, f9k)])) c0D fun f9l a7u =>
 keepX [(blk c6d)] c0D a7u (opK Tryd.prog E (xBuiltin .append #[112, 112] 112 [false, false] [f9i, f9l]) a7u fun f9m c5n =>
 keepX [] a7u c5n (qP Tryd.prog (xNil x0) fun e5U =>
 qP Tryd.prog (fA 114 e5U 0) fun e5V =>
 oP E (sA 112 e5V f9m) c5n fun _z_102 b2Q =>
 keepX [] c5n b2Q (j3 [] b2Q))))
 (oP E (xBin .eql 3 (.tmp 17) (.const (vI 2)) d3A (vI 2)) N4 fun e5W d9E =>
 xcond e5W
 (dX d9E fun W2 =>
 qP Tryd.prog (xNil x0) fun e5X =>
 qP Tryd.prog (fA 114 e5X 0) fun c0Q =>
 qP Tryd.prog (fA 63 b9k 1) fun c7D =>
 qL Tryd.prog W2 (blk c0Q) (lA 112 c0Q) fun e5Y =>
 qL Tryd.prog W2 (blk c7D) (lA 9 c7D) fun e5Z =>
 qP Tryd.prog (xV (Instr.build 117 #[(0, e5Z), (1, (vI 2))])) fun e6a =>
 oP E (xV (Instr.buildSlice 112 1 #[(0, e6a)])) W2 fun e6b T2 =>
 keepX [(blk c0Q)] W2 T2 (opK Tryd.prog E (xBuiltin .append #[112, 112] 112 [false, false] [e5Y, e6b]) T2 fun e6c W3 =>
 keepX [] T2 W3 (qP Tryd.prog (xNil x0) fun e6d =>
 qP Tryd.prog (fA 114 e6d 0) fun e6e =>
 oP E (sA 112 e6e e6c) W3 fun _z_119 S0 =>
 keepX [] W3 S0 (j3 [] S0))))
 (j3 [] d9E)))
 (R (Value.tuple #[]) w_4)
def F55 (x0 x1 : Value) (w : World) (R : RT) (E : Pan) : Prop :=
 oP E (xBuiltin .len #[42] 3 [false] [x1]) w fun c9f w_2 =>
 xloop [12] [(vI 0)] w_2 fun τ_121 a1m next1 =>
 d3z x0 x1 c9f (τ_121 12) a1m next1 R E
noncomputable def c55 : Code := Tryd.f55.body.getD .skip
def h55 : Hint := (sQ (.block (.loop [12] (sQ (.seq (.cond .none .none) (.cut [] (.block (sQ (.cut [] (sQ (.block (sQ (.cond (.reg [(0, 1048576, 1), (0, 2097152, 1), (2, 4194304, 2097152), (4, 8388608, 4194304), (8, 16777216, 8388608), (0, 33554432, 32), (32, 67108864, 33554432), (64, 134217728, 67108864), (128, 268435456, 134217728), (272, 536870912, 285212672), (1023, 1073741824, 1048576), (2047, 2147483648, 1073741824), (3071, 0, 2684354560)] [80, 80, 80, 80, 64, 80, 16, 80, 16, 0, 80, 80, 0] (.early 0 (.early 1 (.early 2 (.early 3 (.early 5 (.load 4 (.load 6 (.early 7 (.step 8 (.step 9 (.early 10 (.early 11 (.step 12 .done)))))))))))))) (sQ (.cond (.reg [(0, 17179869184, 1), (0, 34359738368, 1), (2, 68719476736, 34359738368), (4, 137438953472, 68719476736), (8, 274877906944, 137438953472), (0, 549755813888, 32), (32, 1099511627776, 549755813888), (64, 2199023255552, 1099511627776), (128, 4398046511104, 2199023255552), (272, 8796093022208, 4672924418048), (1023, 17592186044416, 17179869184), (2047, 35184372088832, 17592186044416), (3071, 0, 43980465111040)] [80, 80, 80, 80, 64, 80, 16, 80, 16, 0, 80, 80, 0] (.early 0 (.early 1 (.early 2 (.early 3 (.early 5 (.load 4 (.load 6 (.early 7 (.step 8 (.step 9 (.early 10 (.early 11 (.step 12 .done)))))))))))))) .none)))))) (.cut [] (sQ (.block (.loop [49] (sQ (.seq (.cond .none .none) (.seq (.block (sQ .none)) .none)))))) (.cut [] (sQ (.block (.loop [60] (sQ (.seq (.cond .none .none) (.seq (.block (sQ .none)) .none)))))) (sQ .none)))))) .none))))))
theorem f9n (x0 x1 : Value) (w : World) (R : RT) (E : Pan) : F55 x0 x1 w R E = callX Tryd.prog [] c55 h55 [x0, x1] w R E := by kernel_rfl
theorem f9o {x0 x1 : Value} (h : F55 x0 x1 w R E) : Cv Tryd.prog 55 #[x0, x1] w R E := by
 refine i8 (args := [x0, x1]) (c := c55) (h := h55) (rs := []) Tryd.func55 (by kernel_rfl) (by kernel_rfl) (nB (by kernel_rfl)) (by kernel_rfl) (by kernel_rfl) (by kernel_rfl) ?_
 rw [← f9n]
 exact h
def F92 (x0 : Value) (w : World) (R : RT) (E : Pan) : Prop :=
 oP E (xV (Instr.box 58 x0)) w fun v7 w_2 =>
 oP E (fA 58 v7 1) w_2 fun a3C w_4 =>
 oP E (lA 3 a3C) w_4 fun a2j w_6 =>
 oP E (xBin .gtr 3 (.tmp 4) (.const (vI 0)) a2j (vI 0)) w_6 fun a5a w_8 =>
 xcond a5a
 (R (vI 2) w_8)
 (R (vI 1) w_8)
noncomputable def c92 : Code := Tryd.f92.body.getD .skip
def h92 : Hint := (sQ (.seq (sQ (.cond (sQ .none) .none)) (sQ .none)))
theorem f9p (x0 : Value) (w : World) (R : RT) (E : Pan) : F92 x0 w R E = callX Tryd.prog [.tmp 2] c92 h92 [x0] w R E := by kernel_rfl
theorem f9q {x0 : Value} (h : F92 x0 w R E) : Cv Tryd.prog 92 #[x0] w R E := by
 refine i8 (args := [x0]) (c := c92) (h := h92) (rs := [.tmp 2]) Tryd.func92 (by kernel_rfl) (by kernel_rfl) (nB (by kernel_rfl)) (by kernel_rfl) (by kernel_rfl) (by kernel_rfl) ?_
 rw [← f9p]
 exact h
def d3C (x0 x20 x21 x22 : Value) (w : World) (next2 : NT) (R : RT) (E : Pan) : Prop :=
 oP E (xBin .lss 3 (.tmp 22) (.tmp 21) x22 x21) w fun b0d o3 =>
 xcond b0d
 (oP E (iA 25 x20 x22) o3 fun a7d p8 =>
 oP E (lA 27 a7d) p8 fun c4E o9 =>
 oP E (xV (Instr.alloc 27 true (.tuple #[]))) o9 fun d9F q8 =>
 oP E (sA 27 d9F c4E) q8 fun _z_17 r7 =>
 oP E (lA 27 d9F) r7 fun c4F r9 =>
 oP E (xCall (fC 93) [x0, c4F]) r9 fun _t28_21 t8 =>
 oP E (xBin .add 3 (.tmp 22) (.const (vI 1)) x22 (vI 1)) t8 fun f9r v6 =>
 next2 [f9r] v6)
 (R (Value.tuple #[]) o3)
def c6e (x0 x3 : Value) (w : World) (R : RT) (E : Pan) : Prop :=
 ∀ _τ : Fr, (oP E (fA 27 x3 3) w fun c9x w_4 =>
 oP E (lA 25 c9x) w_4 fun c1N w_6 =>
 oP E (xBuiltin .len #[25] 3 [false] [c1N]) w_6 fun c1K w_8 =>
 xloop [22] [(vI 0)] w_8 fun τ_25 A9 next2 =>
 d3C x0 c1N c1K (τ_25 22) A9 next2 R E)
def d3D (x0 _x3 x9 x10 x11 : Value) (w : World) (next3 : NT) (j1 : NT) (_R : RT) (E : Pan) : Prop :=
 oP E (xBin .lss 3 (.tmp 11) (.tmp 10) x11 x10) w fun f9s G3 =>
 xcond f9s
 (oP E (iA 22 x9 x11) G3 fun b4K D9 =>
 oP E (lA 24 b4K) D9 fun c6f E2 =>
 oP E (xV (Instr.alloc 24 true (.tuple #[]))) E2 fun d9G G9 =>
 oP E (sA 24 d9G c6f) G9 fun _z_43 G4 =>
 oP E (lA 24 d9G) G4 fun b8e K5 =>
 oP E (xCall (fC 94) [x0, b8e]) K5 fun _t17_47 L3 =>
 oP E (xBin .add 3 (.tmp 11) (.const (vI 1)) x11 (vI 1)) L3 fun b8f J9 =>
 next3 [b8f] J9)
 (j1 [] G3)
def F93 (x0 x1 : Value) (w : World) (R : RT) (E : Pan) : Prop :=
 oP E (xV (Instr.box 27 x1)) w fun I0 w_2 =>
 xcut (fun _ C7 => c6e x0 I0 C7 R E) fun j1 =>
 oP E (fA 27 I0 2) w_2 fun g2i D8 =>
 oP E (lA 22 g2i) D8 fun d9H C3 =>
 oP E (xBuiltin .len #[22] 3 [false] [d9H]) C3 fun f9t D1 =>
 xloop [11] [(vI 0)] D1 fun τ_51 E6 next3 =>
 d3D x0 I0 d9H f9t (τ_51 11) E6 next3 j1 R E
noncomputable def c93 : Code := Tryd.f93.body.getD .skip
def h93 : Hint := (sQ (.cut [] (sQ (.block (.loop [11] (sQ (.seq (.cond .none .none) (.seq (.block (sQ .none)) .none)))))) (sQ (.block (.loop [22] (sQ (.seq (.cond .none .none) (.seq (.block (sQ .none)) .none))))))))
theorem f9u (x0 x1 : Value) (w : World) (R : RT) (E : Pan) : F93 x0 x1 w R E = callX Tryd.prog [] c93 h93 [x0, x1] w R E := by kernel_rfl
theorem f9v {x0 x1 : Value} (h : F93 x0 x1 w R E) : Cv Tryd.prog 93 #[x0, x1] w R E := by
 refine i8 (args := [x0, x1]) (c := c93) (h := h93) (rs := []) Tryd.func93 (by kernel_rfl) (by kernel_rfl) (nB (by kernel_rfl)) (by kernel_rfl) (by kernel_rfl) (by kernel_rfl) ?_
 rw [← f9u]
 exact h
def d3E (x0 x37 x38 x39 : Value) (w : World) (next2 : NT) (R : RT) (E : Pan) : Prop :=
 oP E (xBin .lss 3 (.tmp 39) (.tmp 38) x39 x38) w fun g2j o3 =>
 xcond g2j
 (oP E (iA 22 x37 x39) o3 fun f9w p8 =>
 oP E (lA 24 f9w) p8 fun f9x o9 =>
 oP E (xV (Instr.alloc 24 true (.tuple #[]))) o9 fun d9I q8 =>
 oP E (sA 24 d9I f9x) q8 fun _z_17 r7 =>
 oP E (lA 24 d9I) r7 fun f9y r9 =>
 oP E (xCall (fC 94) [x0, f9y]) r9 fun _t45_21 t8 =>
 oP E (xBin .add 3 (.tmp 39) (.const (vI 1)) x39 (vI 1)) t8 fun f9z v6 =>
 next2 [f9z] v6)
 (R (Value.tuple #[]) o3)
def c6g (x0 x3 : Value) (w : World) (R : RT) (E : Pan) : Prop :=
 ∀ _τ : Fr, (oP E (fA 24 x3 3) w fun g2k w_4 =>
 oP E (lA 22 g2k) w_4 fun d9J w_6 =>
 oP E (xBuiltin .len #[22] 3 [false] [d9J]) w_6 fun g2l w_8 =>
 xloop [39] [(vI 0)] w_8 fun τ_25 A9 next2 =>
 d3E x0 d9J g2l (τ_25 39) A9 next2 R E)
def F94 (x0 x1 : Value) (w : World) (R : RT) (E : Pan) : Prop :=
 oP E (xV (Instr.box 24 x1)) w fun I0 w_2 =>
 xcut (fun _ C7 => c6g x0 I0 C7 R E) fun j1 =>
 oP E (fA 24 I0 0) w_2 fun g2m D8 =>
 oP E (lA 3 g2m) D8 fun d9K C3 =>
 oP E (xBin .eql 3 (.tmp 7) (.const (vI 2)) d9K (vI 2)) C3 fun g2n D1 =>
 xcond g2n
 (dX D1 fun b0C =>
 qP Tryd.prog (xNil x0) fun f9A =>
 qP Tryd.prog (fA 114 f9A 0) fun b4K =>
 qP Tryd.prog (fA 24 I0 2) fun d3F =>
 qL Tryd.prog b0C (blk b4K) (lA 112 b4K) fun c6f =>
 qL Tryd.prog b0C (blk d3F) (lA 9 d3F) fun f9B =>
 qP Tryd.prog (xV (Instr.build 117 #[(0, f9B), (1, (vI 1))])) fun f9C =>
 oP E (xV (Instr.buildSlice 112 1 #[(0, f9C)])) b0C fun f9D b6x =>
 keepX [(blk b4K)] b0C b6x (opK Tryd.prog E (xBuiltin .append #[112, 112] 112 [false, false] [c6f, f9D]) b6x fun f9E b0v =>
 keepX [] b6x b0v (qP Tryd.prog (xNil x0) fun f9F =>
 qP Tryd.prog (fA 114 f9F 0) fun f9G =>
 oP E (sA 112 f9G f9E) b0v fun _z_48 b1T =>
 keepX [] b0v b1T (j1 [] b1T))))
 (oP E (xBin .eql 3 (.tmp 7) (.const (vI 4)) d9K (vI 4)) D1 fun f9H c0L =>
 xcond f9H
 (dX c0L fun E6 =>
 qP Tryd.prog (xNil x0) fun f9I =>
 qP Tryd.prog (fA 114 f9I 0) fun c6h =>
 qP Tryd.prog (fA 24 I0 2) fun b9d =>
 qL Tryd.prog E6 (blk c6h) (lA 112 c6h) fun f9J =>
 qL Tryd.prog E6 (blk b9d) (lA 9 b9d) fun b1r =>
 qP Tryd.prog (xV (Instr.build 117 #[(0, b1r), (1, (vI 2))])) fun f9K =>
 oP E (xV (Instr.buildSlice 112 1 #[(0, f9K)])) E6 fun b3R P2 =>
 keepX [(blk c6h)] E6 P2 (opK Tryd.prog E (xBuiltin .append #[112, 112] 112 [false, false] [f9J, b3R]) P2 fun b3S L8 =>
 keepX [] P2 L8 (qP Tryd.prog (xNil x0) fun b3T =>
 qP Tryd.prog (fA 114 b3T 0) fun f9L =>
 oP E (sA 112 f9L b3S) L8 fun _z_65 P3 =>
 keepX [] L8 P3 (j1 [] P3))))
 (j1 [] c0L))
noncomputable def c94 : Code := Tryd.f94.body.getD .skip
def h94 : Hint := (sQ (.cut [] (sQ (.block (sQ (.cond (.reg [(0, 1024, 1), (0, 2048, 1), (2, 4096, 2048), (4, 8192, 4096), (8, 16384, 8192), (0, 32768, 8), (32, 65536, 32768), (64, 131072, 65536), (128, 262144, 131072), (272, 524288, 278528), (1023, 1048576, 1024), (2047, 2097152, 1048576), (3071, 0, 2621440)] [80, 80, 80, 80, 64, 80, 16, 80, 16, 0, 80, 80, 0] (.early 0 (.early 1 (.early 2 (.early 3 (.early 5 (.load 4 (.load 6 (.early 7 (.step 8 (.step 9 (.early 10 (.early 11 (.step 12 .done)))))))))))))) (sQ (.cond (.reg [(0, 16777216, 1), (0, 33554432, 1), (2, 67108864, 33554432), (4, 134217728, 67108864), (8, 268435456, 134217728), (0, 536870912, 8), (32, 1073741824, 536870912), (64, 2147483648, 1073741824), (128, 4294967296, 2147483648), (272, 8589934592, 4563402752), (1023, 17179869184, 16777216), (2047, 34359738368, 17179869184), (3071, 0, 42949672960)] [80, 80, 80, 80, 64, 80, 16, 80, 16, 0, 80, 80, 0] (.early 0 (.early 1 (.early 2 (.early 3 (.early 5 (.load 4 (.load 6 (.early 7 (.step 8 (.step 9 (.early 10 (.early 11 (.step 12 .done)))))))))))))) .none)))))) (sQ (.block (.loop [39] (sQ (.seq (.cond .none .none) (.seq (.block (sQ .none)) .none))))))))
theorem f9M (x0 x1 : Value) (w : World) (R : RT) (E : Pan) : F94 x0 x1 w R E = callX Tryd.prog [] c94 h94 [x0, x1] w R E := by kernel_rfl
theorem f9N {x0 x1 : Value} (h : F94 x0 x1 w R E) : Cv Tryd.prog 94 #[x0, x1] w R E := by
 refine i8 (args := [x0, x1]) (c := c94) (h := h94) (rs := []) Tryd.func94 (by kernel_rfl) (by kernel_rfl) (nB (by kernel_rfl)) (by kernel_rfl) (by kernel_rfl) (by kernel_rfl) ?_
 rw [← f9M]
 exact h
end Go.Proofs.YtnhkdkcgdcgmdaaDoor
