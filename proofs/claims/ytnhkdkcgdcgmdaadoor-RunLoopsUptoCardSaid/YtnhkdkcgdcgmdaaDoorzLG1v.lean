/- The second reading of some of the program's functions, printed by gen2.py off the code; each is held against the code by the kernel. -/
import Derived.Test.YtnhkdkcgdcgmdaaDoorProg
import Derived.Test.YtnhkdkcgdcgmdaaDoorzLK0
import Derived.KernelRfl
import Derived.Test.YtnhkdkcgdcgmdaaDoorzLGz
namespace Go.Proofs.YtnhkdkcgdcgmdaaDoor
open Go.RowKit
set_option maxRecDepth 100000
variable {w : World} {R : RT} {E : Pan}
def c4V (x7 x9 : Value) (w : World) (R : RT) (_E : Pan) : Prop :=
 ∀ _τ : Fr, (R (Value.tuple #[x9, x7]) w)
def d2a (x5 x7 x9 x37 x38 x39 : Value) (w : World) (next2 : NT) (j1 : NT) (_R : RT) (E : Pan) : Prop :=
 oP E (xBin .lss 3 (.tmp 39) (.tmp 38) x39 x38) w fun b8g G1 =>
 xcond b8g
 (oP E (iA 112 x37 x39) G1 fun c3G L5 =>
 oP E (lA 117 c3G) L5 fun f6h K4 =>
 oP E (xV (Instr.alloc 117 true (.tuple #[]))) K4 fun b4j G5 =>
 oP E (sA 117 b4j f6h) G5 fun _z_51 E3 =>
 oP E (fA 117 b4j 0) E3 fun f6i M3 =>
 oP E (lA 9 f6i) M3 fun f6j M4 =>
 oP E (xV (Instr.lookup 108 x5 f6j false)) M4 fun b8G M1 =>
 oP E (fA 117 b4j 1) M1 fun b8h O3 =>
 oP E (lA 3 b8h) O3 fun c3I M5 =>
 oP E (xBin .eql 3 (.tmp 46) (.tmp 51) b8G c3I) M5 fun f6k N0 =>
 xcond f6k
 (oP E (xBin .add 3 (.tmp 39) (.const (vI 1)) x39 (vI 1)) N0 fun f6l O4 =>
 next2 [x7, x9, f6l] O4)
 (oP E (xBin .eql 3 (.tmp 46) (.const (vI 0)) b8G (vI 0)) N0 fun f6m O5 =>
 xcond f6m
 (oP E (fA 117 b4j 0) O5 fun f6n L6 =>
 oP E (lA 9 f6n) L6 fun f6o P1 =>
 j1 [(vI 63), f6o] P1)
 (oP E (fA 117 b4j 0) O5 fun f6p Q3 =>
 oP E (lA 9 f6p) Q3 fun f6q R8 =>
 j1 [(vI 64), f6q] R8)))
 (j1 [x7, x9] G1)
def F34 (x0 : Value) (w : World) (R : RT) (E : Pan) : Prop :=
 oP E (xV (Instr.box 44 x0)) w fun u1 w_2 =>
 oP E (lA 44 u1) w_2 fun c8N w_4 =>
 oP E (xCall (fC 53) [c8N]) w_4 fun a3U w_6 =>
 oP E (xBin .neq 29 (.tmp 14) (.const (vI 0)) a3U (vI 0)) w_6 fun c8f w_8 =>
 xcond c8f
 (R (Value.tuple #[(eS), a3U]) w_8)
 (oP E (fA 44 u1 0) w_8 fun c8P m8 =>
 oP E (lA 41 c8P) m8 fun a6I o4 =>
 oP E (xCall (fC 54) [a6I]) o4 fun a8K o2 =>
 oP E (eX a8K 0) o2 fun b3H p5 =>
 oP E (eX a8K 1) p5 fun c2k q7 =>
 oP E (eX a8K 2) q7 fun c4W q9 =>
 oP E (xBin .neq 29 (.tmp 24) (.const (vI 0)) c4W (vI 0)) q9 fun b3b t1 =>
 xcond b3b
 (R (Value.tuple #[c2k, c4W]) t1)
 (oP E (xV (Instr.build 114 #[])) t1 fun c1Z u5 =>
 oP E (xV (Instr.box 114 c1Z)) u5 fun d2b A7 =>
 oP E (fA 44 u1 1) A7 fun f6r C3 =>
 oP E (lA 42 f6r) C3 fun b7C D8 =>
 oP E (xCall (fC 55) [d2b, b7C]) D8 fun _t33_31 B9 =>
 xcut (fun b9I D2 => c4V (nth b9I 0) (nth b9I.tail 0) D2 R E) fun j1 =>
 oP E (xNil d2b) B9 fun b0M F7 =>
 oP E (fA 114 b0M 0) F7 fun b3N D9 =>
 oP E (lA 112 b3N) D9 fun b8B E1 =>
 oP E (xBuiltin .len #[112] 3 [false] [b8B]) E1 fun c4M G6 =>
 xloop [7, 9, 39] [c4W, (eS), (vI 0)] G6 fun τ_77 N4 next2 =>
 d2a b3H (τ_77 7) (τ_77 9) b8B c4M (τ_77 39) N4 next2 j1 R E))
noncomputable def c34 : Code := Tryd.f34.body.getD .skip
def h34 : Hint := (sQ (.scope (.seq (sQ (sQ (.cond (sQ .none) .none))) (sQ (.seq (sQ (.cond (sQ .none) .none)) (sQ (sQ (sQ (sQ (.cut [7, 9] (sQ (.block (.loop [7, 9, 39] (sQ (.seq (.cond .none .none) (.seq (.block (sQ (sQ (.block (sQ (.cond .none (sQ (.cond (sQ .none) (sQ .none))))))))) .none)))))) (sQ .none)))))))))))
theorem f6s (x0 : Value) (w : World) (R : RT) (E : Pan) : F34 x0 w R E = callX Tryd.prog [.tmp 2, .tmp 3] c34 h34 [x0] w R E := by kernel_rfl
theorem f6t {x0 : Value} (h : F34 x0 w R E) : Cv Tryd.prog 34 #[x0] w R E := by
 refine i2 (args := [x0]) (c := c34) (h := h34) (rs := [.tmp 2, .tmp 3]) Tryd.func34 (by kernel_rfl) (by kernel_rfl) (nB (by kernel_rfl)) (by kernel_rfl) (by kernel_rfl) (by kernel_rfl) ?_
 rw [← f6s]
 exact h
def d2c (x5 : Value) (w : World) (R : RT) (_E : Pan) : Prop :=
 ∀ _τ : Fr, (R (Value.tuple #[x5, (eS), (vI 0)]) w)
def d2d (x5 x6 x13 x14 x15 : Value) (w : World) (next2 : NT) (j1 : NT) (R : RT) (E : Pan) : Prop :=
 oP E (xBin .lss 3 (.tmp 15) (.tmp 14) x15 x14) w fun f6u o2 =>
 xcond f6u
 (oP E (iA 41 x13 x15) o2 fun a2l p5 =>
 oP E (lA 58 a2l) p5 fun b2Y q7 =>
 oP E (xV (Instr.alloc 58 true (.tuple #[]))) q7 fun a9I q9 =>
 oP E (sA 58 a9I b2Y) q9 fun _z_21 t1 =>
 oP E (lA 58 a9I) t1 fun f6v u5 =>
 oP E (xCall (fC 92) [f6v]) u5 fun b8H A7 =>
 oP E (xV (Instr.lookup 157 x6 b8H false)) A7 fun b3I C3 =>
 oP E (xBin .sub 3 (.tmp 23) (.const (vI 1)) b3I (vI 1)) C3 fun c4I D8 =>
 oP E (xU (Instr.mapUpdate 157 x6 b8H c4I)) D8 fun _z_31 B9 =>
 oP E (fA 58 a9I 0) B9 fun f6w D2 =>
 oP E (lA 9 f6w) D2 fun f6x F7 =>
 oP E (xV (Instr.lookup 108 x5 f6x false)) F7 fun f6y D9 =>
 oP E (xBin .neq 3 (.tmp 29) (.const (vI 0)) f6y (vI 0)) D9 fun f6z E1 =>
 xcond f6z
 (dX E1 fun b9c =>
 qP Tryd.prog (fA 58 a9I 0) fun b7A =>
 qL Tryd.prog b9c (blk b7A) (lA 9 b7A) fun f6A =>
 R (Value.tuple #[(Value.map none), f6A, (vI 60)]) b9c)
 (oP E (fA 58 a9I 1) E1 fun f6B a9X =>
 oP E (lA 3 f6B) a9X fun f6C b5T =>
 oP E (xBin .gtr 3 (.tmp 35) (.const (vI 1024)) f6C (vI 1024)) b5T fun f6D b1v =>
 xcond f6D
 (dX b1v fun G5 =>
 qP Tryd.prog (fA 58 a9I 0) fun d2e =>
 qL Tryd.prog G5 (blk d2e) (lA 9 d2e) fun f6E =>
 R (Value.tuple #[(Value.map none), f6E, (vI 61)]) G5)
 (oP E (xV (Instr.lookup 157 x6 b8H false)) b1v fun b8t M3 =>
 oP E (xBin .lss 3 (.tmp 42) (.const (vI 0)) b8t (vI 0)) M3 fun c3Z M4 =>
 xcond c3Z
 (dX M4 fun d4A =>
 qP Tryd.prog (fA 58 a9I 0) fun d2f =>
 qL Tryd.prog d4A (blk d2f) (lA 9 d2f) fun c4J =>
 R (Value.tuple #[(Value.map none), c4J, (vI 62)]) d4A)
 (oP E (fA 58 a9I 0) M4 fun f6F c7S =>
 oP E (lA 9 f6F) c7S fun f6G g4m =>
 oP E (xU (Instr.mapUpdate 108 x5 f6G b8H)) g4m fun _z_64 b5Z =>
 oP E (xBin .add 3 (.tmp 15) (.const (vI 1)) x15 (vI 1)) b5Z fun f6H b1V =>
 next2 [f6H] b1V))))
 (j1 [] o2)
def F54 (x0 : Value) (w : World) (R : RT) (E : Pan) : Prop :=
 oP E (xV (Instr.makeMap 108 none)) w fun b4D w_2 =>
 oP E (xV (Instr.makeMap 157 none)) w_2 fun a0J w_4 =>
 oP E (xU (Instr.mapUpdate 157 a0J (vI 1) (vI 32))) w_4 fun _z_5 w_6 =>
 oP E (xU (Instr.mapUpdate 157 a0J (vI 2) (vI 16))) w_6 fun _z_7 w_8 =>
 xcut (fun _ m8 => d2c b4D m8 R E) fun j1 =>
 oP E (xBuiltin .len #[41] 3 [false] [x0]) w_8 fun f6I o4 =>
 xloop [15] [(vI 0)] o4 fun τ_68 g4n next2 =>
 d2d b4D a0J x0 f6I (τ_68 15) g4n next2 j1 R E
noncomputable def c54 : Code := Tryd.f54.body.getD .skip
def h54 : Hint := (sQ (sQ (sQ (.cut [] (sQ (.block (.loop [15] (sQ (.seq (.cond .none .none) (.seq (.block (sQ (sQ (sQ (.seq (.block (sQ (.cond (.seq (.reg [(0, 2147483648, 256), (1, 4294967296, 2147483648), (0, 4, 0), (7, 8, 4294967296), (15, 16, 0)] [2, 0, 2, 2, 2] (.early 0 (.early 2 (.load 1 (.early 3 (.early 4 .done)))))) .none) (sQ (.cond (.seq (.reg [(0, 137438953472, 256), (1, 274877906944, 137438953472), (0, 4, 0), (7, 8, 274877906944), (15, 16, 0)] [2, 0, 2, 2, 2] (.early 0 (.early 2 (.load 1 (.early 3 (.early 4 .done)))))) .none) (sQ (.cond (.seq (.reg [(0, 17592186044416, 256), (1, 35184372088832, 17592186044416), (0, 4, 0), (7, 8, 35184372088832), (15, 16, 0)] [2, 0, 2, 2, 2] (.early 0 (.early 2 (.load 1 (.early 3 (.early 4 .done)))))) .none) .none))))))) .none))))) .none)))))) (sQ .none)))))
theorem f6J (x0 : Value) (w : World) (R : RT) (E : Pan) : F54 x0 w R E = callX Tryd.prog [.tmp 2, .tmp 3, .tmp 4] c54 h54 [x0] w R E := by kernel_rfl
theorem f6K {x0 : Value} (h : F54 x0 w R E) : Cv Tryd.prog 54 #[x0] w R E := by
 refine i2 (args := [x0]) (c := c54) (h := h54) (rs := [.tmp 2, .tmp 3, .tmp 4]) Tryd.func54 (by kernel_rfl) (by kernel_rfl) (nB (by kernel_rfl)) (by kernel_rfl) (by kernel_rfl) (by kernel_rfl) ?_
 rw [← f6J]
 exact h
def c4X (_x0 _x10 _x11 x12 : Value) (w : World) (next1 : NT) (_R : RT) (E : Pan) : Prop :=
 ∀ _τ : Fr, (oP E (xBin .add 3 (.tmp 12) (.const (vI 1)) x12 (vI 1)) w fun g0e w_6 =>
 next1 [g0e] w_6)
def c4Y (x0 x5 _x10 _x11 _x12 : Value) (w : World) (j2 : NT) (_R : RT) (E : Pan) : Prop :=
 ∀ _τ : Fr, (oP E (fA 63 x5 4) w fun f6L q7 =>
 oP E (lA 42 f6L) q7 fun f6M q9 =>
 oP E (xCall (fC 55) [x0, f6M]) q9 fun _t71_21 t1 =>
 oP E (fA 63 x5 5) t1 fun f6N u5 =>
 oP E (lA 42 f6N) u5 fun f6O A7 =>
 oP E (xCall (fC 55) [x0, f6O]) A7 fun _t75_27 C3 =>
 j2 [] C3)
def d2g (x0 _x5 _x10 _x11 _x12 x58 x59 x60 : Value) (w : World) (next6 : NT) (j5 : NT) (_R : RT) (E : Pan) : Prop :=
 oP E (xBin .lss 3 (.tmp 60) (.tmp 59) x60 x59) w fun f6P D9 =>
 xcond f6P
 (oP E (iA 22 x58 x60) D9 fun f6Q E1 =>
 oP E (lA 24 f6Q) E1 fun f6R G6 =>
 oP E (xV (Instr.alloc 24 true (.tuple #[]))) G6 fun d8l G1 =>
 oP E (sA 24 d8l f6R) G1 fun _z_45 L5 =>
 oP E (lA 24 d8l) L5 fun f6S K4 =>
 oP E (xCall (fC 94) [x0, f6S]) K4 fun _t66_49 G5 =>
 oP E (xBin .add 3 (.tmp 60) (.const (vI 1)) x60 (vI 1)) G5 fun f6T E3 =>
 next6 [f6T] E3)
 (j5 [] D9)
def c4Z (x0 x5 x10 x11 x12 : Value) (w : World) (j2 : NT) (R : RT) (E : Pan) : Prop :=
 ∀ _τ : Fr, (xcut (fun _ D8 => c4Y x0 x5 x10 x11 x12 D8 j2 R E) fun j5 =>
 oP E (fA 63 x5 2) w fun f6U B9 =>
 oP E (lA 22 f6U) B9 fun d2h D2 =>
 oP E (xBuiltin .len #[22] 3 [false] [d2h]) D2 fun f6V F7 =>
 xloop [60] [(vI 0)] F7 fun τ_53 M3 next6 =>
 d2g x0 x5 x10 x11 x12 d2h f6V (τ_53 60) M3 next6 j5 R E)
def d2i (x0 _x5 _x10 _x11 _x12 x47 x48 x49 : Value) (w : World) (next7 : NT) (j4 : NT) (_R : RT) (E : Pan) : Prop :=
 oP E (xBin .lss 3 (.tmp 49) (.tmp 48) x49 x48) w fun f6W N0 =>
 xcond f6W
 (oP E (iA 25 x47 x49) N0 fun f6X O4 =>
 oP E (lA 27 f6X) O4 fun f6Y O5 =>
 oP E (xV (Instr.alloc 27 true (.tuple #[]))) O5 fun d8m L6 =>
 oP E (sA 27 d8m f6Y) L6 fun _z_71 P1 =>
 oP E (lA 27 d8m) P1 fun c4K Q3 =>
 oP E (xCall (fC 93) [x0, c4K]) Q3 fun _t55_75 R8 =>
 oP E (xBin .add 3 (.tmp 49) (.const (vI 1)) x49 (vI 1)) R8 fun c4L N4 =>
 next7 [c4L] N4)
 (j4 [] N0)
def c5a (x0 x5 x10 x11 x12 : Value) (w : World) (j2 : NT) (R : RT) (E : Pan) : Prop :=
 ∀ _τ : Fr, (xcut (fun _ M4 => c4Z x0 x5 x10 x11 x12 M4 j2 R E) fun j4 =>
 oP E (fA 63 x5 3) w fun b8G M1 =>
 oP E (lA 25 b8G) M1 fun d2j O3 =>
 oP E (xBuiltin .len #[25] 3 [false] [d2j]) O3 fun f6Z M5 =>
 xloop [49] [(vI 0)] M5 fun τ_79 S4 next7 =>
 d2i x0 x5 x10 x11 x12 d2j f6Z (τ_79 49) S4 next7 j4 R E)
def d2k (x0 x10 x11 x12 : Value) (w : World) (next1 : NT) (R : RT) (E : Pan) : Prop :=
 oP E (xBin .lss 3 (.tmp 12) (.tmp 11) x12 x11) w fun b7Z w_4 =>
 xcond b7Z
 (xcut (fun _ w_8 => c4X x0 x10 x11 x12 w_8 next1 R E) fun j2 =>
 oP E (iA 42 x10 x12) w_4 fun a3N m8 =>
 oP E (lA 63 a3N) m8 fun a5t o4 =>
 oP E (xV (Instr.alloc 63 true (.tuple #[]))) o4 fun b8I o2 =>
 oP E (sA 63 b8I a5t) o2 fun _z_15 p5 =>
 xcut (fun _ Q6 => c5a x0 b8I x10 x11 x12 Q6 j2 R E) fun j3 =>
 oP E (fA 63 b8I 0) p5 fun f7a P2 =>
 oP E (lA 3 f7a) P2 fun d2l S5 =>
 oP E (xBin .eql 3 (.tmp 17) (.const (vI 1)) d2l (vI 1)) S5 fun f7b N5 =>
 xcond f7b
 (dX N5 fun b9W =>
 qP Tryd.prog (xNil x0) fun f7c =>
 qP Tryd.prog (fA 114 f7c 0) fun c5b =>
 qP Tryd.prog (fA 63 b8I 1) fun d2m =>
 qL Tryd.prog b9W (blk c5b) (lA 112 c5b) fun f7d =>
 qL Tryd.prog b9W (blk d2m) (lA 9 d2m) fun f7e =>
 qP Tryd.prog (xV (Instr.build 117 #[(0, f7e), (1, (vI 1))])) fun f7f =>
 oP E (xV (Instr.buildSlice 112 1 #[(0, f7f)])) b9W fun f7g b2o =>
 keepX [(blk c5b)] b9W b2o (opK Tryd.prog E (xBuiltin .append #[112, 112] 112 [false, false] [f7d, f7g]) b2o fun f7h c4i =>
 keepX [] b2o c4i (qP Tryd.prog (xNil x0) fun e3V =>
 qP Tryd.prog (fA 114 e3V 0) fun e3W =>
 oP E (sA 112 e3W f7h) c4i fun _z_102 b8z =>
 keepX [] c4i b8z (j3 [] b8z))))
 (oP E (xBin .eql 3 (.tmp 17) (.const (vI 2)) d2l (vI 2)) N5 fun e3X d8n =>
 xcond e3X
 (dX d8n fun U8 =>
 qP Tryd.prog (xNil x0) fun e3Y =>
 qP Tryd.prog (fA 114 e3Y 0) fun c0k =>
 qP Tryd.prog (fA 63 b8I 1) fun c6B =>
 qL Tryd.prog U8 (blk c0k) (lA 112 c0k) fun e3Z =>
 qL Tryd.prog U8 (blk c6B) (lA 9 c6B) fun e4a =>
 qP Tryd.prog (xV (Instr.build 117 #[(0, e4a), (1, (vI 2))])) fun e4b =>
 oP E (xV (Instr.buildSlice 112 1 #[(0, e4b)])) U8 fun e4c R9 =>
 keepX [(blk c0k)] U8 R9 (opK Tryd.prog E (xBuiltin .append #[112, 112] 112 [false, false] [e3Z, e4c]) R9 fun e4d T6 =>
 keepX [] R9 T6 (qP Tryd.prog (xNil x0) fun e4e =>
 qP Tryd.prog (fA 114 e4e 0) fun e4f =>
 oP E (sA 112 e4f e4d) T6 fun _z_119 Q7 =>
 keepX [] T6 Q7 (j3 [] Q7))))
 (j3 [] d8n)))
 (R (Value.tuple #[]) w_4)
def F55 (x0 x1 : Value) (w : World) (R : RT) (E : Pan) : Prop :=
 oP E (xBuiltin .len #[42] 3 [false] [x1]) w fun c8e w_2 =>
 xloop [12] [(vI 0)] w_2 fun τ_121 a1Q next1 =>
 d2k x0 x1 c8e (τ_121 12) a1Q next1 R E
noncomputable def c55 : Code := Tryd.f55.body.getD .skip
def h55 : Hint := (sQ (.block (.loop [12] (sQ (.seq (.cond .none .none) (.cut [] (.block (sQ (.cut [] (sQ (.block (sQ (.cond (.reg [(0, 1048576, 1), (0, 2097152, 1), (2, 4194304, 2097152), (4, 8388608, 4194304), (8, 16777216, 8388608), (0, 33554432, 32), (32, 67108864, 33554432), (64, 134217728, 67108864), (128, 268435456, 134217728), (272, 536870912, 285212672), (1023, 1073741824, 1048576), (2047, 2147483648, 1073741824), (3071, 0, 2684354560)] [80, 80, 80, 80, 64, 80, 16, 80, 16, 0, 80, 80, 0] (.early 0 (.early 1 (.early 2 (.early 3 (.early 5 (.load 4 (.load 6 (.early 7 (.step 8 (.step 9 (.early 10 (.early 11 (.step 12 .done)))))))))))))) (sQ (.cond (.reg [(0, 17179869184, 1), (0, 34359738368, 1), (2, 68719476736, 34359738368), (4, 137438953472, 68719476736), (8, 274877906944, 137438953472), (0, 549755813888, 32), (32, 1099511627776, 549755813888), (64, 2199023255552, 1099511627776), (128, 4398046511104, 2199023255552), (272, 8796093022208, 4672924418048), (1023, 17592186044416, 17179869184), (2047, 35184372088832, 17592186044416), (3071, 0, 43980465111040)] [80, 80, 80, 80, 64, 80, 16, 80, 16, 0, 80, 80, 0] (.early 0 (.early 1 (.early 2 (.early 3 (.early 5 (.load 4 (.load 6 (.early 7 (.step 8 (.step 9 (.early 10 (.early 11 (.step 12 .done)))))))))))))) .none)))))) (.cut [] (sQ (.block (.loop [49] (sQ (.seq (.cond .none .none) (.seq (.block (sQ .none)) .none)))))) (.cut [] (sQ (.block (.loop [60] (sQ (.seq (.cond .none .none) (.seq (.block (sQ .none)) .none)))))) (sQ .none)))))) .none))))))
theorem f7i (x0 x1 : Value) (w : World) (R : RT) (E : Pan) : F55 x0 x1 w R E = callX Tryd.prog [] c55 h55 [x0, x1] w R E := by kernel_rfl
theorem f7j {x0 x1 : Value} (h : F55 x0 x1 w R E) : Cv Tryd.prog 55 #[x0, x1] w R E := by
 refine i2 (args := [x0, x1]) (c := c55) (h := h55) (rs := []) Tryd.func55 (by kernel_rfl) (by kernel_rfl) (nB (by kernel_rfl)) (by kernel_rfl) (by kernel_rfl) (by kernel_rfl) ?_
 rw [← f7i]
 exact h
def F92 (x0 : Value) (w : World) (R : RT) (E : Pan) : Prop :=
 oP E (xV (Instr.box 58 x0)) w fun u1 w_2 =>
 oP E (fA 58 u1 1) w_2 fun a3h w_4 =>
 oP E (lA 3 a3h) w_4 fun a1M w_6 =>
 oP E (xBin .gtr 3 (.tmp 4) (.const (vI 0)) a1M (vI 0)) w_6 fun a4E w_8 =>
 xcond a4E
 (R (vI 2) w_8)
 (R (vI 1) w_8)
noncomputable def c92 : Code := Tryd.f92.body.getD .skip
def h92 : Hint := (sQ (.seq (sQ (.cond (sQ .none) .none)) (sQ .none)))
theorem f7k (x0 : Value) (w : World) (R : RT) (E : Pan) : F92 x0 w R E = callX Tryd.prog [.tmp 2] c92 h92 [x0] w R E := by kernel_rfl
theorem f7l {x0 : Value} (h : F92 x0 w R E) : Cv Tryd.prog 92 #[x0] w R E := by
 refine i2 (args := [x0]) (c := c92) (h := h92) (rs := [.tmp 2]) Tryd.func92 (by kernel_rfl) (by kernel_rfl) (nB (by kernel_rfl)) (by kernel_rfl) (by kernel_rfl) (by kernel_rfl) ?_
 rw [← f7k]
 exact h
def d2n (x0 x20 x21 x22 : Value) (w : World) (next2 : NT) (R : RT) (E : Pan) : Prop :=
 oP E (xBin .lss 3 (.tmp 22) (.tmp 21) x22 x21) w fun b4X m8 =>
 xcond b4X
 (oP E (iA 25 x20 x22) m8 fun a6J o4 =>
 oP E (lA 27 a6J) o4 fun c3E o2 =>
 oP E (xV (Instr.alloc 27 true (.tuple #[]))) o2 fun d8o p5 =>
 oP E (sA 27 d8o c3E) p5 fun _z_17 q7 =>
 oP E (lA 27 d8o) q7 fun c3F q9 =>
 oP E (xCall (fC 93) [x0, c3F]) q9 fun _t28_21 t1 =>
 oP E (xBin .add 3 (.tmp 22) (.const (vI 1)) x22 (vI 1)) t1 fun f7m u5 =>
 next2 [f7m] u5)
 (R (Value.tuple #[]) m8)
def c5c (x0 x3 : Value) (w : World) (R : RT) (E : Pan) : Prop :=
 ∀ _τ : Fr, (oP E (fA 27 x3 3) w fun c8w w_4 =>
 oP E (lA 25 c8w) w_4 fun c1g w_6 =>
 oP E (xBuiltin .len #[25] 3 [false] [c1g]) w_6 fun c1d w_8 =>
 xloop [22] [(vI 0)] w_8 fun τ_25 A7 next2 =>
 d2n x0 c1g c1d (τ_25 22) A7 next2 R E)
def d2o (x0 _x3 x9 x10 x11 : Value) (w : World) (next3 : NT) (j1 : NT) (_R : RT) (E : Pan) : Prop :=
 oP E (xBin .lss 3 (.tmp 11) (.tmp 10) x11 x10) w fun f7n F7 =>
 xcond f7n
 (oP E (iA 22 x9 x11) F7 fun b4k D9 =>
 oP E (lA 24 b4k) D9 fun c5d E1 =>
 oP E (xV (Instr.alloc 24 true (.tuple #[]))) E1 fun d8p G6 =>
 oP E (sA 24 d8p c5d) G6 fun _z_43 G1 =>
 oP E (lA 24 d8p) G1 fun b7D L5 =>
 oP E (xCall (fC 94) [x0, b7D]) L5 fun _t17_47 K4 =>
 oP E (xBin .add 3 (.tmp 11) (.const (vI 1)) x11 (vI 1)) K4 fun b7E G5 =>
 next3 [b7E] G5)
 (j1 [] F7)
def F93 (x0 x1 : Value) (w : World) (R : RT) (E : Pan) : Prop :=
 oP E (xV (Instr.box 27 x1)) w fun G2 w_2 =>
 xcut (fun _ C3 => c5c x0 G2 C3 R E) fun j1 =>
 oP E (fA 27 G2 2) w_2 fun g0f D8 =>
 oP E (lA 22 g0f) D8 fun d8q B9 =>
 oP E (xBuiltin .len #[22] 3 [false] [d8q]) B9 fun f7o D2 =>
 xloop [11] [(vI 0)] D2 fun τ_51 E3 next3 =>
 d2o x0 G2 d8q f7o (τ_51 11) E3 next3 j1 R E
noncomputable def c93 : Code := Tryd.f93.body.getD .skip
def h93 : Hint := (sQ (.cut [] (sQ (.block (.loop [11] (sQ (.seq (.cond .none .none) (.seq (.block (sQ .none)) .none)))))) (sQ (.block (.loop [22] (sQ (.seq (.cond .none .none) (.seq (.block (sQ .none)) .none))))))))
theorem f7p (x0 x1 : Value) (w : World) (R : RT) (E : Pan) : F93 x0 x1 w R E = callX Tryd.prog [] c93 h93 [x0, x1] w R E := by kernel_rfl
theorem f7q {x0 x1 : Value} (h : F93 x0 x1 w R E) : Cv Tryd.prog 93 #[x0, x1] w R E := by
 refine i2 (args := [x0, x1]) (c := c93) (h := h93) (rs := []) Tryd.func93 (by kernel_rfl) (by kernel_rfl) (nB (by kernel_rfl)) (by kernel_rfl) (by kernel_rfl) (by kernel_rfl) ?_
 rw [← f7p]
 exact h
def d2p (x0 x37 x38 x39 : Value) (w : World) (next2 : NT) (R : RT) (E : Pan) : Prop :=
 oP E (xBin .lss 3 (.tmp 39) (.tmp 38) x39 x38) w fun g0g m8 =>
 xcond g0g
 (oP E (iA 22 x37 x39) m8 fun f7r o4 =>
 oP E (lA 24 f7r) o4 fun f7s o2 =>
 oP E (xV (Instr.alloc 24 true (.tuple #[]))) o2 fun d8r p5 =>
 oP E (sA 24 d8r f7s) p5 fun _z_17 q7 =>
 oP E (lA 24 d8r) q7 fun f7t q9 =>
 oP E (xCall (fC 94) [x0, f7t]) q9 fun _t45_21 t1 =>
 oP E (xBin .add 3 (.tmp 39) (.const (vI 1)) x39 (vI 1)) t1 fun f7u u5 =>
 next2 [f7u] u5)
 (R (Value.tuple #[]) m8)
def c5e (x0 x3 : Value) (w : World) (R : RT) (E : Pan) : Prop :=
 ∀ _τ : Fr, (oP E (fA 24 x3 3) w fun g0h w_4 =>
 oP E (lA 22 g0h) w_4 fun d8s w_6 =>
 oP E (xBuiltin .len #[22] 3 [false] [d8s]) w_6 fun g0i w_8 =>
 xloop [39] [(vI 0)] w_8 fun τ_25 A7 next2 =>
 d2p x0 d8s g0i (τ_25 39) A7 next2 R E)
def F94 (x0 x1 : Value) (w : World) (R : RT) (E : Pan) : Prop :=
 oP E (xV (Instr.box 24 x1)) w fun G2 w_2 =>
 xcut (fun _ C3 => c5e x0 G2 C3 R E) fun j1 =>
 oP E (fA 24 G2 0) w_2 fun g0j D8 =>
 oP E (lA 3 g0j) D8 fun d8t B9 =>
 oP E (xBin .eql 3 (.tmp 7) (.const (vI 2)) d8t (vI 2)) B9 fun g0k D2 =>
 xcond g0k
 (dX D2 fun b0f =>
 qP Tryd.prog (xNil x0) fun f7v =>
 qP Tryd.prog (fA 114 f7v 0) fun b4k =>
 qP Tryd.prog (fA 24 G2 2) fun d2q =>
 qL Tryd.prog b0f (blk b4k) (lA 112 b4k) fun c5d =>
 qL Tryd.prog b0f (blk d2q) (lA 9 d2q) fun f7w =>
 qP Tryd.prog (xV (Instr.build 117 #[(0, f7w), (1, (vI 1))])) fun f7x =>
 oP E (xV (Instr.buildSlice 112 1 #[(0, f7x)])) b0f fun f7y b5S =>
 keepX [(blk b4k)] b0f b5S (opK Tryd.prog E (xBuiltin .append #[112, 112] 112 [false, false] [c5d, f7y]) b5S fun f7z a9X =>
 keepX [] b5S a9X (qP Tryd.prog (xNil x0) fun f7A =>
 qP Tryd.prog (fA 114 f7A 0) fun f7B =>
 oP E (sA 112 f7B f7z) a9X fun _z_48 b1v =>
 keepX [] a9X b1v (j1 [] b1v))))
 (oP E (xBin .eql 3 (.tmp 7) (.const (vI 4)) d8t (vI 4)) D2 fun f7C c0f =>
 xcond f7C
 (dX c0f fun E3 =>
 qP Tryd.prog (xNil x0) fun f7D =>
 qP Tryd.prog (fA 114 f7D 0) fun c5f =>
 qP Tryd.prog (fA 24 G2 2) fun b8x =>
 qL Tryd.prog E3 (blk c5f) (lA 112 c5f) fun f7E =>
 qL Tryd.prog E3 (blk b8x) (lA 9 b8x) fun b0S =>
 qP Tryd.prog (xV (Instr.build 117 #[(0, b0S), (1, (vI 2))])) fun f7F =>
 oP E (xV (Instr.buildSlice 112 1 #[(0, f7F)])) E3 fun b3n O3 =>
 keepX [(blk c5f)] E3 O3 (opK Tryd.prog E (xBuiltin .append #[112, 112] 112 [false, false] [f7E, b3n]) O3 fun b3o M5 =>
 keepX [] O3 M5 (qP Tryd.prog (xNil x0) fun b3p =>
 qP Tryd.prog (fA 114 b3p 0) fun f7G =>
 oP E (sA 112 f7G b3o) M5 fun _z_65 O4 =>
 keepX [] M5 O4 (j1 [] O4))))
 (j1 [] c0f))
noncomputable def c94 : Code := Tryd.f94.body.getD .skip
def h94 : Hint := (sQ (.cut [] (sQ (.block (sQ (.cond (.reg [(0, 1024, 1), (0, 2048, 1), (2, 4096, 2048), (4, 8192, 4096), (8, 16384, 8192), (0, 32768, 8), (32, 65536, 32768), (64, 131072, 65536), (128, 262144, 131072), (272, 524288, 278528), (1023, 1048576, 1024), (2047, 2097152, 1048576), (3071, 0, 2621440)] [80, 80, 80, 80, 64, 80, 16, 80, 16, 0, 80, 80, 0] (.early 0 (.early 1 (.early 2 (.early 3 (.early 5 (.load 4 (.load 6 (.early 7 (.step 8 (.step 9 (.early 10 (.early 11 (.step 12 .done)))))))))))))) (sQ (.cond (.reg [(0, 16777216, 1), (0, 33554432, 1), (2, 67108864, 33554432), (4, 134217728, 67108864), (8, 268435456, 134217728), (0, 536870912, 8), (32, 1073741824, 536870912), (64, 2147483648, 1073741824), (128, 4294967296, 2147483648), (272, 8589934592, 4563402752), (1023, 17179869184, 16777216), (2047, 34359738368, 17179869184), (3071, 0, 42949672960)] [80, 80, 80, 80, 64, 80, 16, 80, 16, 0, 80, 80, 0] (.early 0 (.early 1 (.early 2 (.early 3 (.early 5 (.load 4 (.load 6 (.early 7 (.step 8 (.step 9 (.early 10 (.early 11 (.step 12 .done)))))))))))))) .none)))))) (sQ (.block (.loop [39] (sQ (.seq (.cond .none .none) (.seq (.block (sQ .none)) .none))))))))
theorem f7H (x0 x1 : Value) (w : World) (R : RT) (E : Pan) : F94 x0 x1 w R E = callX Tryd.prog [] c94 h94 [x0, x1] w R E := by kernel_rfl
theorem f7I {x0 x1 : Value} (h : F94 x0 x1 w R E) : Cv Tryd.prog 94 #[x0, x1] w R E := by
 refine i2 (args := [x0, x1]) (c := c94) (h := h94) (rs := []) Tryd.func94 (by kernel_rfl) (by kernel_rfl) (nB (by kernel_rfl)) (by kernel_rfl) (by kernel_rfl) (by kernel_rfl) ?_
 rw [← f7H]
 exact h
end Go.Proofs.YtnhkdkcgdcgmdaaDoor
