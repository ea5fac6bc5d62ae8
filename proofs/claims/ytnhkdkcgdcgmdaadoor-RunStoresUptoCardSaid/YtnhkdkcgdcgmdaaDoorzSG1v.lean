/- The second reading of some of the program's functions, printed by gen2.py off the code; each is held against the code by the kernel. -/
import Derived.Test.YtnhkdkcgdcgmdaaDoorProg
import Derived.Test.YtnhkdkcgdcgmdaaDoorzSK0
import Derived.KernelRfl
import Derived.Test.YtnhkdkcgdcgmdaaDoorzSGz
namespace Go.Proofs.YtnhkdkcgdcgmdaaDoor
open Go.RowKit
set_option maxRecDepth 100000
variable {w : World} {R : RT} {E : Pan}
def c5c (x7 x9 : Value) (w : World) (R : RT) (_E : Pan) : Prop :=
 ∀ _τ : Fr, (R (Value.tuple #[x9, x7]) w)
def d2t (x5 x7 x9 x37 x38 x39 : Value) (w : World) (next2 : NT) (j1 : NT) (_R : RT) (E : Pan) : Prop :=
 oP E (xBin .lss 3 (.tmp 39) (.tmp 38) x39 x38) w fun b7X F0 =>
 xcond b7X
 (oP E (iA 112 x37 x39) F0 fun c3K K9 =>
 oP E (lA 117 c3K) K9 fun f7D J0 =>
 oP E (xV (Instr.alloc 117 true (.tuple #[]))) J0 fun b4g G2 =>
 oP E (sA 117 b4g f7D) G2 fun _z_51 E1 =>
 oP E (fA 117 b4g 0) E1 fun f7E L2 =>
 oP E (lA 9 f7E) L2 fun f7F M3 =>
 oP E (xV (Instr.lookup 108 x5 f7F false)) M3 fun b8H L3 =>
 oP E (fA 117 b4g 1) L3 fun b7Y N5 =>
 oP E (lA 3 b7Y) N5 fun c3M M4 =>
 oP E (xBin .eql 3 (.tmp 46) (.tmp 51) b8H c3M) M4 fun f7G M5 =>
 xcond f7G
 (oP E (xBin .add 3 (.tmp 39) (.const (vI 1)) x39 (vI 1)) M5 fun a8V N6 =>
 next2 [x7, x9, a8V] N6)
 (oP E (xBin .eql 3 (.tmp 46) (.const (vI 0)) b8H (vI 0)) M5 fun f7H N7 =>
 xcond f7H
 (oP E (fA 117 b4g 0) N7 fun f7I L4 =>
 oP E (lA 9 f7I) L4 fun f7J O1 =>
 j1 [(vI 63), f7J] O1)
 (oP E (fA 117 b4g 0) N7 fun f7K P0 =>
 oP E (lA 9 f7K) P0 fun f7L R0 =>
 j1 [(vI 64), f7L] R0)))
 (j1 [x7, x9] F0)
def F34 (x0 : Value) (w : World) (R : RT) (E : Pan) : Prop :=
 oP E (xV (Instr.box 44 x0)) w fun u4 w_2 =>
 oP E (lA 44 u4) w_2 fun c8Y w_4 =>
 oP E (xCall (fC 53) [c8Y]) w_4 fun a3W w_6 =>
 oP E (xBin .neq 29 (.tmp 14) (.const (vI 0)) a3W (vI 0)) w_6 fun c8k w_8 =>
 xcond c8k
 (R (Value.tuple #[(eS), a3W]) w_8)
 (oP E (fA 44 u4 0) w_8 fun c9a m7 =>
 oP E (lA 41 c9a) m7 fun a6H o4 =>
 oP E (xCall (fC 54) [a6H]) o4 fun a8G o3 =>
 oP E (eX a8G 0) o3 fun b3D p7 =>
 oP E (eX a8G 1) p7 fun c2l p8 =>
 oP E (eX a8G 2) p8 fun c5d q7 =>
 oP E (xBin .neq 29 (.tmp 24) (.const (vI 0)) c5d (vI 0)) q7 fun b2Z r8 =>
 xcond b2Z
 (R (Value.tuple #[c2l, c5d]) r8)
 (oP E (xV (Instr.build 114 #[])) r8 fun c2a u1 =>
 oP E (xV (Instr.box 114 c2a)) u1 fun d2u z6 =>
 oP E (fA 44 u4 1) z6 fun f7M C0 =>
 oP E (lA 42 f7M) C0 fun b7v D3 =>
 oP E (xCall (fC 55) [d2u, b7v]) D3 fun _t33_31 B8 =>
 xcut (fun b9M C3 => c5c (nth b9M 0) (nth b9M.tail 0) C3 R E) fun j1 =>
 oP E (xNil d2u) B8 fun b0C E9 =>
 oP E (fA 114 b0C 0) E9 fun b3J C7 =>
 oP E (lA 112 b3J) C7 fun b8B D5 =>
 oP E (xBuiltin .len #[112] 3 [false] [b8B]) D5 fun c4R G4 =>
 xloop [7, 9, 39] [c5d, (eS), (vI 0)] G4 fun τ_77 N0 next2 =>
 d2t b3D (τ_77 7) (τ_77 9) b8B c4R (τ_77 39) N0 next2 j1 R E))
noncomputable def c34 : Code := Tryd.f34.body.getD .skip
def h34 : Hint := (sQ (.scope (.seq (sQ (sQ (.cond (sQ .none) .none))) (sQ (.seq (sQ (.cond (sQ .none) .none)) (sQ (sQ (sQ (sQ (.cut [7, 9] (sQ (.block (.loop [7, 9, 39] (sQ (.seq (.cond .none .none) (.seq (.block (sQ (sQ (.block (sQ (.cond .none (sQ (.cond (sQ .none) (sQ .none))))))))) .none)))))) (sQ .none)))))))))))
theorem f7N (x0 : Value) (w : World) (R : RT) (E : Pan) : F34 x0 w R E = callX Tryd.prog [.tmp 2, .tmp 3] c34 h34 [x0] w R E := by kernel_rfl
theorem f7O {x0 : Value} (h : F34 x0 w R E) : Cv Tryd.prog 34 #[x0] w R E := by
 refine g8 (args := [x0]) (c := c34) (h := h34) (rs := [.tmp 2, .tmp 3]) Tryd.func34 (by kernel_rfl) (by kernel_rfl) (nB (by kernel_rfl)) (by kernel_rfl) (by kernel_rfl) (by kernel_rfl) ?_
 rw [← f7N]
 exact h
def d2v (x5 : Value) (w : World) (R : RT) (_E : Pan) : Prop :=
 ∀ _τ : Fr, (R (Value.tuple #[x5, (eS), (vI 0)]) w)
def d2w (x5 x6 x13 x14 x15 : Value) (w : World) (next2 : NT) (j1 : NT) (R : RT) (E : Pan) : Prop :=
 oP E (xBin .lss 3 (.tmp 15) (.tmp 14) x15 x14) w fun f7P o3 =>
 xcond f7P
 (oP E (iA 41 x13 x15) o3 fun a2l p7 =>
 oP E (lA 58 a2l) p7 fun b2W p8 =>
 oP E (xV (Instr.alloc 58 true (.tuple #[]))) p8 fun a9E q7 =>
 oP E (sA 58 a9E b2W) q7 fun _z_21 r8 =>
 oP E (lA 58 a9E) r8 fun f7Q u1 =>
 oP E (xCall (fC 92) [f7Q]) u1 fun b8I z6 =>
 oP E (xV (Instr.lookup 157 x6 b8I false)) z6 fun b3E C0 =>
 oP E (xBin .sub 3 (.tmp 23) (.const (vI 1)) b3E (vI 1)) C0 fun c4N D3 =>
 oP E (xU (Instr.mapUpdate 157 x6 b8I c4N)) D3 fun _z_31 B8 =>
 oP E (fA 58 a9E 0) B8 fun f7R C3 =>
 oP E (lA 9 f7R) C3 fun f7S E9 =>
 oP E (xV (Instr.lookup 108 x5 f7S false)) E9 fun f7T C7 =>
 oP E (xBin .neq 3 (.tmp 29) (.const (vI 0)) f7T (vI 0)) C7 fun f7U D5 =>
 xcond f7U
 (dX D5 fun b9c =>
 qP Tryd.prog (fA 58 a9E 0) fun b7t =>
 qL Tryd.prog b9c (blk b7t) (lA 9 b7t) fun f7V =>
 R (Value.tuple #[(Value.map none), f7V, (vI 60)]) b9c)
 (oP E (fA 58 a9E 1) D5 fun f7W a9T =>
 oP E (lA 3 f7W) a9T fun f7X b9d =>
 oP E (xBin .gtr 3 (.tmp 35) (.const (vI 1024)) f7X (vI 1024)) b9d fun f7Y b1k =>
 xcond f7Y
 (dX b1k fun G2 =>
 qP Tryd.prog (fA 58 a9E 0) fun d2x =>
 qL Tryd.prog G2 (blk d2x) (lA 9 d2x) fun f7Z =>
 R (Value.tuple #[(Value.map none), f7Z, (vI 61)]) G2)
 (oP E (xV (Instr.lookup 157 x6 b8I false)) b1k fun b8u L2 =>
 oP E (xBin .lss 3 (.tmp 42) (.const (vI 0)) b8u (vI 0)) L2 fun c4d M3 =>
 xcond c4d
 (dX M3 fun d4X =>
 qP Tryd.prog (fA 58 a9E 0) fun d2y =>
 qL Tryd.prog d4X (blk d2y) (lA 9 d2y) fun c4O =>
 R (Value.tuple #[(Value.map none), c4O, (vI 62)]) d4X)
 (oP E (fA 58 a9E 0) M3 fun f8a d4I =>
 oP E (lA 9 f8a) d4I fun f8b g5i =>
 oP E (xU (Instr.mapUpdate 108 x5 f8b b8I)) g5i fun _z_64 b5W =>
 oP E (xBin .add 3 (.tmp 15) (.const (vI 1)) x15 (vI 1)) b5W fun f8c b1N =>
 next2 [f8c] b1N))))
 (j1 [] o3)
def F54 (x0 : Value) (w : World) (R : RT) (E : Pan) : Prop :=
 oP E (xV (Instr.makeMap 108 none)) w fun b4A w_2 =>
 oP E (xV (Instr.makeMap 157 none)) w_2 fun a0J w_4 =>
 oP E (xU (Instr.mapUpdate 157 a0J (vI 1) (vI 32))) w_4 fun _z_5 w_6 =>
 oP E (xU (Instr.mapUpdate 157 a0J (vI 2) (vI 16))) w_6 fun _z_7 w_8 =>
 xcut (fun _ m7 => d2v b4A m7 R E) fun j1 =>
 oP E (xBuiltin .len #[41] 3 [false] [x0]) w_8 fun f8d o4 =>
 xloop [15] [(vI 0)] o4 fun τ_68 g5j next2 =>
 d2w b4A a0J x0 f8d (τ_68 15) g5j next2 j1 R E
noncomputable def c54 : Code := Tryd.f54.body.getD .skip
def h54 : Hint := (sQ (sQ (sQ (.cut [] (sQ (.block (.loop [15] (sQ (.seq (.cond .none .none) (.seq (.block (sQ (sQ (sQ (.seq (.block (sQ (.cond (.seq (.reg [(0, 2147483648, 256), (1, 4294967296, 2147483648), (0, 4, 0), (7, 8, 4294967296), (15, 16, 0)] [2, 0, 2, 2, 2] (.early 0 (.early 2 (.load 1 (.early 3 (.early 4 .done)))))) .none) (sQ (.cond (.seq (.reg [(0, 137438953472, 256), (1, 274877906944, 137438953472), (0, 4, 0), (7, 8, 274877906944), (15, 16, 0)] [2, 0, 2, 2, 2] (.early 0 (.early 2 (.load 1 (.early 3 (.early 4 .done)))))) .none) (sQ (.cond (.seq (.reg [(0, 17592186044416, 256), (1, 35184372088832, 17592186044416), (0, 4, 0), (7, 8, 35184372088832), (15, 16, 0)] [2, 0, 2, 2, 2] (.early 0 (.early 2 (.load 1 (.early 3 (.early 4 .done)))))) .none) .none))))))) .none))))) .none)))))) (sQ .none)))))
theorem f8e (x0 : Value) (w : World) (R : RT) (E : Pan) : F54 x0 w R E = callX Tryd.prog [.tmp 2, .tmp 3, .tmp 4] c54 h54 [x0] w R E := by kernel_rfl
theorem f8f {x0 : Value} (h : F54 x0 w R E) : Cv Tryd.prog 54 #[x0] w R E := by
 refine g8 (args := [x0]) (c := c54) (h := h54) (rs := [.tmp 2, .tmp 3, .tmp 4]) Tryd.func54 (by kernel_rfl) (by kernel_rfl) (nB (by kernel_rfl)) (by kernel_rfl) (by kernel_rfl) (by kernel_rfl) ?_
 rw [← f8e]
 exact h
def c5e (_x0 _x10 _x11 x12 : Value) (w : World) (next1 : NT) (_R : RT) (E : Pan) : Prop :=
 ∀ _τ : Fr, (oP E (xBin .add 3 (.tmp 12) (.const (vI 1)) x12 (vI 1)) w fun g1f w_6 =>
 next1 [g1f] w_6)
def c5f (x0 x5 _x10 _x11 _x12 : Value) (w : World) (j2 : NT) (_R : RT) (E : Pan) : Prop :=
 ∀ _τ : Fr, (oP E (fA 63 x5 4) w fun f8g p8 =>
 oP E (lA 42 f8g) p8 fun f8h q7 =>
 oP E (xCall (fC 55) [x0, f8h]) q7 fun _t71_21 r8 =>
 oP E (fA 63 x5 5) r8 fun f8i u1 =>
 oP E (lA 42 f8i) u1 fun f8j z6 =>
 oP E (xCall (fC 55) [x0, f8j]) z6 fun _t75_27 C0 =>
 j2 [] C0)
def d2z (x0 _x5 _x10 _x11 _x12 x58 x59 x60 : Value) (w : World) (next6 : NT) (j5 : NT) (_R : RT) (E : Pan) : Prop :=
 oP E (xBin .lss 3 (.tmp 60) (.tmp 59) x60 x59) w fun f8k C7 =>
 xcond f8k
 (oP E (iA 22 x58 x60) C7 fun f8l D5 =>
 oP E (lA 24 f8l) D5 fun f8m G4 =>
 oP E (xV (Instr.alloc 24 true (.tuple #[]))) G4 fun d9e F0 =>
 oP E (sA 24 d9e f8m) F0 fun _z_45 K9 =>
 oP E (lA 24 d9e) K9 fun f8n J0 =>
 oP E (xCall (fC 94) [x0, f8n]) J0 fun _t66_49 G2 =>
 oP E (xBin .add 3 (.tmp 60) (.const (vI 1)) x60 (vI 1)) G2 fun f8o E1 =>
 next6 [f8o] E1)
 (j5 [] C7)
def c5g (x0 x5 x10 x11 x12 : Value) (w : World) (j2 : NT) (R : RT) (E : Pan) : Prop :=
 ∀ _τ : Fr, (xcut (fun _ D3 => c5f x0 x5 x10 x11 x12 D3 j2 R E) fun j5 =>
 oP E (fA 63 x5 2) w fun f8p B8 =>
 oP E (lA 22 f8p) B8 fun d2A C3 =>
 oP E (xBuiltin .len #[22] 3 [false] [d2A]) C3 fun f8q E9 =>
 xloop [60] [(vI 0)] E9 fun τ_53 L2 next6 =>
 d2z x0 x5 x10 x11 x12 d2A f8q (τ_53 60) L2 next6 j5 R E)
def d2B (x0 _x5 _x10 _x11 _x12 x47 x48 x49 : Value) (w : World) (next7 : NT) (j4 : NT) (_R : RT) (E : Pan) : Prop :=
 oP E (xBin .lss 3 (.tmp 49) (.tmp 48) x49 x48) w fun f8r M5 =>
 xcond f8r
 (oP E (iA 25 x47 x49) M5 fun f8s N6 =>
 oP E (lA 27 f8s) N6 fun f8t N7 =>
 oP E (xV (Instr.alloc 27 true (.tuple #[]))) N7 fun d9f L4 =>
 oP E (sA 27 d9f f8t) L4 fun _z_71 O1 =>
 oP E (lA 27 d9f) O1 fun c4P P0 =>
 oP E (xCall (fC 93) [x0, c4P]) P0 fun _t55_75 R0 =>
 oP E (xBin .add 3 (.tmp 49) (.const (vI 1)) x49 (vI 1)) R0 fun c4Q N0 =>
 next7 [c4Q] N0)
 (j4 [] M5)
def c5h (x0 x5 x10 x11 x12 : Value) (w : World) (j2 : NT) (R : RT) (E : Pan) : Prop :=
 ∀ _τ : Fr, (xcut (fun _ M3 => c5g x0 x5 x10 x11 x12 M3 j2 R E) fun j4 =>
 oP E (fA 63 x5 3) w fun b8H L3 =>
 oP E (lA 25 b8H) L3 fun d2C N5 =>
 oP E (xBuiltin .len #[25] 3 [false] [d2C]) N5 fun f8u M4 =>
 xloop [49] [(vI 0)] M4 fun τ_79 R1 next7 =>
 d2B x0 x5 x10 x11 x12 d2C f8u (τ_79 49) R1 next7 j4 R E)
def d2D (x0 x10 x11 x12 : Value) (w : World) (next1 : NT) (R : RT) (E : Pan) : Prop :=
 oP E (xBin .lss 3 (.tmp 12) (.tmp 11) x12 x11) w fun b7P w_4 =>
 xcond b7P
 (xcut (fun _ w_8 => c5e x0 x10 x11 x12 w_8 next1 R E) fun j2 =>
 oP E (iA 42 x10 x12) w_4 fun a3O m7 =>
 oP E (lA 63 a3O) m7 fun a5z o4 =>
 oP E (xV (Instr.alloc 63 true (.tuple #[]))) o4 fun b8J o3 =>
 oP E (sA 63 b8J a5z) o3 fun _z_15 p7 =>
 xcut (fun _ P6 => c5h x0 b8J x10 x11 x12 P6 j2 R E) fun j3 =>
 oP E (fA 63 b8J 0) p7 fun f8v O2 =>
 oP E (lA 3 f8v) O2 fun d2E R2 =>
 oP E (xBin .eql 3 (.tmp 17) (.const (vI 1)) d2E (vI 1)) R2 fun f8w N1 =>
 xcond f8w
 (dX N1 fun b6K =>
 qP Tryd.prog (xNil x0) fun f8x =>
 qP Tryd.prog (fA 114 f8x 0) fun c5i =>
 qP Tryd.prog (fA 63 b8J 1) fun d2F =>
 qL Tryd.prog b6K (blk c5i) (lA 112 c5i) fun f8y =>
 qL Tryd.prog b6K (blk d2F) (lA 9 d2F) fun f8z =>
 qP Tryd.prog (xV (Instr.build 117 #[(0, f8z), (1, (vI 1))])) fun f8A =>
 oP E (xV (Instr.buildSlice 112 1 #[(0, f8A)])) b6K fun f8B b2j =>
 keepX [(blk c5i)] b6K b2j (opK Tryd.prog E (xBuiltin .append #[112, 112] 112 [false, false] [f8y, f8B]) b2j fun f8C c4n =>
 keepX [] b2j c4n (qP Tryd.prog (xNil x0) fun e5a =>
 qP Tryd.prog (fA 114 e5a 0) fun e5b =>
 oP E (sA 112 e5b f8C) c4n fun _z_102 b5d =>
 keepX [] c4n b5d (j3 [] b5d))))
 (oP E (xBin .eql 3 (.tmp 17) (.const (vI 2)) d2E (vI 2)) N1 fun e5c d9g =>
 xcond e5c
 (dX d9g fun S3 =>
 qP Tryd.prog (xNil x0) fun e5d =>
 qP Tryd.prog (fA 114 e5d 0) fun c0n =>
 qP Tryd.prog (fA 63 b8J 1) fun c6G =>
 qL Tryd.prog S3 (blk c0n) (lA 112 c0n) fun e5e =>
 qL Tryd.prog S3 (blk c6G) (lA 9 c6G) fun e5f =>
 qP Tryd.prog (xV (Instr.build 117 #[(0, e5f), (1, (vI 2))])) fun e5g =>
 oP E (xV (Instr.buildSlice 112 1 #[(0, e5g)])) S3 fun e5h P9 =>
 keepX [(blk c0n)] S3 P9 (opK Tryd.prog E (xBuiltin .append #[112, 112] 112 [false, false] [e5e, e5h]) P9 fun e5i S4 =>
 keepX [] P9 S4 (qP Tryd.prog (xNil x0) fun e5j =>
 qP Tryd.prog (fA 114 e5j 0) fun e5k =>
 oP E (sA 112 e5k e5i) S4 fun _z_119 P3 =>
 keepX [] S4 P3 (j3 [] P3))))
 (j3 [] d9g)))
 (R (Value.tuple #[]) w_4)
def F55 (x0 x1 : Value) (w : World) (R : RT) (E : Pan) : Prop :=
 oP E (xBuiltin .len #[42] 3 [false] [x1]) w fun c8j w_2 =>
 xloop [12] [(vI 0)] w_2 fun τ_121 a1l next1 =>
 d2D x0 x1 c8j (τ_121 12) a1l next1 R E
noncomputable def c55 : Code := Tryd.f55.body.getD .skip
def h55 : Hint := (sQ (.block (.loop [12] (sQ (.seq (.cond .none .none) (.cut [] (.block (sQ (.cut [] (sQ (.block (sQ (.cond (.reg [(0, 1048576, 1), (0, 2097152, 1), (2, 4194304, 2097152), (4, 8388608, 4194304), (8, 16777216, 8388608), (0, 33554432, 32), (32, 67108864, 33554432), (64, 134217728, 67108864), (128, 268435456, 134217728), (272, 536870912, 285212672), (1023, 1073741824, 1048576), (2047, 2147483648, 1073741824), (3071, 0, 2684354560)] [80, 80, 80, 80, 64, 80, 16, 80, 16, 0, 80, 80, 0] (.early 0 (.early 1 (.early 2 (.early 3 (.early 5 (.load 4 (.load 6 (.early 7 (.step 8 (.step 9 (.early 10 (.early 11 (.step 12 .done)))))))))))))) (sQ (.cond (.reg [(0, 17179869184, 1), (0, 34359738368, 1), (2, 68719476736, 34359738368), (4, 137438953472, 68719476736), (8, 274877906944, 137438953472), (0, 549755813888, 32), (32, 1099511627776, 549755813888), (64, 2199023255552, 1099511627776), (128, 4398046511104, 2199023255552), (272, 8796093022208, 4672924418048), (1023, 17592186044416, 17179869184), (2047, 35184372088832, 17592186044416), (3071, 0, 43980465111040)] [80, 80, 80, 80, 64, 80, 16, 80, 16, 0, 80, 80, 0] (.early 0 (.early 1 (.early 2 (.early 3 (.early 5 (.load 4 (.load 6 (.early 7 (.step 8 (.step 9 (.early 10 (.early 11 (.step 12 .done)))))))))))))) .none)))))) (.cut [] (sQ (.block (.loop [49] (sQ (.seq (.cond .none .none) (.seq (.block (sQ .none)) .none)))))) (.cut [] (sQ (.block (.loop [60] (sQ (.seq (.cond .none .none) (.seq (.block (sQ .none)) .none)))))) (sQ .none)))))) .none))))))
theorem f8D (x0 x1 : Value) (w : World) (R : RT) (E : Pan) : F55 x0 x1 w R E = callX Tryd.prog [] c55 h55 [x0, x1] w R E := by kernel_rfl
theorem f8E {x0 x1 : Value} (h : F55 x0 x1 w R E) : Cv Tryd.prog 55 #[x0, x1] w R E := by
 refine g8 (args := [x0, x1]) (c := c55) (h := h55) (rs := []) Tryd.func55 (by kernel_rfl) (by kernel_rfl) (nB (by kernel_rfl)) (by kernel_rfl) (by kernel_rfl) (by kernel_rfl) ?_
 rw [← f8D]
 exact h
def F92 (x0 : Value) (w : World) (R : RT) (E : Pan) : Prop :=
 oP E (xV (Instr.box 58 x0)) w fun u4 w_2 =>
 oP E (fA 58 u4 1) w_2 fun a3g w_4 =>
 oP E (lA 3 a3g) w_4 fun a1M w_6 =>
 oP E (xBin .gtr 3 (.tmp 4) (.const (vI 0)) a1M (vI 0)) w_6 fun a4E w_8 =>
 xcond a4E
 (R (vI 2) w_8)
 (R (vI 1) w_8)
noncomputable def c92 : Code := Tryd.f92.body.getD .skip
def h92 : Hint := (sQ (.seq (sQ (.cond (sQ .none) .none)) (sQ .none)))
theorem f8F (x0 : Value) (w : World) (R : RT) (E : Pan) : F92 x0 w R E = callX Tryd.prog [.tmp 2] c92 h92 [x0] w R E := by kernel_rfl
theorem f8G {x0 : Value} (h : F92 x0 w R E) : Cv Tryd.prog 92 #[x0] w R E := by
 refine g8 (args := [x0]) (c := c92) (h := h92) (rs := [.tmp 2]) Tryd.func92 (by kernel_rfl) (by kernel_rfl) (nB (by kernel_rfl)) (by kernel_rfl) (by kernel_rfl) (by kernel_rfl) ?_
 rw [← f8F]
 exact h
def d2G (x0 x20 x21 x22 : Value) (w : World) (next2 : NT) (R : RT) (E : Pan) : Prop :=
 oP E (xBin .lss 3 (.tmp 22) (.tmp 21) x22 x21) w fun b4R m7 =>
 xcond b4R
 (oP E (iA 25 x20 x22) m7 fun a4t o4 =>
 oP E (lA 27 a4t) o4 fun a8O o3 =>
 oP E (xV (Instr.alloc 27 true (.tuple #[]))) o3 fun d9h p7 =>
 oP E (sA 27 d9h a8O) p7 fun _z_17 p8 =>
 oP E (lA 27 d9h) p8 fun c3J q7 =>
 oP E (xCall (fC 93) [x0, c3J]) q7 fun _t28_21 r8 =>
 oP E (xBin .add 3 (.tmp 22) (.const (vI 1)) x22 (vI 1)) r8 fun f8H u1 =>
 next2 [f8H] u1)
 (R (Value.tuple #[]) m7)
def c5j (x0 x3 : Value) (w : World) (R : RT) (E : Pan) : Prop :=
 ∀ _τ : Fr, (oP E (fA 27 x3 3) w fun c8B w_4 =>
 oP E (lA 25 c8B) w_4 fun c1j w_6 =>
 oP E (xBuiltin .len #[25] 3 [false] [c1j]) w_6 fun c1g w_8 =>
 xloop [22] [(vI 0)] w_8 fun τ_25 z6 next2 =>
 d2G x0 c1j c1g (τ_25 22) z6 next2 R E)
def d2H (x0 _x3 x9 x10 x11 : Value) (w : World) (next3 : NT) (j1 : NT) (_R : RT) (E : Pan) : Prop :=
 oP E (xBin .lss 3 (.tmp 11) (.tmp 10) x11 x10) w fun f8I E9 =>
 xcond f8I
 (oP E (iA 22 x9 x11) E9 fun b4h C7 =>
 oP E (lA 24 b4h) C7 fun c5k D5 =>
 oP E (xV (Instr.alloc 24 true (.tuple #[]))) D5 fun d9i G4 =>
 oP E (sA 24 d9i c5k) G4 fun _z_43 F0 =>
 oP E (lA 24 d9i) F0 fun b7w K9 =>
 oP E (xCall (fC 94) [x0, b7w]) K9 fun _t17_47 J0 =>
 oP E (xBin .add 3 (.tmp 11) (.const (vI 1)) x11 (vI 1)) J0 fun b7x G2 =>
 next3 [b7x] G2)
 (j1 [] E9)
def F93 (x0 x1 : Value) (w : World) (R : RT) (E : Pan) : Prop :=
 oP E (xV (Instr.box 27 x1)) w fun G5 w_2 =>
 xcut (fun _ C0 => c5j x0 G5 C0 R E) fun j1 =>
 oP E (fA 27 G5 2) w_2 fun g1g D3 =>
 oP E (lA 22 g1g) D3 fun d9j B8 =>
 oP E (xBuiltin .len #[22] 3 [false] [d9j]) B8 fun f8J C3 =>
 xloop [11] [(vI 0)] C3 fun τ_51 E1 next3 =>
 d2H x0 G5 d9j f8J (τ_51 11) E1 next3 j1 R E
noncomputable def c93 : Code := Tryd.f93.body.getD .skip
def h93 : Hint := (sQ (.cut [] (sQ (.block (.loop [11] (sQ (.seq (.cond .none .none) (.seq (.block (sQ .none)) .none)))))) (sQ (.block (.loop [22] (sQ (.seq (.cond .none .none) (.seq (.block (sQ .none)) .none))))))))
theorem f8K (x0 x1 : Value) (w : World) (R : RT) (E : Pan) : F93 x0 x1 w R E = callX Tryd.prog [] c93 h93 [x0, x1] w R E := by kernel_rfl
theorem f8L {x0 x1 : Value} (h : F93 x0 x1 w R E) : Cv Tryd.prog 93 #[x0, x1] w R E := by
 refine g8 (args := [x0, x1]) (c := c93) (h := h93) (rs := []) Tryd.func93 (by kernel_rfl) (by kernel_rfl) (nB (by kernel_rfl)) (by kernel_rfl) (by kernel_rfl) (by kernel_rfl) ?_
 rw [← f8K]
 exact h
def d2I (x0 x37 x38 x39 : Value) (w : World) (next2 : NT) (R : RT) (E : Pan) : Prop :=
 oP E (xBin .lss 3 (.tmp 39) (.tmp 38) x39 x38) w fun g1h m7 =>
 xcond g1h
 (oP E (iA 22 x37 x39) m7 fun f8M o4 =>
 oP E (lA 24 f8M) o4 fun f8N o3 =>
 oP E (xV (Instr.alloc 24 true (.tuple #[]))) o3 fun d9k p7 =>
 oP E (sA 24 d9k f8N) p7 fun _z_17 p8 =>
 oP E (lA 24 d9k) p8 fun f8O q7 =>
 oP E (xCall (fC 94) [x0, f8O]) q7 fun _t45_21 r8 =>
 oP E (xBin .add 3 (.tmp 39) (.const (vI 1)) x39 (vI 1)) r8 fun f8P u1 =>
 next2 [f8P] u1)
 (R (Value.tuple #[]) m7)
def c5l (x0 x3 : Value) (w : World) (R : RT) (E : Pan) : Prop :=
 ∀ _τ : Fr, (oP E (fA 24 x3 3) w fun g1i w_4 =>
 oP E (lA 22 g1i) w_4 fun d9l w_6 =>
 oP E (xBuiltin .len #[22] 3 [false] [d9l]) w_6 fun g1j w_8 =>
 xloop [39] [(vI 0)] w_8 fun τ_25 z6 next2 =>
 d2I x0 d9l g1j (τ_25 39) z6 next2 R E)
def F94 (x0 x1 : Value) (w : World) (R : RT) (E : Pan) : Prop :=
 oP E (xV (Instr.box 24 x1)) w fun G5 w_2 =>
 xcut (fun _ C0 => c5l x0 G5 C0 R E) fun j1 =>
 oP E (fA 24 G5 0) w_2 fun g1k D3 =>
 oP E (lA 3 g1k) D3 fun d9m B8 =>
 oP E (xBin .eql 3 (.tmp 7) (.const (vI 2)) d9m (vI 2)) B8 fun g1l C3 =>
 xcond g1l
 (dX C3 fun a9Y =>
 qP Tryd.prog (xNil x0) fun f8Q =>
 qP Tryd.prog (fA 114 f8Q 0) fun b4h =>
 qP Tryd.prog (fA 24 G5 2) fun d2J =>
 qL Tryd.prog a9Y (blk b4h) (lA 112 b4h) fun c5k =>
 qL Tryd.prog a9Y (blk d2J) (lA 9 d2J) fun f8R =>
 qP Tryd.prog (xV (Instr.build 117 #[(0, f8R), (1, (vI 1))])) fun f8S =>
 oP E (xV (Instr.buildSlice 112 1 #[(0, f8S)])) a9Y fun f8T b3d =>
 keepX [(blk b4h)] a9Y b3d (opK Tryd.prog E (xBuiltin .append #[112, 112] 112 [false, false] [c5k, f8T]) b3d fun f8U a9T =>
 keepX [] b3d a9T (qP Tryd.prog (xNil x0) fun f8V =>
 qP Tryd.prog (fA 114 f8V 0) fun f8W =>
 oP E (sA 112 f8W f8U) a9T fun _z_48 b1k =>
 keepX [] a9T b1k (j1 [] b1k))))
 (oP E (xBin .eql 3 (.tmp 7) (.const (vI 4)) d9m (vI 4)) C3 fun f8X c0i =>
 xcond f8X
 (dX c0i fun E1 =>
 qP Tryd.prog (xNil x0) fun f8Y =>
 qP Tryd.prog (fA 114 f8Y 0) fun c5m =>
 qP Tryd.prog (fA 24 G5 2) fun b8y =>
 qL Tryd.prog E1 (blk c5m) (lA 112 c5m) fun f8Z =>
 qL Tryd.prog E1 (blk b8y) (lA 9 b8y) fun b0I =>
 qP Tryd.prog (xV (Instr.build 117 #[(0, b0I), (1, (vI 2))])) fun f9a =>
 oP E (xV (Instr.buildSlice 112 1 #[(0, f9a)])) E1 fun b3n N5 =>
 keepX [(blk c5m)] E1 N5 (opK Tryd.prog E (xBuiltin .append #[112, 112] 112 [false, false] [f8Z, b3n]) N5 fun b3o M4 =>
 keepX [] N5 M4 (qP Tryd.prog (xNil x0) fun b3p =>
 qP Tryd.prog (fA 114 b3p 0) fun f9b =>
 oP E (sA 112 f9b b3o) M4 fun _z_65 N6 =>
 keepX [] M4 N6 (j1 [] N6))))
 (j1 [] c0i))
noncomputable def c94 : Code := Tryd.f94.body.getD .skip
def h94 : Hint := (sQ (.cut [] (sQ (.block (sQ (.cond (.reg [(0, 1024, 1), (0, 2048, 1), (2, 4096, 2048), (4, 8192, 4096), (8, 16384, 8192), (0, 32768, 8), (32, 65536, 32768), (64, 131072, 65536), (128, 262144, 131072), (272, 524288, 278528), (1023, 1048576, 1024), (2047, 2097152, 1048576), (3071, 0, 2621440)] [80, 80, 80, 80, 64, 80, 16, 80, 16, 0, 80, 80, 0] (.early 0 (.early 1 (.early 2 (.early 3 (.early 5 (.load 4 (.load 6 (.early 7 (.step 8 (.step 9 (.early 10 (.early 11 (.step 12 .done)))))))))))))) (sQ (.cond (.reg [(0, 16777216, 1), (0, 33554432, 1), (2, 67108864, 33554432), (4, 134217728, 67108864), (8, 268435456, 134217728), (0, 536870912, 8), (32, 1073741824, 536870912), (64, 2147483648, 1073741824), (128, 4294967296, 2147483648), (272, 8589934592, 4563402752), (1023, 17179869184, 16777216), (2047, 34359738368, 17179869184), (3071, 0, 42949672960)] [80, 80, 80, 80, 64, 80, 16, 80, 16, 0, 80, 80, 0] (.early 0 (.early 1 (.early 2 (.early 3 (.early 5 (.load 4 (.load 6 (.early 7 (.step 8 (.step 9 (.early 10 (.early 11 (.step 12 .done)))))))))))))) .none)))))) (sQ (.block (.loop [39] (sQ (.seq (.cond .none .none) (.seq (.block (sQ .none)) .none))))))))
theorem f9c (x0 x1 : Value) (w : World) (R : RT) (E : Pan) : F94 x0 x1 w R E = callX Tryd.prog [] c94 h94 [x0, x1] w R E := by kernel_rfl
theorem f9d {x0 x1 : Value} (h : F94 x0 x1 w R E) : Cv Tryd.prog 94 #[x0, x1] w R E := by
 refine g8 (args := [x0, x1]) (c := c94) (h := h94) (rs := []) Tryd.func94 (by kernel_rfl) (by kernel_rfl) (nB (by kernel_rfl)) (by kernel_rfl) (by kernel_rfl) (by kernel_rfl) ?_
 rw [← f9c]
 exact h
end Go.Proofs.YtnhkdkcgdcgmdaaDoor
