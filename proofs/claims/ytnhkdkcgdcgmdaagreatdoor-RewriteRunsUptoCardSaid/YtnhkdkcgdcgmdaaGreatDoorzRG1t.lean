/- The second reading of some of the program's functions, printed by gen2.py off the code; each is held against the code by the kernel. -/
import Derived.Test.YtnhkdkcgdcgmdaaGreatDoorProg
import Derived.Test.YtnhkdkcgdcgmdaaGreatDoorzRK0
import Derived.KernelRfl
import Derived.Test.YtnhkdkcgdcgmdaaGreatDoorzRGz
namespace Go.Proofs.YtnhkdkcgdcgmdaaGreatDoor
open Go.RowKit
set_option maxRecDepth 100000
variable {w : World} {R : RT} {E : Pan}
def F3 (x0 x1 : Value) (w : World) (R : RT) (E : Pan) : Prop :=
 oP E (xV (Instr.box 25 x0)) w fun T1 w_2 =>
 oP E (xCall (fC 8) []) w_2 fun a0Q w_4 =>
 oP E (xV (Op.unary .not a0Q)) w_4 fun a2r w_6 =>
 xcond a2r
 (R (vB false) w_6)
 (oP E (lA 25 T1) w_6 fun a3k w_8 =>
 oP E (xCall (fC 9) [a3k, x1]) w_8 fun a5I q7 =>
 oP E (eX a5I 0) q7 fun a7E q9 =>
 oP E (eX a5I 1) q9 fun d1X p9 =>
 oP E (xV (Instr.alloc 25 true (.tuple #[]))) p9 fun b8g s6 =>
 oP E (sA 25 b8g a7E) s6 fun _z_17 u5 =>
 oP E (lA 25 T1) u5 fun a1O u9 =>
 oP E (xCall (fC 10) [a1O, x1]) u9 fun b6s y6 =>
 oP E (eX b6s 0) y6 fun c0m z6 =>
 oP E (eX b6s 1) z6 fun b1L A6 =>
 oP E (xV (Instr.alloc 25 true (.tuple #[]))) A6 fun c8C D8 =>
 oP E (sA 25 c8C c0m) D8 fun _z_29 K1 =>
 oP E (xBin .neq 3 (.tmp 23) (.tmp 24) d1X b1L) K1 fun a7T B7 =>
 xcond a7T
 (R (vB false) B7)
 (oP E (xBin .neq 3 (.tmp 26) (.const (vI 0)) b1L (vI 0)) B7 fun d1Y B3 =>
 xcond d1Y
 (oP E (fA 25 b8g 0) B3 fun d1Z J0 =>
 oP E (lA 22 d1Z) J0 fun d2a I0 =>
 oP E (xBuiltin .len #[22] 3 [false] [d2a]) I0 fun d2b G3 =>
 oP E (xBin .eql 3 (.tmp 30) (.const (vI 0)) d2b (vI 0)) G3 fun c0n G6 =>
 oP E (gsem (asB c0n) true (fA 25 b8g 1)) G6 fun d2c G4 =>
 oP E (gsem (asB c0n) true (lA 23 d2c)) G4 fun g3s O4 =>
 oP E (gsem (asB c0n) true (xBuiltin .len #[23] 3 [false] [g3s])) O4 fun g3t N8 =>
 oP E (gsem (asB c0n) true (xBin .eql 3 (.tmp 35) (.const (vI 0)) g3t (vI 0))) N8 fun g3u M9 =>
 oP E (xPick c0n g3u (vB false)) M9 fun c5d K6 =>
 R c5d K6)
 (oP E (lA 25 b8g) B3 fun g3v N7 =>
 oP E (lA 25 c8C) N7 fun g3w O3 =>
 oP E (xCall (fC 11) [g3v, g3w]) O3 fun d2d M8 =>
 R d2d M8)))
noncomputable def c3 : Code := Tryz.f3.body.getD .skip
def h3 : Hint := (sQ (.seq (sQ (.cond (sQ .none) .none)) (sQ (sQ (.seq (sQ (.cond (sQ .none) .none)) (.seq (sQ (.cond (sQ .none) .none)) (sQ .none)))))))
def F4 (x0 : Value) (w : World) (R : RT) (E : Pan) : Prop :=
 oP E (xV (Instr.box 25 x0)) w fun r5 w_2 =>
 oP E (xCall (fC 8) []) w_2 fun a9j w_4 =>
 oP E (xV (Op.unary .not a9j)) w_4 fun b5S w_6 =>
 xcond b5S
 (R (vB false) w_6)
 (oP E (lA 25 r5) w_6 fun b1E w_8 =>
 oP E (xCall (fC 12) [b1E]) w_8 fun b2K q7 =>
 oP E (eX b2K 0) q7 fun g3x q9 =>
 oP E (eX b2K 1) q9 fun c0o p9 =>
 oP E (xV (Instr.alloc 25 true (.tuple #[]))) p9 fun c8I s6 =>
 oP E (sA 25 c8I g3x) s6 fun _z_17 u5 =>
 oP E (lA 25 r5) u5 fun a0D u9 =>
 oP E (xCall (fC 13) [a0D]) u9 fun a0Y y6 =>
 oP E (eX a0Y 0) y6 fun a7C z6 =>
 oP E (eX a0Y 1) z6 fun a1M A6 =>
 oP E (xV (Instr.alloc 25 true (.tuple #[]))) A6 fun e9S D8 =>
 oP E (sA 25 e9S a7C) D8 fun _z_29 K1 =>
 oP E (xBin .neq 3 (.tmp 19) (.tmp 20) c0o a1M) K1 fun a8J B7 =>
 xcond a8J
 (R (vB false) B7)
 (oP E (xBin .neq 3 (.tmp 22) (.const (vI 0)) a1M (vI 0)) B7 fun b9C B3 =>
 xcond b9C
 (oP E (fA 25 c8I 0) B3 fun b3s J0 =>
 oP E (lA 22 b3s) J0 fun a0s I0 =>
 oP E (xBuiltin .len #[22] 3 [false] [a0s]) I0 fun c9Q G3 =>
 oP E (xBin .eql 3 (.tmp 26) (.const (vI 0)) c9Q (vI 0)) G3 fun b3t G6 =>
 oP E (gsem (asB b3t) true (fA 25 c8I 1)) G6 fun d2e G4 =>
 oP E (gsem (asB b3t) true (lA 23 d2e)) G4 fun d2f O4 =>
 oP E (gsem (asB b3t) true (xBuiltin .len #[23] 3 [false] [d2f])) O4 fun d2g N8 =>
 oP E (gsem (asB b3t) true (xBin .eql 3 (.tmp 31) (.const (vI 0)) d2g (vI 0))) N8 fun d2h M9 =>
 oP E (xPick b3t d2h (vB false)) M9 fun b9x K6 =>
 R b9x K6)
 (oP E (lA 25 c8I) B3 fun b0q N7 =>
 oP E (lA 25 e9S) N7 fun d0r O3 =>
 oP E (xCall (fC 11) [b0q, d0r]) O3 fun d2i M8 =>
 R d2i M8)))
noncomputable def c4 : Code := Tryz.f4.body.getD .skip
def h4 : Hint := (sQ (.seq (sQ (.cond (sQ .none) .none)) (sQ (sQ (.seq (sQ (.cond (sQ .none) .none)) (.seq (sQ (.cond (sQ .none) .none)) (sQ .none)))))))
def F8 (w : World) (R : RT) (E : Pan) : Prop :=
 oP E (xCall (fC 22) [(vI 1)]) w fun b9m w_2 =>
 oP E (xCall (fC 22) [(vI 2)]) w_2 fun a9j w_4 =>
 oP E (xV (Instr.buildSlice 51 2 #[(0, b9m), (1, a9j)])) w_4 fun b5S w_6 =>
 oP E (xV (Instr.build 53 #[(0, (vI 6)), (3, b5S)])) w_6 fun d1V w_8 =>
 oP E (xV (Instr.build 53 #[(0, (vI 2)), (2, (Value.string ⟨#[120]⟩))])) w_8 fun c5e q7 =>
 oP E (xV (Instr.buildSlice 51 2 #[(0, d1V), (1, c5e)])) q7 fun a7h q9 =>
 oP E (xV (Instr.build 53 #[(0, (vI 8)), (3, a7h)])) q9 fun b1M p9 =>
 oP E (xCall (fC 21) [b1M]) p9 fun a6e s6 =>
 oP E (eX a6e 0) s6 fun a7G u5 =>
 oP E (eX a6e 1) u5 fun a0D u9 =>
 oP E (xV (Instr.alloc 53 true (.tuple #[]))) u9 fun c5f y6 =>
 oP E (sA 53 c5f a7G) y6 fun _z_23 z6 =>
 oP E (xCall (fC 22) [(vI 1)]) z6 fun b9H A6 =>
 oP E (xCall (fC 22) [(vI 2)]) A6 fun d0O D8 =>
 oP E (xV (Instr.buildSlice 51 2 #[(0, b9H), (1, d0O)])) D8 fun d0P K1 =>
 oP E (xV (Instr.build 59 #[(0, (vI 3)), (1, (vI 1)), (2, d0P)])) K1 fun d0Q B7 =>
 oP E (xCall (fC 23) [d0Q]) B7 fun b6u B3 =>
 oP E (eX b6u 0) B3 fun b9I J0 =>
 oP E (eX b6u 1) J0 fun b9J I0 =>
 oP E (xV (Instr.alloc 59 true (.tuple #[]))) I0 fun e9T G3 =>
 oP E (sA 59 e9T b9I) G3 fun _z_41 G6 =>
 oP E (xBin .eql 27 (.tmp 24) (.const (vI 0)) a0D (vI 0)) G6 fun b9o G4 =>
 oP E (gsem (asB b9o) true (xBin .eql 27 (.tmp 27) (.const (vI 0)) (gval (asB b9o) true b9J) (vI 0))) G4 fun g3y O4 =>
 oP E (xPick b9o g3y (vB false)) O4 fun b6I N8 =>
 oP E (gsem (asB b6I) true (fA 53 c5f 0)) N8 fun g3z M9 =>
 oP E (gsem (asB b6I) true (lA 3 g3z)) M9 fun c9M K6 =>
 oP E (gsem (asB b6I) true (xBin .eql 3 (.tmp 32) (.const (vI 8)) c9M (vI 8))) K6 fun c9N N7 =>
 oP E (xPick b6I c9N (vB false)) N7 fun b3r O3 =>
 oP E (gsem (asB b3r) true (fA 53 c5f 3)) O3 fun d2i M8 =>
 oP E (gsem (asB b3r) true (lA 51 d2i)) M8 fun g3A Q4 =>
 oP E (gsem (asB b3r) true (xBuiltin .len #[51] 3 [false] [g3A])) Q4 fun g3B P6 =>
 oP E (gsem (asB b3r) true (xBin .eql 3 (.tmp 38) (.const (vI 2)) g3B (vI 2))) P6 fun g3C Q5 =>
 oP E (xPick b3r g3C (vB false)) Q5 fun b4g S6 =>
 oP E (gsem (asB b4g) true (fA 53 c5f 3)) S6 fun a8P Q8 =>
 oP E (gsem (asB b4g) true (lA 51 a8P)) Q8 fun g3D Q3 =>
 oP E (gsem (asB b4g) true (iA 51 g3D (vI 0))) Q3 fun g3E W6 =>
 oP E (gsem (asB b4g) true (fA 53 g3E 0)) W6 fun g3F Y7 =>
 oP E (gsem (asB b4g) true (lA 3 g3F)) Y7 fun d0S a0v =>
 oP E (gsem (asB b4g) true (xBin .eql 3 (.tmp 46) (.const (vI 1)) d0S (vI 1))) a0v fun g3G W7 =>
 oP E (xPick b4g g3G (vB false)) W7 fun b4h a0E =>
 oP E (gsem (asB b4h) true (fA 53 c5f 3)) a0E fun c0p V7 =>
 oP E (gsem (asB b4h) true (lA 51 c0p)) V7 fun d2j U9 =>
 oP E (gsem (asB b4h) true (iA 51 d2j (vI 0))) U9 fun g3H a0g =>
 oP E (gsem (asB b4h) true (fA 53 g3H 1)) a0g fun d0B V0 =>
 oP E (gsem (asB b4h) true (lA 2 d0B)) V0 fun d0C a2o =>
 oP E (gsem (asB b4h) true (xBin .eql 2 (.tmp 54) (.const (vI 3)) d0C (vI 3))) a2o fun d0D a4E =>
 oP E (xPick b4h d0D (vB false)) a4E fun c5g a0h =>
 oP E (gsem (asB c5g) true (fA 59 e9T 0)) a0h fun g3I a6d =>
 oP E (gsem (asB c5g) true (lA 3 g3I)) a6d fun g3J a7m =>
 oP E (gsem (asB c5g) true (xBin .eql 3 (.tmp 59) (.const (vI 1)) g3J (vI 1))) a7m fun g3K a1e =>
 oP E (xPick c5g g3K (vB false)) a1e fun f3H a0i =>
 R f3H a0i
noncomputable def c8 : Code := Tryz.f8.body.getD .skip
def h8 : Hint := (sQ (sQ (sQ (sQ .none))))
theorem h4L (w : World) (R : RT) (E : Pan) : F8  w R E = callX Tryz.prog [.tmp 0] c8 h8 [] w R E := by kernel_rfl
theorem h4M (h : F8  w R E) : Cv Tryz.prog 8 #[] w R E := by
 refine i6 (args := []) (c := c8) (h := h8) (rs := [.tmp 0]) Tryz.func8 (by kernel_rfl) (by kernel_rfl) (Nat.zero_le _) (by kernel_rfl) (by kernel_rfl) (by kernel_rfl) ?_
 rw [← h4L]
 exact h
def F9 (x0 x1 : Value) (w : World) (R : RT) (E : Pan) : Prop :=
 oP E (xV (Instr.box 25 x0)) w fun T1 w_2 =>
 oP E (xV (Instr.alloc 25 true (.tuple #[]))) w_2 fun a1t w_4 =>
 oP E (lA 25 T1) w_4 fun a5v w_6 =>
 oP E (xCall (fC 24) [a5v]) w_6 fun a4F w_8 =>
 oP E (xBin .neq 27 (.tmp 9) (.const (vI 0)) a4F (vI 0)) w_8 fun c5e q7 =>
 xcond c5e
 (oP E (xV (Instr.build 25 #[])) q7 fun a7h q9 =>
 oP E (sA 25 a1t a7h) q9 fun _z_13 p9 =>
 xcell Tryz.prog 25 a1t p9 fun b1h =>
 R (Value.tuple #[b1h, a4F]) p9)
 (oP E (xBin .lss 3 (.tmp 13) (.const (vI 0)) x1 (vI 0)) q7 fun d2k X8 =>
 oP E (gsem (asB d2k) false (xBin .gtr 3 (.tmp 16) (.const (vI 8)) (gval (asB d2k) false x1) (vI 8))) X8 fun g3L Y6 =>
 oP E (xPick d2k (vB true) g3L) Y6 fun g3M a0f =>
 xcond g3M
 (oP E (xV (Instr.build 25 #[])) a0f fun g3N a0R =>
 oP E (sA 25 a1t g3N) a0R fun _z_24 a7l =>
 xcell Tryz.prog 25 a1t a7l fun e6F =>
 R (Value.tuple #[e6F, (vI 290)]) a7l)
 (dX a0f fun Z6 =>
 qP Tryz.prog (fA 25 T1 0) fun d2l =>
 qP Tryz.prog (fA 25 T1 1) fun e2A =>
 qL Tryz.prog Z6 (blk d2l) (lA 22 d2l) fun g3O =>
 qL Tryz.prog Z6 (blk e2A) (lA 23 e2A) fun g3P =>
 oP E (xCall (fC 26) [g3P, x1]) Z6 fun g3Q a8G =>
 keepX [(blk d2l)] Z6 a8G (qP Tryz.prog (xV (Instr.build 25 #[(0, g3O), (1, g3Q)])) fun g3R =>
 oP E (xCall (fC 25) [g3R]) a8G fun c5h J0 =>
 keepX [] a8G J0 (qP Tryz.prog (eX c5h 0) fun b1U =>
 qP Tryz.prog (eX c5h 1) fun g3S =>
 oP E (sA 25 a1t b1U) J0 fun _z_39 G3 =>
 keepX [] J0 G3 (xcell Tryz.prog 25 a1t G3 fun h9B =>
 R (Value.tuple #[h9B, g3S]) G3)))))
noncomputable def c9 : Code := Tryz.f9.body.getD .skip
def h9 : Hint := (sQ (.seq (sQ (sQ (.cond (sQ .none) .none))) (.seq (sQ (.cond (sQ .none) .none)) (.seq (.reg [(0, 1048576, 4), (1, 2097152, 1048576), (0, 4194304, 4), (4, 8388608, 4194304), (0, 16777216, 2), (24, 33554432, 25165824), (34, 67108864, 35651584), (96, 134217728, 67108864), (128, 268435456, 134217728), (128, 536870912, 134217728), (1023, 0, 268435472), (2047, 32, 536870912)] [10, 8, 10, 2, 10, 2, 10, 0, 10, 10, 0, 10] (.early 0 (.early 2 (.early 4 (.load 1 (.load 3 (.step 5 (.early 6 (.step 7 (.early 8 (.early 9 (.step 10 (.early 11 .done))))))))))))) .none))))
def g3T (x4 x6 x8 : Value) (w : World) (R : RT) (E : Pan) : Prop :=
 ∀ _τ : Fr, (oP E (xBin .neq 3 (.tmp 48) (.const (vI 0)) x6 (vI 0)) w fun d2m G4 =>
 xcond d2m
 (oP E (xV (Instr.build 25 #[])) G4 fun g3U O4 =>
 oP E (sA 25 x4 g3U) O4 fun _z_47 N8 =>
 xcell Tryz.prog 25 x4 N8 fun h9C =>
 R (Value.tuple #[h9C, x6]) N8)
 (oP E (lA 25 x8) G4 fun g3V b5T =>
 oP E (sA 25 x4 g3V) b5T fun _z_52 d1G =>
 xcell Tryz.prog 25 x4 d1G fun h9D =>
 R (Value.tuple #[h9D, (vI 0)]) d1G))
def g3W (x4 x7 x8 : Value) (w : World) (R : RT) (E : Pan) : Prop :=
 ∀ _τ : Fr, (oP E (lA 25 x8) w fun a8Q G3 =>
 oP E (xCall (fC 27) [a8Q]) G3 fun b6J G6 =>
 xcut (fun g3X O3 => g3T x4 (nth g3X 0) x8 O3 R E) fun j2 =>
 oP E (xNil x7) G6 fun d2d M8 =>
 oP E (fA 67 d2d 1) M8 fun g3Y Q4 =>
 oP E (lA 3 g3Y) Q4 fun g3Z P6 =>
 oP E (xBin .lss 3 (.tmp 42) (.const (vI 0)) g3Z (vI 0)) P6 fun d2n Q5 =>
 oP E (gsem (asB d2n) true (xBin .eql 3 (.tmp 45) (.const (vI 0)) (gval (asB d2n) true b6J) (vI 0))) Q5 fun g4a S6 =>
 oP E (xPick d2n g4a (vB false)) S6 fun c9O Q8 =>
 xcond c9O
 (j2 [(vI 33)] Q8)
 (j2 [b6J] Q8))
def F10 (x0 x1 : Value) (w : World) (R : RT) (E : Pan) : Prop :=
 oP E (xV (Instr.box 25 x0)) w fun T1 w_2 =>
 oP E (xV (Instr.alloc 25 true (.tuple #[]))) w_2 fun a1t w_4 =>
 oP E (lA 25 T1) w_4 fun b9A w_6 =>
 oP E (xCall (fC 27) [b9A]) w_6 fun b1E w_8 =>
 oP E (xBin .neq 3 (.tmp 11) (.const (vI 0)) b1E (vI 0)) w_8 fun b1C q7 =>
 xcond b1C
 (oP E (xV (Instr.build 25 #[])) q7 fun d2o q9 =>
 oP E (sA 25 a1t d2o) q9 fun _z_13 p9 =>
 xcell Tryz.prog 25 a1t p9 fun b1h =>
 R (Value.tuple #[b1h, b1E]) p9)
 (oP E (xBin .lss 3 (.tmp 15) (.const (vI 0)) x1 (vI 0)) q7 fun b6K X8 =>
 oP E (gsem (asB b6K) false (xBin .gtr 3 (.tmp 18) (.const (vI 8)) (gval (asB b6K) false x1) (vI 8))) X8 fun g4b Y6 =>
 oP E (xPick b6K (vB true) g4b) Y6 fun g4c a0f =>
 xcond g4c
 (oP E (xV (Instr.build 25 #[])) a0f fun g4d a0R =>
 oP E (sA 25 a1t g4d) a0R fun _z_24 a7l =>
 xcell Tryz.prog 25 a1t a7l fun e6F =>
 R (Value.tuple #[e6F, (vI 290)]) a7l)
 (oP E (fA 25 T1 0) a0f fun b3Z D8 =>
 oP E (lA 22 b3Z) D8 fun c0q K1 =>
 oP E (xBuiltin .len #[22] 3 [false] [c0q]) K1 fun a7T B7 =>
 oP E (xBin .sub 3 (.const (vI 4096)) (.tmp 25) (vI 4096) a7T) B7 fun g4e B3 =>
 oP E (xV (Instr.build 67 #[(0, x1), (1, g4e)])) B3 fun c5h J0 =>
 oP E (xV (Instr.box 67 c5h)) J0 fun b1U I0 =>
 xcut (fun h9E Q3 => g3W a1t b1U (nth h9E 0) Q3 R E) fun j1 =>
 dX I0 fun b1i =>
 qP Tryz.prog (fA 25 T1 0) fun c0r =>
 qP Tryz.prog (fA 25 T1 1) fun b4i =>
 qL Tryz.prog b1i (blk c0r) (lA 22 c0r) fun e2B =>
 qL Tryz.prog b1i (blk b4i) (lA 23 b4i) fun d2p =>
 (oP E (xBuiltin .append #[22, 22] 22 [true, false] [(nS), e2B]) b1i fun e2C b0r =>
 keepX [(blk b4i)] b1i b0r ((oP E (xCall (fC 28) [b1U, d2p]) b0r fun g4f a7O =>
 keepX [] b0r a7O (qP Tryz.prog (xV (Instr.build 25 #[(0, e2C), (1, g4f)])) fun g4g =>
 oP E (xV (Instr.alloc 25 true (.tuple #[]))) a7O fun c8F V7 =>
 keepX [(blk b4i), (blk c0r)] a7O V7 (opK Tryz.prog E (sA 25 c8F g4g) V7 fun _z_83 U9 =>
 keepX [] V7 U9 (j1 [c8F] U9)))) ∧
 (oP E (xV (Instr.alloc 25 true (.tuple #[]))) b0r fun e9U a0g =>
 keepX [(blk b4i), (blk c0r)] b0r a0g (opK Tryz.prog E (xCall (fC 28) [b1U, d2p]) a0g fun g4h V0 =>
 keepX [] a0g V0 (qP Tryz.prog (xV (Instr.build 25 #[(0, e2C), (1, g4h)])) fun g4i =>
 oP E (sA 25 e9U g4i) V0 fun _z_90 b0s =>
 keepX [] V0 b0s (j1 [e9U] b0s)))))) ∧
 (oP E (xV (Instr.alloc 25 true (.tuple #[]))) b1i fun e9V c3u =>
 keepX [(blk b4i), (blk c0r)] b1i c3u (opK Tryz.prog E (xBuiltin .append #[22, 22] 22 [true, false] [(nS), e2B]) c3u fun g4j b0t =>
 keepX [(blk b4i)] c3u b0t (opK Tryz.prog E (xCall (fC 28) [b1U, d2p]) b0t fun g4k a7t =>
 keepX [] b0t a7t (qP Tryz.prog (xV (Instr.build 25 #[(0, g4j), (1, g4k)])) fun g4l =>
 oP E (sA 25 e9V g4l) a7t fun _z_99 a1e =>
 keepX [] a7t a1e (j1 [e9V] a1e)))))))
noncomputable def c10 : Code := Tryz.f10.body.getD .skip
def F12 (x0 : Value) (w : World) (R : RT) (E : Pan) : Prop :=
 oP E (xV (Instr.box 25 x0)) w fun r5 w_2 =>
 oP E (xV (Instr.alloc 25 true (.tuple #[]))) w_2 fun P9 w_4 =>
 oP E (lA 25 r5) w_4 fun a5v w_6 =>
 oP E (xCall (fC 25) [a5v]) w_6 fun a4F w_8 =>
 oP E (eX a4F 0) w_8 fun b2i q7 =>
 oP E (eX a4F 1) q7 fun a8I q9 =>
 oP E (xV (Instr.alloc 25 true (.tuple #[]))) q9 fun c8J p9 =>
 oP E (sA 25 c8J b2i) p9 fun _z_15 s6 =>
 oP E (xBin .neq 27 (.tmp 11) (.const (vI 0)) a8I (vI 0)) s6 fun c4w u5 =>
 xcond c4w
 (oP E (xV (Instr.build 25 #[])) u5 fun c4x u9 =>
 oP E (sA 25 P9 c4x) u9 fun _z_21 y6 =>
 xcell Tryz.prog 25 P9 y6 fun h9F =>
 R (Value.tuple #[h9F, a8I]) y6)
 (oP E (fA 25 c8J 1) u5 fun d2q a7l =>
 oP E (lA 23 d2q) a7l fun g4m Z6 =>
 oP E (xCall (fC 31) [g4m]) Z6 fun d0o a6o =>
 oP E (fA 25 c8J 1) a6o fun g4n a7u =>
 oP E (sA 23 g4n d0o) a7u fun _z_32 a8G =>
 oP E (lA 25 c8J) a8G fun g4o a6O =>
 oP E (sA 25 P9 g4o) a6O fun _z_36 b0n =>
 xcell Tryz.prog 25 P9 b0n fun h9G =>
 R (Value.tuple #[h9G, (vI 0)]) b0n)
noncomputable def c12 : Code := Tryz.f12.body.getD .skip
def h12 : Hint := (sQ (sQ (.seq (sQ (.cond (sQ .none) .none)) (sQ (sQ .none)))))
theorem g4p (x0 : Value) (w : World) (R : RT) (E : Pan) : F12 x0 w R E = callX Tryz.prog [.cell 2 25, .tmp 3] c12 h12 [x0] w R E := by kernel_rfl
theorem g4q {x0 : Value} (h : F12 x0 w R E) : Cv Tryz.prog 12 #[x0] w R E := by
 refine i6 (args := [x0]) (c := c12) (h := h12) (rs := [.cell 2 25, .tmp 3]) Tryz.func12 (by kernel_rfl) (by kernel_rfl) (nB (by kernel_rfl)) (by kernel_rfl) (by kernel_rfl) (by kernel_rfl) ?_
 rw [← g4p]
 exact h
def F21 (x0 : Value) (w : World) (R : RT) (E : Pan) : Prop :=
 oP E (xV (Instr.box 53 x0)) w fun r5 w_2 =>
 oP E (xV (Instr.alloc 53 true (.tuple #[]))) w_2 fun P9 w_4 =>
 oP E (lA 53 r5) w_4 fun b3x w_6 =>
 oP E (xCall (fC 39) [b3x]) w_6 fun a6f w_8 =>
 oP E (xBin .neq 27 (.tmp 7) (.const (vI 0)) a6f (vI 0)) w_8 fun a5t q7 =>
 xcond a5t
 (oP E (xV (Instr.build 53 #[])) q7 fun a5J q9 =>
 oP E (sA 53 P9 a5J) q9 fun _z_13 p9 =>
 xcell Tryz.prog 53 P9 p9 fun b1h =>
 R (Value.tuple #[b1h, a6f]) p9)
 (oP E (lA 53 r5) q7 fun b3v X8 =>
 oP E (xCall (fC 40) [b3v]) X8 fun d2r Y6 =>
 oP E (sA 53 P9 d2r) Y6 fun _z_20 a0f =>
 xcell Tryz.prog 53 P9 a0f fun e6G =>
 R (Value.tuple #[e6G, (vI 0)]) a0f)
noncomputable def c21 : Code := Tryz.f21.body.getD .skip
def h21 : Hint := (sQ (.seq (sQ (sQ (.cond (sQ .none) .none))) (sQ .none)))
theorem g4r (x0 : Value) (w : World) (R : RT) (E : Pan) : F21 x0 w R E = callX Tryz.prog [.cell 2 53, .tmp 3] c21 h21 [x0] w R E := by kernel_rfl
theorem g4s {x0 : Value} (h : F21 x0 w R E) : Cv Tryz.prog 21 #[x0] w R E := by
 refine i6 (args := [x0]) (c := c21) (h := h21) (rs := [.cell 2 53, .tmp 3]) Tryz.func21 (by kernel_rfl) (by kernel_rfl) (nB (by kernel_rfl)) (by kernel_rfl) (by kernel_rfl) (by kernel_rfl) ?_
 rw [← g4r]
 exact h
def F22 (x0 : Value) (w : World) (R : RT) (E : Pan) : Prop :=
 oP E (xV (Instr.alloc 53 true (.tuple #[]))) w fun T1 w_2 =>
 oP E (xV (Instr.build 53 #[(0, (vI 1)), (1, x0)])) w_2 fun a1t w_4 =>
 oP E (sA 53 T1 a1t) w_4 fun _z_5 w_6 =>
 xcell Tryz.prog 53 T1 w_6 fun r_7 =>
 R r_7 w_6
noncomputable def c22 : Code := Tryz.f22.body.getD .skip
def h22 : Hint := (sQ (sQ .none))
theorem g4t (x0 : Value) (w : World) (R : RT) (E : Pan) : F22 x0 w R E = callX Tryz.prog [.cell 2 53] c22 h22 [x0] w R E := by kernel_rfl
theorem g4u {x0 : Value} (h : F22 x0 w R E) : Cv Tryz.prog 22 #[x0] w R E := by
 refine i6 (args := [x0]) (c := c22) (h := h22) (rs := [.cell 2 53]) Tryz.func22 (by kernel_rfl) (by kernel_rfl) (nB (by kernel_rfl)) (by kernel_rfl) (by kernel_rfl) (by kernel_rfl) ?_
 rw [← g4t]
 exact h
def F23 (x0 : Value) (w : World) (R : RT) (E : Pan) : Prop :=
 oP E (xV (Instr.box 59 x0)) w fun r5 w_2 =>
 oP E (xV (Instr.alloc 59 true (.tuple #[]))) w_2 fun P9 w_4 =>
 oP E (lA 59 r5) w_4 fun b3x w_6 =>
 oP E (xCall (fC 41) [b3x]) w_6 fun a6f w_8 =>
 oP E (xBin .neq 27 (.tmp 7) (.const (vI 0)) a6f (vI 0)) w_8 fun a5t q7 =>
 xcond a5t
 (oP E (xV (Instr.build 59 #[])) q7 fun a5J q9 =>
 oP E (sA 59 P9 a5J) q9 fun _z_13 p9 =>
 xcell Tryz.prog 59 P9 p9 fun b1h =>
 R (Value.tuple #[b1h, a6f]) p9)
 (oP E (lA 59 r5) q7 fun b3v X8 =>
 oP E (xCall (fC 42) [b3v]) X8 fun d2r Y6 =>
 oP E (sA 59 P9 d2r) Y6 fun _z_20 a0f =>
 xcell Tryz.prog 59 P9 a0f fun e6G =>
 R (Value.tuple #[e6G, (vI 0)]) a0f)
noncomputable def c23 : Code := Tryz.f23.body.getD .skip
def h23 : Hint := (sQ (.seq (sQ (sQ (.cond (sQ .none) .none))) (sQ .none)))
theorem g4v (x0 : Value) (w : World) (R : RT) (E : Pan) : F23 x0 w R E = callX Tryz.prog [.cell 2 59, .tmp 3] c23 h23 [x0] w R E := by kernel_rfl
theorem g4w {x0 : Value} (h : F23 x0 w R E) : Cv Tryz.prog 23 #[x0] w R E := by
 refine i6 (args := [x0]) (c := c23) (h := h23) (rs := [.cell 2 59, .tmp 3]) Tryz.func23 (by kernel_rfl) (by kernel_rfl) (nB (by kernel_rfl)) (by kernel_rfl) (by kernel_rfl) (by kernel_rfl) ?_
 rw [← g4v]
 exact h
def d2s (x3 : Value) (w : World) (R : RT) (_E : Pan) : Prop :=
 ∀ _τ : Fr, (R x3 w)
def e2D (x3 x6 x7 x8 : Value) (w : World) (next2 : NT) (j1 : NT) (_R : RT) (E : Pan) : Prop :=
 oP E (xBin .lss 3 (.tmp 8) (.tmp 7) x8 x7) w fun b9A w_6 =>
 xcond b9A
 (oP E (iA 23 x6 x8) w_6 fun b1E w_8 =>
 oP E (lA 73 b1E) w_8 fun b2K q7 =>
 oP E (xV (Instr.alloc 73 true (.tuple #[]))) q7 fun e9W q9 =>
 oP E (sA 73 e9W b2K) q9 fun _z_13 p9 =>
 oP E (lA 73 e9W) p9 fun a6e s6 =>
 oP E (xCall (fC 54) [a6e]) s6 fun a7G u5 =>
 oP E (xBuiltin .append #[23, 23] 23 [false, false] [x3, a7G]) u5 fun a0D u9 =>
 oP E (xBin .add 3 (.tmp 8) (.const (vI 1)) x8 (vI 1)) u9 fun a0Y y6 =>
 next2 [a0D, a0Y] y6)
 (j1 [x3] w_6)
def F31 (x0 : Value) (w : World) (R : RT) (E : Pan) : Prop :=
 xcut (fun l_1 w_2 => d2s (nth l_1 0) w_2 R E) fun j1 =>
 oP E (xBuiltin .len #[23] 3 [false] [x0]) w fun a9j w_4 =>
 xloop [3, 8] [(nS), (vI 0)] w_4 fun τ_23 z6 next2 =>
 e2D (τ_23 3) x0 a9j (τ_23 8) z6 next2 j1 R E
noncomputable def c31 : Code := Tryz.f31.body.getD .skip
def h31 : Hint := (sQ (sQ (.cut [3] (sQ (.block (.loop [3, 8] (sQ (.seq (.cond .none .none) (.seq (.block (sQ .none)) .none)))))) (sQ .none))))
theorem g4x (x0 : Value) (w : World) (R : RT) (E : Pan) : F31 x0 w R E = callX Tryz.prog [.tmp 2] c31 h31 [x0] w R E := by kernel_rfl
theorem g4y {x0 : Value} (h : F31 x0 w R E) : Cv Tryz.prog 31 #[x0] w R E := by
 refine i6 (args := [x0]) (c := c31) (h := h31) (rs := [.tmp 2]) Tryz.func31 (by kernel_rfl) (by kernel_rfl) (nB (by kernel_rfl)) (by kernel_rfl) (by kernel_rfl) (by kernel_rfl) ?_
 rw [← g4x]
 exact h
def d2t (x1 x2 : Value) (w : World) (R : RT) (E : Pan) : Prop :=
 ∀ _τ : Fr, (oP E (lA 53 x1) w fun g4z G6 =>
 oP E (sA 53 x2 g4z) G6 fun _z_43 G4 =>
 xcell Tryz.prog 53 x2 G4 fun h9H =>
 R h9H G4)
def d2u (x1 x2 : Value) (w : World) (j1 : NT) (R : RT) (E : Pan) : Prop :=
 ∀ _τ : Fr, (oP E (fA 53 x1 3) w fun g4A d1G =>
 oP E (lA 51 g4A) d1G fun g4B b0U =>
 oP E (iA 51 g4B (vI 1)) b0U fun g4C b7V =>
 oP E (lA 53 g4C) b7V fun g4D a9h =>
 oP E (xCall (fC 70) [g4D, (vI 1)]) a9h fun g4E c2O =>
 xcond g4E
 (oP E (fA 53 x1 3) c2O fun g4F d2v =>
 oP E (lA 51 g4F) d2v fun g4G b5B =>
 oP E (iA 51 g4G (vI 0)) b5B fun g4H b2m =>
 oP E (lA 53 g4H) b2m fun g4I e6H =>
 oP E (sA 53 x2 g4I) e6H fun _z_70 b1i =>
 xcell Tryz.prog 53 x2 b1i fun h9I =>
 R h9I b1i)
 (j1 [] c2O))
def d2w (x1 x2 x7 : Value) (w : World) (j1 : NT) (R : RT) (E : Pan) : Prop :=
 ∀ _τ : Fr, (oP E (fA 53 x1 3) w fun d2x a0v =>
 oP E (lA 51 d2x) a0v fun b1P W7 =>
 oP E (iA 51 b1P (vI 1)) W7 fun d2y a0E =>
 oP E (lA 53 d2y) a0E fun c0p V7 =>
 oP E (xCall (fC 70) [c0p, x7]) V7 fun d0T U9 =>
 xcond d0T
 (oP E (fA 53 x1 3) U9 fun d0U a0g =>
 oP E (lA 51 d0U) a0g fun g4J V0 =>
 oP E (iA 51 g4J (vI 0)) V0 fun g4K a2o =>
 oP E (lA 53 g4K) a2o fun g4L a4E =>
 oP E (sA 53 x2 g4L) a4E fun _z_93 a0h =>
 xcell Tryz.prog 53 x2 a0h fun h9J =>
 R h9J a0h)
 (j1 [] U9))
def F40 (x0 : Value) (w : World) (R : RT) (E : Pan) : Prop :=
 oP E (xV (Instr.box 53 x0)) w fun r5 w_2 =>
 oP E (xV (Instr.alloc 53 true (.tuple #[]))) w_2 fun P9 w_4 =>
 oP E (fA 53 r5 3) w_4 fun b5S w_6 =>
 oP E (lA 51 b5S) w_6 fun d1V w_8 =>
 oP E (xCall (fC 66) [d1V, (fC 40)]) w_8 fun c5e q7 =>
 oP E (fA 53 r5 3) q7 fun a7h q9 =>
 oP E (sA 51 a7h c5e) q9 fun _z_13 p9 =>
 oP E (lA 53 r5) p9 fun a6e s6 =>
 oP E (xCall (fC 67) [a6e]) s6 fun a7G u5 =>
 oP E (eX a7G 0) u5 fun a0D u9 =>
 oP E (eX a7G 1) u9 fun a0Y y6 =>
 xcond a0Y
 (oP E (xCall (fC 68) [a0D]) y6 fun d2z z6 =>
 oP E (sA 53 P9 d2z) z6 fun _z_25 A6 =>
 xcell Tryz.prog 53 P9 A6 fun h9K =>
 R h9K A6)
 (oP E (lA 53 r5) y6 fun g4M a6o =>
 oP E (xCall (fC 69) [g4M]) a6o fun e2E a7u =>
 oP E (eX e2E 0) a7u fun g4N a8G =>
 oP E (eX e2E 1) a8G fun g4O a6O =>
 xcond g4O
 (oP E (xCall (fC 68) [g4N]) a6O fun g4P b0n =>
 oP E (sA 53 P9 g4P) b0n fun _z_38 b9Q =>
 xcell Tryz.prog 53 P9 b9Q fun h9L =>
 R h9L b9Q)
 (xcut (fun _ b9w => d2t r5 P9 b9w R E) fun j1 =>
 oP E (fA 53 r5 0) a6O fun g4Q b0L =>
 oP E (lA 3 g4Q) b0L fun c5i b5T =>
 xcut (fun _ Y7 => d2u r5 P9 Y7 j1 R E) fun j2 =>
 xcut (fun _ a7t => d2w r5 P9 (vI 0) a7t j1 R E) fun j3 =>
 oP E (xBin .eql 3 (.tmp 29) (.const (vI 6)) c5i (vI 6)) b5T fun g4R b8h =>
 xcond g4R
 (oP E (fA 53 r5 3) b8h fun f3I b8i =>
 oP E (lA 51 f3I) b8i fun f3J a9c =>
 oP E (iA 51 f3J (vI 0)) a9c fun f3K b5f =>
 oP E (lA 53 f3K) b5f fun f3L e9X =>
 oP E (xCall (fC 70) [f3L, (vI 0)]) e9X fun f3M c1x =>
 xcond f3M
 (oP E (fA 53 r5 3) c1x fun f3N d8M =>
 oP E (lA 51 f3N) d8M fun f3O d8N =>
 oP E (iA 51 f3O (vI 1)) d8N fun f3P c5j =>
 oP E (lA 53 f3P) c5j fun f3Q d8O =>
 oP E (sA 53 P9 f3Q) d8O fun _z_118 c5k =>
 xcell Tryz.prog 53 P9 c5k fun h4N =>
 R h4N c5k)
 (j3 [] c1x))
 (oP E (xBin .eql 3 (.tmp 29) (.const (vI 7)) c5i (vI 7)) b8h fun f3R a6C =>
 xcond f3R
 (j3 [] a6C)
 (oP E (xBin .eql 3 (.tmp 29) (.const (vI 8)) c5i (vI 8)) a6C fun f3S a8j =>
 xcond f3S
 (oP E (fA 53 r5 3) a8j fun f3T a8Y =>
 oP E (lA 51 f3T) a8Y fun f3U b0e =>
 oP E (iA 51 f3U (vI 0)) b0e fun f3V a7x =>
 oP E (lA 53 f3V) a7x fun f3W a5f =>
 oP E (xCall (fC 70) [f3W, (vI 1)]) a5f fun b1j a5g =>
 oP E (gsem (asB b1j) true (fA 53 r5 3)) a5g fun f3X a8i =>
 oP E (gsem (asB b1j) true (lA 51 f3X)) a8i fun f3Y b0d =>
 oP E (gsem (asB b1j) true (iA 51 f3Y (vI 1))) b0d fun f3Z b1A =>
 oP E (gsem (asB b1j) true (lA 53 f3Z)) b1A fun f4a b2C =>
 oP E (gsem (asB b1j) true (xCall (fC 70) [f4a, (vI 1)])) b2C fun f4b b2D =>
 oP E (gsem (asB b1j) true (xV (Op.unary .not f4b))) b2D fun f4c b1B =>
 oP E (xPick b1j f4c (vB false)) b1B fun f4d b7z =>
 xcond f4d
 (oP E (fA 53 r5 3) b7z fun f4e c4E =>
 oP E (lA 51 f4e) c4E fun f4f c4F =>
 oP E (iA 51 f4f (vI 1)) c4F fun f4g c4I =>
 oP E (lA 53 f4g) c4I fun f4h c1j =>
 oP E (sA 53 P9 f4h) c1j fun _z_157 b7A =>
 xcell Tryz.prog 53 P9 b7A fun h4O =>
 R h4O b7A)
 (j2 [] b7z))
 (oP E (xBin .eql 3 (.tmp 29) (.const (vI 9)) c5i (vI 9)) a8j fun f4i c5l =>
 xcond f4i
 (j2 [] c5l)
 (j1 [] c5l))))))
noncomputable def c40 : Code := Tryz.f40.body.getD .skip
def h40 : Hint := (sQ (sQ (.seq (sQ (sQ (.cond (sQ .none) .none))) (.seq (sQ (sQ (.cond (sQ .none) .none))) (sQ (.cut [] (sQ (.block (.cut [] (.block (.seq (.block (.cut [] (.block (.seq (.block (.seq (.seq (sQ (.cond .none .none)) (.seq (sQ (.cond .none .none)) (.seq (sQ (.cond .none .none)) (sQ (.cond .none .none))))) .none)) (sQ (.cond (sQ .none) .none)))) (.seq (sQ (.cond (sQ .none) .none)) .none))) (sQ (.cond (sQ .none) .none)))) (.seq (sQ (.cond (sQ .none) .none)) .none)))) (sQ .none)))))))
theorem g4S (x0 : Value) (w : World) (R : RT) (E : Pan) : F40 x0 w R E = callX Tryz.prog [.cell 2 53] c40 h40 [x0] w R E := by kernel_rfl
theorem g4T {x0 : Value} (h : F40 x0 w R E) : Cv Tryz.prog 40 #[x0] w R E := by
 refine i6 (args := [x0]) (c := c40) (h := h40) (rs := [.cell 2 53]) Tryz.func40 (by kernel_rfl) (by kernel_rfl) (nB (by kernel_rfl)) (by kernel_rfl) (by kernel_rfl) (by kernel_rfl) ?_
 rw [← g4S]
 exact h
def d2A (x1 x2 : Value) (w : World) (R : RT) (E : Pan) : Prop :=
 ∀ _τ : Fr, (oP E (lA 59 x1) w fun g4U a0f =>
 oP E (sA 59 x2 g4U) a0f fun _z_22 a0R =>
 xcell Tryz.prog 59 x2 a0R fun e6I =>
 R e6I a0R)
def F42 (x0 : Value) (w : World) (R : RT) (E : Pan) : Prop :=
 oP E (xV (Instr.box 59 x0)) w fun r5 w_2 =>
 oP E (xV (Instr.alloc 59 true (.tuple #[]))) w_2 fun P9 w_4 =>
 dX w_4 fun w_5 =>
 qP Tryz.prog (fA 59 r5 2) fun g4V =>
 qP Tryz.prog (fA 59 r5 3) fun b0c =>
 qL Tryz.prog w_5 (blk g4V) (lA 51 g4V) fun h9M =>
 qL Tryz.prog w_5 (blk b0c) (lA 57 b0c) fun b1C =>
 oP E (xCall (fC 66) [h9M, (fC 40)]) w_5 fun c0s R1 =>
 keepX [(blk b0c)] w_5 R1 (qP Tryz.prog (fA 59 r5 2) fun g4W =>
 oP E (xCall (fC 71) [b1C, (fC 42)]) R1 fun c0o p9 =>
 keepX [] R1 p9 (opK Tryz.prog E (sA 51 g4W c0s) p9 fun _z_15 s6 =>
 keepX [] p9 s6 (qP Tryz.prog (fA 59 r5 3) fun d2B =>
 oP E (sA 57 d2B c0o) s6 fun _z_18 Y6 =>
 keepX [] s6 Y6 (xcut (fun _ A6 => d2A r5 P9 A6 R E) fun j1 =>
 oP E (fA 59 r5 0) Y6 fun g4X D8 =>
 oP E (lA 3 g4X) D8 fun c5m K1 =>
 oP E (xBin .eql 3 (.tmp 17) (.const (vI 3)) c5m (vI 3)) K1 fun c9V B7 =>
 xcond c9V
 (oP E (fA 59 r5 2) B7 fun b6u B3 =>
 oP E (lA 51 b6u) B3 fun b9I J0 =>
 oP E (iA 51 b9I (vI 0)) J0 fun b9J I0 =>
 oP E (lA 53 b9J) I0 fun d0R G3 =>
 oP E (xCall (fC 67) [d0R]) G3 fun e2F G6 =>
 oP E (eX e2F 0) G6 fun g4Y G4 =>
 oP E (eX e2F 1) G4 fun e2G O4 =>
 oP E (fA 59 r5 2) O4 fun b6I N8 =>
 oP E (lA 51 b6I) N8 fun g4Z M9 =>
 oP E (iA 51 g4Z (vI 1)) M9 fun g5a K6 =>
 oP E (lA 53 g5a) K6 fun g5b N7 =>
 oP E (xCall (fC 67) [g5b]) N7 fun e2H O3 =>
 oP E (eX e2H 0) O3 fun g5c M8 =>
 oP E (eX e2H 1) M8 fun g5d Q4 =>
 oP E (xPick e2G (gval (asB e2G) true g5d) (vB false)) Q4 fun d2C P6 =>
 xcond d2C
 (oP E (fA 59 r5 1) P6 fun d2D Q5 =>
 oP E (lA 3 d2D) Q5 fun d2E S6 =>
 oP E (xCall (fC 73) [d2E, g4Y, g5c]) S6 fun b9E Q8 =>
 oP E (xCall (fC 72) [b9E]) Q8 fun g5e Q3 =>
 oP E (sA 59 P9 g5e) Q3 fun _z_71 W6 =>
 xcell Tryz.prog 59 P9 W6 fun h9N =>
 R h9N W6)
 (j1 [] P6))
 (oP E (xBin .eql 3 (.tmp 17) (.const (vI 4)) c5m (vI 4)) B7 fun g5f c7c =>
 xcond g5f
 (oP E (fA 59 r5 3) c7c fun g5g b0r =>
 oP E (lA 57 g5g) b0r fun g5h a7O =>
 oP E (iA 57 g5h (vI 0)) a7O fun g5i c7d =>
 oP E (fA 59 g5i 0) c7d fun g5j c7e =>
 oP E (lA 3 g5j) c7e fun d2F d8P =>
 oP E (xBin .eql 3 (.tmp 53) (.const (vI 1)) d2F (vI 1)) d8P fun d2G d8Q =>
 oP E (gsem (asB d2G) false (xBin .eql 3 (.tmp 56) (.const (vI 2)) (gval (asB d2G) false d2F) (vI 2))) d8Q fun g5k c0t =>
 oP E (xPick d2G (vB true) g5k) c0t fun g5l b0s =>
 xcond g5l
 (oP E (xBin .eql 3 (.tmp 59) (.const (vI 2)) d2F (vI 2)) b0s fun g5m c3u =>
 oP E (xCall (fC 72) [g5m]) c3u fun g5n b0t =>
 oP E (sA 59 P9 g5n) b0t fun _z_96 a7t =>
 xcell Tryz.prog 59 P9 a7t fun h9O =>
 R h9O a7t)
 (j1 [] b0s))
 (oP E (xBin .eql 3 (.tmp 17) (.const (vI 5)) c5m (vI 5)) c7c fun g5o a1e =>
 xcond g5o
 (oP E (lA 59 r5) a1e fun f4j a0i =>
 oP E (xCall (fC 74) [f4j, (vI 1), (vI 2)]) a0i fun f4k a0J =>
 oP E (sA 59 P9 f4k) a0J fun _z_105 a3H =>
 xcell Tryz.prog 59 P9 a3H fun h4P =>
 R h4P a3H)
 (oP E (xBin .eql 3 (.tmp 17) (.const (vI 6)) c5m (vI 6)) a1e fun f4l c1x =>
 xcond f4l
 (oP E (lA 59 r5) c1x fun f4m d8M =>
 oP E (xCall (fC 74) [f4m, (vI 2), (vI 1)]) d8M fun f4n d8N =>
 oP E (sA 59 P9 f4n) d8N fun _z_114 c5j =>
 xcell Tryz.prog 59 P9 c5j fun h4Q =>
 R h4Q c5j)
 (j1 [] c1x))))))))
noncomputable def c42 : Code := Tryz.f42.body.getD .skip
def h42 : Hint := (sQ (.seq (.reg [(0, 256, 2), (1, 512, 256), (2, 1024, 512), (0, 2048, 2), (8, 4096, 2048), (20, 8192, 4096), (31, 16384, 2), (127, 0, 17408), (255, 32768, 2), (511, 0, 40960)] [18, 16, 16, 18, 2, 0, 18, 0, 18, 0] (.early 0 (.early 3 (.load 1 (.load 4 (.step 2 (.early 6 (.step 5 (.step 7 (.early 8 (.step 9 .done))))))))))) (.cut [] (sQ (.block (sQ (.cond (sQ (sQ (sQ (.cond (sQ .none) .none)))) (sQ (.cond (sQ (sQ (.cond (sQ .none) .none))) (sQ (.cond (sQ .none) (sQ (.cond (sQ .none) .none)))))))))) (sQ .none))))
theorem g5p (x0 : Value) (w : World) (R : RT) (E : Pan) : F42 x0 w R E = callX Tryz.prog [.cell 2 59] c42 h42 [x0] w R E := by kernel_rfl
theorem g5q {x0 : Value} (h : F42 x0 w R E) : Cv Tryz.prog 42 #[x0] w R E := by
 refine i6 (args := [x0]) (c := c42) (h := h42) (rs := [.cell 2 59]) Tryz.func42 (by kernel_rfl) (by kernel_rfl) (nB (by kernel_rfl)) (by kernel_rfl) (by kernel_rfl) (by kernel_rfl) ?_
 rw [← g5p]
 exact h
def d2H (x1 x3 x21 : Value) (w : World) (R : RT) (E : Pan) : Prop :=
 ∀ _τ : Fr, (xcond x21
 (R (nS) w)
 (oP E (fA 73 x1 0) w fun g5r J0 =>
 oP E (lA 3 g5r) J0 fun b4j I0 =>
 oP E (xBin .eql 3 (.tmp 41) (.const (vI 3)) b4j (vI 3)) I0 fun d2I G3 =>
 oP E (gsem (asB d2I) true (xCall (gval (asB d2I) true x3) [(vI 1)])) G3 fun g5s G6 =>
 oP E (xPick d2I g5s (vB false)) G6 fun g5t G4 =>
 xcond g5t
 (oP E (fA 73 x1 4) G4 fun g5u O4 =>
 oP E (lA 23 g5u) O4 fun g5v N8 =>
 R g5v N8)
 (oP E (fA 73 x1 0) G4 fun g5w M9 =>
 oP E (lA 3 g5w) M9 fun g5x K6 =>
 oP E (xBin .eql 3 (.tmp 51) (.const (vI 3)) g5x (vI 3)) K6 fun d2J N7 =>
 oP E (gsem (asB d2J) true (xCall (gval (asB d2J) true x3) [(vI 2)])) N7 fun g5y O3 =>
 oP E (xPick d2J g5y (vB false)) O3 fun g5z M8 =>
 xcond g5z
 (oP E (fA 73 x1 5) M8 fun g5A Q4 =>
 oP E (lA 23 g5A) Q4 fun g5B P6 =>
 R g5B P6)
 (oP E (lA 73 x1) M8 fun g5C Q5 =>
 oP E (xV (Instr.buildSlice 23 1 #[(0, g5C)])) Q5 fun g5D S6 =>
 R g5D S6))))
def F54 (x0 : Value) (w : World) (R : RT) (E : Pan) : Prop :=
 oP E (xV (Instr.box 73 x0)) w fun r5 w_2 =>
 dX w_2 fun w_3 =>
 qP Tryz.prog (fA 73 r5 3) fun g5E =>
 qP Tryz.prog (fA 73 r5 2) fun a5v =>
 qL Tryz.prog w_3 (blk g5E) (lA 57 g5E) fun h9P =>
 qL Tryz.prog w_3 (blk a5v) (lA 51 a5v) fun a4F =>
 oP E (xCall (fC 71) [h9P, (fC 42)]) w_3 fun h9Q w_9 =>
 keepX [(blk a5v)] w_3 w_9 (qP Tryz.prog (fA 73 r5 3) fun c0s =>
 oP E (xCall (fC 66) [a4F, (fC 40)]) w_9 fun a5J q9 =>
 keepX [] w_9 q9 (opK Tryz.prog E (sA 57 c0s h9Q) q9 fun _z_13 p9 =>
 keepX [] q9 p9 (qP Tryz.prog (fA 73 r5 2) fun c4v =>
 oP E (sA 51 c4v a5J) p9 fun _z_16 X8 =>
 keepX [] p9 X8 (dX X8 fun u5 =>
 qP Tryz.prog (fA 73 r5 4) fun b1O =>
 qP Tryz.prog (fA 73 r5 5) fun c0u =>
 qL Tryz.prog u5 (blk b1O) (lA 23 b1O) fun d2K =>
 qL Tryz.prog u5 (blk c0u) (lA 23 c0u) fun g5F =>
 oP E (xCall (fC 31) [d2K]) u5 fun c9T z6 =>
 keepX [(blk c0u)] u5 z6 (qP Tryz.prog (fA 73 r5 4) fun a1M =>
 oP E (xCall (fC 31) [g5F]) z6 fun g5G Z6 =>
 keepX [] z6 Z6 (opK Tryz.prog E (sA 23 a1M c9T) Z6 fun _z_28 a6o =>
 keepX [] Z6 a6o (qP Tryz.prog (fA 73 r5 5) fun g5H =>
 oP E (sA 23 g5H g5G) a6o fun _z_31 B7 =>
 keepX [] a6o B7 (opK Tryz.prog E (xV (Instr.makeFunc (.func 93) #[] #[r5])) B7 fun b9n B3 =>
 xcut (fun e6J Q8 => d2H r5 b9n (nth e6J 0) Q8 R E) fun j1 =>
 oP E (fA 73 r5 0) B3 fun g5I Q3 =>
 oP E (lA 3 g5I) Q3 fun g5J W6 =>
 oP E (xBin .eql 3 (.tmp 23) (.const (vI 7)) g5J (vI 7)) W6 fun e2I Y7 =>
 xcond e2I
 (j1 [e2I] Y7)
 (oP E (fA 73 r5 0) Y7 fun g5K a0v =>
 oP E (lA 3 g5K) a0v fun g5L W7 =>
 oP E (xBin .eql 3 (.tmp 26) (.const (vI 6)) g5L (vI 6)) W7 fun d2L a0E =>
 oP E (gsem (asB d2L) true (xCall (gval (asB d2L) true b9n) [(vI 1)])) a0E fun g5M V7 =>
 oP E (xPick d2L g5M (vB false)) V7 fun e2J U9 =>
 xcond e2J
 (j1 [e2J] U9)
 (oP E (fA 73 r5 0) U9 fun g5N a0g =>
 oP E (lA 3 g5N) a0g fun g5O V0 =>
 oP E (xBin .eql 3 (.tmp 33) (.const (vI 4)) g5O (vI 4)) V0 fun d2M a2o =>
 oP E (gsem (asB d2M) true (xCall (gval (asB d2M) true b9n) [(vI 2)])) a2o fun g5P a4E =>
 oP E (xPick d2M g5P (vB false)) a4E fun g5Q a0h =>
 j1 [g5Q] a0h))))))))))
noncomputable def c54 : Code := Tryz.f54.body.getD .skip
def h54 : Hint := (sQ (.seq (.reg [(0, 16, 2), (1, 32, 16), (2, 64, 32), (0, 128, 2), (8, 256, 128), (20, 512, 256), (31, 1024, 2), (127, 0, 1088), (255, 2048, 2), (511, 0, 2560)] [18, 16, 16, 18, 2, 0, 18, 0, 18, 0] (.early 0 (.early 3 (.load 1 (.load 4 (.step 2 (.early 6 (.step 5 (.step 7 (.early 8 (.step 9 .done))))))))))) (.seq (.reg [(0, 4096, 2), (1, 8192, 4096), (2, 16384, 8192), (0, 32768, 2), (8, 65536, 32768), (20, 131072, 65536), (31, 262144, 2), (127, 0, 278528), (255, 524288, 2), (511, 0, 655360)] [18, 16, 16, 18, 2, 0, 18, 0, 18, 0] (.early 0 (.early 3 (.load 1 (.load 4 (.step 2 (.early 6 (.step 5 (.step 7 (.early 8 (.step 9 .done))))))))))) (sQ (.seq (.block (.cut [21] (sQ (.cond .none (sQ (.cond .none .none)))) (.cond (sQ .none) (sQ (.cond (sQ .none) (sQ (.cond (sQ .none) .none))))))) (sQ .none))))))
theorem g5R (x0 : Value) (w : World) (R : RT) (E : Pan) : F54 x0 w R E = callX Tryz.prog [.tmp 2] c54 h54 [x0] w R E := by kernel_rfl
theorem g5S {x0 : Value} (h : F54 x0 w R E) : Cv Tryz.prog 54 #[x0] w R E := by
 refine i6 (args := [x0]) (c := c54) (h := h54) (rs := [.tmp 2]) Tryz.func54 (by kernel_rfl) (by kernel_rfl) (nB (by kernel_rfl)) (by kernel_rfl) (by kernel_rfl) (by kernel_rfl) ?_
 rw [← g5R]
 exact h
def d2N (x5 : Value) (w : World) (R : RT) (_E : Pan) : Prop :=
 ∀ _τ : Fr, (R x5 w)
def e2K (x1 x5 x8 x9 x10 : Value) (w : World) (next2 : NT) (j1 : NT) (_R : RT) (E : Pan) : Prop :=
 oP E (xBin .lss 3 (.tmp 10) (.tmp 9) x10 x9) w fun a5e w_6 =>
 xcond a5e
 (oP E (iA 51 x8 x10) w_6 fun a3k w_8 =>
 oP E (lA 53 a3k) w_8 fun a3l q7 =>
 oP E (xV (Instr.alloc 53 true (.tuple #[]))) q7 fun U6 q9 =>
 oP E (sA 53 U6 a3l) q9 fun _z_13 p9 =>
 oP E (lA 53 U6) p9 fun a3C s6 =>
 oP E (xCall x1 [a3C]) s6 fun a1N u5 =>
 oP E (xV (Instr.buildSlice 51 1 #[(0, a1N)])) u5 fun a1O u9 =>
 oP E (xBuiltin .append #[51, 51] 51 [false, false] [x5, a1O]) u9 fun a1P y6 =>
 oP E (xBin .add 3 (.tmp 10) (.const (vI 1)) x10 (vI 1)) y6 fun a1Q z6 =>
 next2 [a1P, a1Q] z6)
 (j1 [x5] w_6)
def F66 (x0 x1 : Value) (w : World) (R : RT) (E : Pan) : Prop :=
 xcut (fun l_1 w_2 => d2N (nth l_1 0) w_2 R E) fun j1 =>
 oP E (xBuiltin .len #[51] 3 [false] [x0]) w fun a0Q w_4 =>
 xloop [5, 10] [(nS), (vI 0)] w_4 fun τ_25 A6 next2 =>
 e2K x1 (τ_25 5) x0 a0Q (τ_25 10) A6 next2 j1 R E
noncomputable def c66 : Code := Tryz.f66.body.getD .skip
def h66 : Hint := (sQ (sQ (.cut [5] (sQ (.block (.loop [5, 10] (sQ (.seq (.cond .none .none) (.seq (.block (sQ .none)) .none)))))) (sQ .none))))
theorem g5T (x0 x1 : Value) (w : World) (R : RT) (E : Pan) : F66 x0 x1 w R E = callX Tryz.prog [.tmp 4] c66 h66 [x0, x1] w R E := by kernel_rfl
theorem g5U {x0 x1 : Value} (h : F66 x0 x1 w R E) : Cv Tryz.prog 66 #[x0, x1] w R E := by
 refine i6 (args := [x0, x1]) (c := c66) (h := h66) (rs := [.tmp 4]) Tryz.func66 (by kernel_rfl) (by kernel_rfl) (nB (by kernel_rfl)) (by kernel_rfl) (by kernel_rfl) (by kernel_rfl) ?_
 rw [← g5T]
 exact h
def F67 (x0 : Value) (w : World) (R : RT) (E : Pan) : Prop :=
 oP E (xV (Instr.box 53 x0)) w fun r5 w_2 =>
 oP E (fA 53 r5 0) w_2 fun b2h w_4 =>
 oP E (lA 3 b2h) w_4 fun a8B w_6 =>
 oP E (xBin .eql 3 (.tmp 6) (.const (vI 1)) a8B (vI 1)) w_6 fun a5s w_8 =>
 xcond a5s
 (oP E (fA 53 r5 1) w_8 fun a5t q7 =>
 oP E (lA 2 a5t) q7 fun a5J q9 =>
 R (Value.tuple #[a5J, (vB true)]) q9)
 (oP E (fA 53 r5 0) w_8 fun a4d p9 =>
 oP E (lA 3 a4d) p9 fun a9Y s6 =>
 oP E (xBin .eql 3 (.tmp 12) (.const (vI 5)) a9Y (vI 5)) s6 fun T9 u5 =>
 oP E (gsem (asB T9) true (fA 53 r5 3)) u5 fun a0D u9 =>
 oP E (gsem (asB T9) true (lA 51 a0D)) u9 fun a0Y y6 =>
 oP E (gsem (asB T9) true (iA 51 a0Y (vI 0))) y6 fun a7C z6 =>
 oP E (gsem (asB T9) true (fA 53 a7C 0)) z6 fun a1M A6 =>
 oP E (gsem (asB T9) true (lA 3 a1M)) A6 fun a7D D8 =>
 oP E (gsem (asB T9) true (xBin .eql 3 (.tmp 19) (.const (vI 1)) a7D (vI 1))) D8 fun b9l K1 =>
 oP E (xPick T9 b9l (vB false)) K1 fun a8J B7 =>
 xcond a8J
 (oP E (fA 53 r5 3) B7 fun a6a B3 =>
 oP E (lA 51 a6a) B3 fun d2O J0 =>
 oP E (iA 51 d2O (vI 0)) J0 fun d2P I0 =>
 oP E (fA 53 d2P 1) I0 fun d2Q G3 =>
 oP E (lA 2 d2Q) G3 fun d2R G6 =>
 oP E (xV (Op.unary .neg d2R)) G6 fun d2S G4 =>
 R (Value.tuple #[d2S, (vB true)]) G4)
 (R (Value.tuple #[(vI 0), (vB false)]) B7))
noncomputable def c67 : Code := Tryz.f67.body.getD .skip
def h67 : Hint := (sQ (.seq (.block (sQ (.cond (sQ .none) (sQ (.cond (sQ .none) .none))))) (sQ .none)))
theorem g5V (x0 : Value) (w : World) (R : RT) (E : Pan) : F67 x0 w R E = callX Tryz.prog [.tmp 2, .tmp 3] c67 h67 [x0] w R E := by kernel_rfl
theorem g5W {x0 : Value} (h : F67 x0 w R E) : Cv Tryz.prog 67 #[x0] w R E := by
 refine i6 (args := [x0]) (c := c67) (h := h67) (rs := [.tmp 2, .tmp 3]) Tryz.func67 (by kernel_rfl) (by kernel_rfl) (nB (by kernel_rfl)) (by kernel_rfl) (by kernel_rfl) (by kernel_rfl) ?_
 rw [← g5V]
 exact h
def F68 (x0 : Value) (w : World) (R : RT) (E : Pan) : Prop :=
 oP E (xV (Instr.alloc 53 true (.tuple #[]))) w fun T1 w_2 =>
 oP E (xBin .lss 2 (.tmp 3) (.const (vI 0)) x0 (vI 0)) w_2 fun a1t w_4 =>
 xcond a1t
 (oP E (xV (Op.unary .neg x0)) w_4 fun a8B w_6 =>
 oP E (xV (Instr.build 53 #[(0, (vI 1)), (1, a8B)])) w_6 fun a5s w_8 =>
 oP E (xV (Instr.buildSlice 51 1 #[(0, a5s)])) w_8 fun a5t q7 =>
 oP E (xV (Instr.build 53 #[(0, (vI 5)), (3, a5t)])) q7 fun a5J q9 =>
 oP E (sA 53 T1 a5J) q9 fun _z_13 p9 =>
 xcell Tryz.prog 53 T1 p9 fun b1h =>
 R b1h p9)
 (oP E (xV (Instr.build 53 #[(0, (vI 1)), (1, x0)])) w_4 fun b3v X8 =>
 oP E (sA 53 T1 b3v) X8 fun _z_18 Y6 =>
 xcell Tryz.prog 53 T1 Y6 fun e6K =>
 R e6K Y6)
noncomputable def c68 : Code := Tryz.f68.body.getD .skip
def h68 : Hint := (sQ (.seq (sQ (.cond (sQ .none) .none)) (sQ .none)))
theorem g5X (x0 : Value) (w : World) (R : RT) (E : Pan) : F68 x0 w R E = callX Tryz.prog [.cell 2 53] c68 h68 [x0] w R E := by kernel_rfl
theorem g5Y {x0 : Value} (h : F68 x0 w R E) : Cv Tryz.prog 68 #[x0] w R E := by
 refine i6 (args := [x0]) (c := c68) (h := h68) (rs := [.cell 2 53]) Tryz.func68 (by kernel_rfl) (by kernel_rfl) (nB (by kernel_rfl)) (by kernel_rfl) (by kernel_rfl) (by kernel_rfl) ?_
 rw [← g5X]
 exact h
def d2T (x9 x10 : Value) (w : World) (R : RT) (E : Pan) : Prop :=
 ∀ _τ : Fr, (oP E (xBin .eql 3 (.tmp 91) (.const (vI 0)) x10 (vI 0)) w fun d8R w_6 =>
 oP E (gsem (asB d8R) true (xBin .neq 2 (.tmp 94) (.const (vI (-9223372036854775808))) (gval (asB d8R) true x9) (vI (-9223372036854775808)))) w_6 fun h4R w_8 =>
 oP E (xPick d8R h4R (vB false)) w_8 fun h4S q7 =>
 R (Value.tuple #[x9, h4S]) q7)
def d2U (x1 x4 : Value) (w : World) (R : RT) (E : Pan) : Prop :=
 ∀ _τ : Fr, (xcut (fun d7o q9 => d2T (nth d7o 0) (nth d7o.tail 0) q9 R E) fun j2 =>
 oP E (fA 53 x1 0) w fun g5Z p9 =>
 oP E (lA 3 g5Z) p9 fun b1K s6 =>
 oP E (xBin .eql 3 (.tmp 31) (.const (vI 5)) b1K (vI 5)) s6 fun d1U u5 =>
 xcond d1U
 (oP E (iA 173 x4 (vI 0)) u5 fun g6a u9 =>
 oP E (lA 2 g6a) u9 fun g6b y6 =>
 oP E (xCall (fC 112) [g6b]) y6 fun e2L z6 =>
 oP E (eX e2L 0) z6 fun g6c A6 =>
 oP E (eX e2L 1) A6 fun g6d D8 =>
 j2 [g6c, g6d] D8)
 (oP E (xBin .eql 3 (.tmp 31) (.const (vI 6)) b1K (vI 6)) u5 fun g6e K1 =>
 xcond g6e
 (oP E (iA 173 x4 (vI 0)) K1 fun g6f B7 =>
 oP E (lA 2 g6f) B7 fun g6g B3 =>
 oP E (iA 173 x4 (vI 1)) B3 fun g6h J0 =>
 oP E (lA 2 g6h) J0 fun g6i I0 =>
 oP E (xCall (fC 113) [g6g, g6i]) I0 fun e2M G3 =>
 oP E (eX e2M 0) G3 fun g6j G6 =>
 oP E (eX e2M 1) G6 fun d2m G4 =>
 j2 [g6j, d2m] G4)
 (oP E (xBin .eql 3 (.tmp 31) (.const (vI 7)) b1K (vI 7)) K1 fun g6k O4 =>
 xcond g6k
 (oP E (iA 173 x4 (vI 0)) O4 fun g6l N8 =>
 oP E (lA 2 g6l) N8 fun g6m M9 =>
 oP E (iA 173 x4 (vI 1)) M9 fun g6n K6 =>
 oP E (lA 2 g6n) K6 fun g6o N7 =>
 oP E (xCall (fC 114) [g6m, g6o]) N7 fun e2N O3 =>
 oP E (eX e2N 0) O3 fun g6p M8 =>
 oP E (eX e2N 1) M8 fun g6q Q4 =>
 j2 [g6p, g6q] Q4)
 (oP E (xBin .eql 3 (.tmp 31) (.const (vI 8)) b1K (vI 8)) O4 fun g6r P6 =>
 xcond g6r
 (oP E (iA 173 x4 (vI 0)) P6 fun g6s Q5 =>
 oP E (lA 2 g6s) Q5 fun g6t S6 =>
 oP E (iA 173 x4 (vI 1)) S6 fun g6u Q8 =>
 oP E (lA 2 g6u) Q8 fun g6v Q3 =>
 oP E (xCall (fC 115) [g6t, g6v]) Q3 fun e2O W6 =>
 oP E (eX e2O 0) W6 fun g6w Y7 =>
 oP E (eX e2O 1) Y7 fun g6x a0v =>
 j2 [g6w, g6x] a0v)
 (oP E (xBin .eql 3 (.tmp 31) (.const (vI 9)) b1K (vI 9)) P6 fun g6y W7 =>
 xcond g6y
 (oP E (iA 173 x4 (vI 0)) W7 fun g6z a0E =>
 oP E (lA 2 g6z) a0E fun g6A V7 =>
 oP E (iA 173 x4 (vI 1)) V7 fun g6B U9 =>
 oP E (lA 2 g6B) U9 fun g6C a0g =>
 oP E (xCall (fC 116) [g6A, g6C]) a0g fun e2P V0 =>
 oP E (eX e2P 0) V0 fun g6D a2o =>
 oP E (eX e2P 1) a2o fun g6E a4E =>
 j2 [g6D, g6E] a4E)
 (oP E (xBin .eql 3 (.tmp 31) (.const (vI 10)) b1K (vI 10)) W7 fun g6F a0h =>
 xcond g6F
 (oP E (iA 173 x4 (vI 0)) a0h fun g6G a6d =>
 oP E (lA 2 g6G) a6d fun g6H a7m =>
 oP E (iA 173 x4 (vI 1)) a7m fun g6I a1e =>
 oP E (lA 2 g6I) a1e fun f4o a0i =>
 oP E (xCall (fC 117) [g6H, f4o]) a0i fun d6a a0J =>
 oP E (eX d6a 0) a0J fun f4p a3H =>
 oP E (eX d6a 1) a3H fun f4q a6B =>
 j2 [f4p, f4q] a6B)
 (j2 [(vI 0), (vI 2)] a0h)))))))
def e2Q (_x1 x4 x12 x13 x14 : Value) (w : World) (next3 : NT) (j1 : NT) (R : RT) (E : Pan) : Prop :=
 oP E (xBin .lss 3 (.tmp 14) (.tmp 13) x14 x13) w fun f4r a7w =>
 xcond f4r
 (oP E (iA 51 x12 x14) a7w fun f4s a0K =>
 oP E (lA 53 f4s) a0K fun f4t a6C =>
 oP E (xV (Instr.alloc 53 true (.tuple #[]))) a6C fun e2R a8j =>
 oP E (sA 53 e2R f4t) a8j fun _z_125 a8Y =>
 oP E (lA 53 e2R) a8Y fun f4u b0e =>
 oP E (xCall (fC 67) [f4u]) b0e fun d6b a7x =>
 oP E (eX d6b 0) a7x fun f4v a5f =>
 oP E (eX d6b 1) a5f fun f4w a5g =>
 oP E (xV (Op.unary .not f4w)) a5g fun f4x a8i =>
 xcond f4x
 (R (Value.tuple #[(vI 0), (vB false)]) a8i)
 (oP E (iA 173 x4 x14) a8i fun f4y b0d =>
 oP E (sA 2 f4y f4v) b0d fun _z_139 b1A =>
 oP E (xBin .add 3 (.tmp 14) (.const (vI 1)) x14 (vI 1)) b1A fun f4z b2C =>
 next3 [f4z] b2C))
 (j1 [] a7w)
def F69 (x0 : Value) (w : World) (R : RT) (E : Pan) : Prop :=
 oP E (xV (Instr.box 53 x0)) w fun r5 w_2 =>
 oP E (xV (Instr.alloc 173 true (.tuple #[]))) w_2 fun a1t w_4 =>
 xcut (fun _ a8X => d2U r5 a1t a8X R E) fun j1 =>
 oP E (fA 53 r5 3) w_4 fun f4A a7v =>
 oP E (lA 51 f4A) a7v fun d6c a1f =>
 oP E (xBuiltin .len #[51] 3 [false] [d6c]) a1f fun f4B a3m =>
 xloop [14] [(vI 0)] a3m fun τ_143 b2D next3 =>
 e2Q r5 a1t d6c f4B (τ_143 14) b2D next3 j1 R E
noncomputable def c69 : Code := Tryz.f69.body.getD .skip
def h69 : Hint := (sQ (sQ (.cut [] (sQ (.block (.loop [14] (sQ (.seq (.cond .none .none) (.seq (.block (sQ (sQ (.seq (sQ (.cond (sQ .none) .none)) .none)))) .none)))))) (sQ (.cut [9, 10] (sQ (.block (sQ (.cond .none (sQ (.cond .none (sQ (.cond .none (sQ (.cond .none (sQ (.cond .none (sQ (.cond .none .none)))))))))))))) (sQ .none))))))
theorem g6J (x0 : Value) (w : World) (R : RT) (E : Pan) : F69 x0 w R E = callX Tryz.prog [.tmp 2, .tmp 3] c69 h69 [x0] w R E := by kernel_rfl
theorem g6K {x0 : Value} (h : F69 x0 w R E) : Cv Tryz.prog 69 #[x0] w R E := by
 refine i6 (args := [x0]) (c := c69) (h := h69) (rs := [.tmp 2, .tmp 3]) Tryz.func69 (by kernel_rfl) (by kernel_rfl) (nB (by kernel_rfl)) (by kernel_rfl) (by kernel_rfl) (by kernel_rfl) ?_
 rw [← g6J]
 exact h
def F70 (x0 x1 : Value) (w : World) (R : RT) (E : Pan) : Prop :=
 oP E (xV (Instr.box 53 x0)) w fun T1 w_2 =>
 oP E (lA 53 T1) w_2 fun b9z w_4 =>
 oP E (xCall (fC 67) [b9z]) w_4 fun b9A w_6 =>
 oP E (eX b9A 0) w_6 fun b1E w_8 =>
 oP E (eX b9A 1) w_8 fun b2K q7 =>
 oP E (gsem (asB b2K) true (xBin .eql 2 (.tmp 14) (.tmp 15) (gval (asB b2K) true b1E) (gval (asB b2K) true x1))) q7 fun a7F q9 =>
 oP E (xPick b2K a7F (vB false)) q9 fun g6L p9 =>
 R g6L p9
noncomputable def c70 : Code := Tryz.f70.body.getD .skip
def h70 : Hint := (sQ (sQ (sQ .none)))
theorem g6M (x0 x1 : Value) (w : World) (R : RT) (E : Pan) : F70 x0 x1 w R E = callX Tryz.prog [.tmp 4] c70 h70 [x0, x1] w R E := by kernel_rfl
theorem g6N {x0 x1 : Value} (h : F70 x0 x1 w R E) : Cv Tryz.prog 70 #[x0, x1] w R E := by
 refine i6 (args := [x0, x1]) (c := c70) (h := h70) (rs := [.tmp 4]) Tryz.func70 (by kernel_rfl) (by kernel_rfl) (nB (by kernel_rfl)) (by kernel_rfl) (by kernel_rfl) (by kernel_rfl) ?_
 rw [← g6M]
 exact h
def d2V (x5 : Value) (w : World) (R : RT) (_E : Pan) : Prop :=
 ∀ _τ : Fr, (R x5 w)
def e2S (x1 x5 x8 x9 x10 : Value) (w : World) (next2 : NT) (j1 : NT) (_R : RT) (E : Pan) : Prop :=
 oP E (xBin .lss 3 (.tmp 10) (.tmp 9) x10 x9) w fun a5e w_6 =>
 xcond a5e
 (oP E (iA 57 x8 x10) w_6 fun a3k w_8 =>
 oP E (lA 59 a3k) w_8 fun a3l q7 =>
 oP E (xV (Instr.alloc 59 true (.tuple #[]))) q7 fun U6 q9 =>
 oP E (sA 59 U6 a3l) q9 fun _z_13 p9 =>
 oP E (lA 59 U6) p9 fun a3C s6 =>
 oP E (xCall x1 [a3C]) s6 fun a1N u5 =>
 oP E (xV (Instr.buildSlice 57 1 #[(0, a1N)])) u5 fun a1O u9 =>
 oP E (xBuiltin .append #[57, 57] 57 [false, false] [x5, a1O]) u9 fun a1P y6 =>
 oP E (xBin .add 3 (.tmp 10) (.const (vI 1)) x10 (vI 1)) y6 fun a1Q z6 =>
 next2 [a1P, a1Q] z6)
 (j1 [x5] w_6)
def F71 (x0 x1 : Value) (w : World) (R : RT) (E : Pan) : Prop :=
 xcut (fun l_1 w_2 => d2V (nth l_1 0) w_2 R E) fun j1 =>
 oP E (xBuiltin .len #[57] 3 [false] [x0]) w fun a0Q w_4 =>
 xloop [5, 10] [(nS), (vI 0)] w_4 fun τ_25 A6 next2 =>
 e2S x1 (τ_25 5) x0 a0Q (τ_25 10) A6 next2 j1 R E
noncomputable def c71 : Code := Tryz.f71.body.getD .skip
def h71 : Hint := (sQ (sQ (.cut [5] (sQ (.block (.loop [5, 10] (sQ (.seq (.cond .none .none) (.seq (.block (sQ .none)) .none)))))) (sQ .none))))
theorem g6O (x0 x1 : Value) (w : World) (R : RT) (E : Pan) : F71 x0 x1 w R E = callX Tryz.prog [.tmp 4] c71 h71 [x0, x1] w R E := by kernel_rfl
theorem g6P {x0 x1 : Value} (h : F71 x0 x1 w R E) : Cv Tryz.prog 71 #[x0, x1] w R E := by
 refine i6 (args := [x0, x1]) (c := c71) (h := h71) (rs := [.tmp 4]) Tryz.func71 (by kernel_rfl) (by kernel_rfl) (nB (by kernel_rfl)) (by kernel_rfl) (by kernel_rfl) (by kernel_rfl) ?_
 rw [← g6O]
 exact h
def F72 (x0 : Value) (w : World) (R : RT) (E : Pan) : Prop :=
 oP E (xV (Instr.alloc 59 true (.tuple #[]))) w fun T1 w_2 =>
 xcond x0
 (oP E (xV (Instr.build 59 #[(0, (vI 1))])) w_2 fun a1t w_4 =>
 oP E (sA 59 T1 a1t) w_4 fun _z_5 w_6 =>
 xcell Tryz.prog 59 T1 w_6 fun r_7 =>
 R r_7 w_6)
 (oP E (xV (Instr.build 59 #[(0, (vI 2))])) w_2 fun c9R w_9 =>
 oP E (sA 59 T1 c9R) w_9 fun _z_10 R1 =>
 xcell Tryz.prog 59 T1 R1 fun h9R =>
 R h9R R1)
noncomputable def c72 : Code := Tryz.f72.body.getD .skip
def h72 : Hint := (sQ (.seq (sQ (.cond (sQ .none) .none)) (sQ .none)))
theorem g6Q (x0 : Value) (w : World) (R : RT) (E : Pan) : F72 x0 w R E = callX Tryz.prog [.cell 2 59] c72 h72 [x0] w R E := by kernel_rfl
theorem g6R {x0 : Value} (h : F72 x0 w R E) : Cv Tryz.prog 72 #[x0] w R E := by
 refine i6 (args := [x0]) (c := c72) (h := h72) (rs := [.cell 2 59]) Tryz.func72 (by kernel_rfl) (by kernel_rfl) (nB (by kernel_rfl)) (by kernel_rfl) (by kernel_rfl) (by kernel_rfl) ?_
 rw [← g6Q]
 exact h
def d2W (x3 x6 x7 x23 : Value) (w : World) (R : RT) (E : Pan) : Prop :=
 ∀ _τ : Fr, (xcond x23
 (oP E (lA 59 x7) w fun g6S X8 =>
 oP E (sA 59 x6 g6S) X8 fun _z_18 Y6 =>
 xcell Tryz.prog 59 x6 Y6 fun e6K =>
 R e6K Y6)
 (oP E (lA 59 x3) w fun g6T y6 =>
 oP E (sA 59 x6 g6T) y6 fun _z_23 z6 =>
 xcell Tryz.prog 59 x6 z6 fun h9S =>
 R h9S z6))
def d2X (x1 x2 x3 x6 x7 x8 : Value) (w : World) (R : RT) (E : Pan) : Prop :=
 ∀ _τ : Fr, (oP E (fA 59 x7 0) w fun c5n w_6 =>
 oP E (lA 3 c5n) w_6 fun c8K w_8 =>
 oP E (xBin .eql 3 (.tmp 19) (.tmp 20) c8K x1) w_8 fun h4T q7 =>
 xcond h4T
 (oP E (lA 59 x8) q7 fun g6U q9 =>
 oP E (sA 59 x6 g6U) q9 fun _z_13 p9 =>
 xcell Tryz.prog 59 x6 p9 fun b1h =>
 R b1h p9)
 (xcut (fun d0Z Z6 => d2W x3 x6 x7 (nth d0Z 0) Z6 R E) fun j2 =>
 oP E (fA 59 x7 0) q7 fun g6V a6o =>
 oP E (lA 3 g6V) a6o fun g6W a7u =>
 oP E (xBin .eql 3 (.tmp 25) (.tmp 26) g6W x2) a7u fun e2T a8G =>
 xcond e2T
 (j2 [e2T] a8G)
 (oP E (fA 59 x8 0) a8G fun g6X a6O =>
 oP E (lA 3 g6X) a6O fun g6Y b0n =>
 oP E (xBin .eql 3 (.tmp 29) (.tmp 30) g6Y x1) b0n fun g6Z b9Q =>
 j2 [g6Z] b9Q)))
def F74 (x0 x1 x2 : Value) (w : World) (R : RT) (E : Pan) : Prop :=
 oP E (xV (Instr.box 59 x0)) w fun M5 w_2 =>
 oP E (xV (Instr.alloc 59 true (.tuple #[]))) w_2 fun a7n w_4 =>
 xcut (fun d8S b7y => d2X x1 x2 M5 a7n (nth d8S 0) (nth d8S.tail 0) b7y R E) fun j1 =>
 dX w_4 fun G6 =>
 qP Tryz.prog (fA 59 M5 3) fun b2L =>
 qP Tryz.prog (fA 59 M5 3) fun b1V =>
 qL Tryz.prog G6 (blk b2L) (lA 57 b2L) fun g7a =>
 qP Tryz.prog (iA 57 g7a (vI 0)) fun b6L =>
 qL Tryz.prog G6 (blk b6L) (lA 59 b6L) fun e2U =>
 qL Tryz.prog G6 (blk b1V) (lA 57 b1V) fun g7b =>
 qP Tryz.prog (iA 57 g7b (vI 1)) fun b1W =>
 qL Tryz.prog G6 (blk b1W) (lA 59 b1W) fun e2V =>
 (oP E (xV (Instr.alloc 59 true (.tuple #[]))) G6 fun c8L K6 =>
 keepX [(blk b1W), (blk b1V), (blk b6L), (blk b2L)] G6 K6 (opK Tryz.prog E (xV (Instr.alloc 59 true (.tuple #[]))) K6 fun c8M N7 =>
 keepX [(blk b1W), (blk b1V), (blk b6L), (blk b2L)] K6 N7 (opK Tryz.prog E (sA 59 c8L e2U) N7 fun _z_55 O3 =>
 keepX [(blk b1W), (blk b1V)] N7 O3 (opK Tryz.prog E (sA 59 c8M e2V) O3 fun _z_57 M8 =>
 keepX [] O3 M8 (j1 [c8L, c8M] M8))))) ∧
 (oP E (xV (Instr.alloc 59 true (.tuple #[]))) G6 fun e9Y Q4 =>
 keepX [(blk b1W), (blk b1V), (blk b6L), (blk b2L)] G6 Q4 (opK Tryz.prog E (xV (Instr.alloc 59 true (.tuple #[]))) Q4 fun e9Z P6 =>
 keepX [(blk b1W), (blk b1V), (blk b6L), (blk b2L)] Q4 P6 (opK Tryz.prog E (sA 59 e9Z e2U) P6 fun _z_63 Q5 =>
 keepX [(blk b1W), (blk b1V)] P6 Q5 (opK Tryz.prog E (sA 59 e9Y e2V) Q5 fun _z_65 S6 =>
 keepX [] Q5 S6 (j1 [e9Z, e9Y] S6)))))
noncomputable def c74 : Code := Tryz.f74.body.getD .skip
def h74 : Hint := (sQ (.cut [7, 8] (.reg [(0, 512, 8), (1, 1024, 512), (2, 2048, 1024), (4, 4096, 2048), (0, 8192, 8), (16, 16384, 8192), (32, 32768, 16384), (64, 65536, 32768), (0, 128, 0), (0, 256, 0), (783, 0, 4224), (2047, 0, 65792)] [170, 168, 170, 162, 170, 138, 170, 42, 170, 170, 160, 0] (.early 0 (.early 4 (.load 1 (.early 2 (.load 3 (.load 5 (.early 6 (.load 7 (.alt 8 (.step 9 (.step 10 (.step 11 .done))) (.step 9 (.step 8 (.step 10 (.step 11 .done)))))))))))))) (.seq (.block (sQ (.cond (sQ .none) (.cut [23] (sQ (.cond .none .none)) (.cond (sQ .none) .none))))) (sQ .none))))
theorem g7c (x0 x1 x2 : Value) (w : World) (R : RT) (E : Pan) : F74 x0 x1 x2 w R E = callX Tryz.prog [.cell 6 59] c74 h74 [x0, x1, x2] w R E := by kernel_rfl
theorem g7d {x0 x1 x2 : Value} (h : F74 x0 x1 x2 w R E) : Cv Tryz.prog 74 #[x0, x1, x2] w R E := by
 refine i6 (args := [x0, x1, x2]) (c := c74) (h := h74) (rs := [.cell 6 59]) Tryz.func74 (by kernel_rfl) (by kernel_rfl) (nB (by kernel_rfl)) (by kernel_rfl) (by kernel_rfl) (by kernel_rfl) ?_
 rw [← g7c]
 exact h
def F93 (x0 x1 : Value) (w : World) (R : RT) (E : Pan) : Prop :=
 oP E (fA 73 x1 3) w fun b5y w_2 =>
 oP E (lA 57 b5y) w_2 fun b2h w_4 =>
 oP E (xBuiltin .len #[57] 3 [false] [b2h]) w_4 fun a8B w_6 =>
 oP E (xBin .gtr 3 (.tmp 6) (.const (vI 0)) a8B (vI 0)) w_6 fun a5s w_8 =>
 oP E (gsem (asB a5s) true (fA 73 x1 3)) w_8 fun b2i q7 =>
 oP E (gsem (asB a5s) true (lA 57 b2i)) q7 fun a8I q9 =>
 oP E (gsem (asB a5s) true (iA 57 a8I (vI 0))) q9 fun a4d p9 =>
 oP E (gsem (asB a5s) true (fA 59 a4d 0)) p9 fun a9Y s6 =>
 oP E (gsem (asB a5s) true (lA 3 a9Y)) s6 fun T9 u5 =>
 oP E (gsem (asB a5s) true (xBin .eql 3 (.tmp 13) (.tmp 14) T9 (gval (asB a5s) true x0))) u5 fun a0D u9 =>
 oP E (xPick a5s a0D (vB false)) u9 fun a0Y y6 =>
 R a0Y y6
noncomputable def c93 : Code := Tryz.f93.body.getD .skip
def h93 : Hint := (sQ (sQ .none))
theorem g7e (x0 x1 : Value) (w : World) (R : RT) (E : Pan) : F93 x0 x1 w R E = callX Tryz.prog [.tmp 3] c93 h93 [x0, x1] w R E := by kernel_rfl
theorem g7f {x0 x1 : Value} (h : F93 x0 x1 w R E) : Cv Tryz.prog 93 #[x0, x1] w R E := by
 refine i6 (args := [x0, x1]) (c := c93) (h := h93) (rs := [.tmp 3]) Tryz.func93 (by kernel_rfl) (by kernel_rfl) (nB (by kernel_rfl)) (by kernel_rfl) (by kernel_rfl) (by kernel_rfl) ?_
 rw [← g7e]
 exact h
end Go.Proofs.YtnhkdkcgdcgmdaaGreatDoor
