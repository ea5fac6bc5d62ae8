/- The second reading of some of the program's functions, printed by gen2.py off the code; each is held against the code by the kernel. -/
import Derived.Test.YtnhkdkcgdcgmdaaDoorProg
import Derived.Test.YtnhkdkcgdcgmdaaDoorzZK0
import Derived.KernelRfl
import Derived.Test.YtnhkdkcgdcgmdaaDoorzZGz
namespace Go.Proofs.YtnhkdkcgdcgmdaaDoor
open Go.RowKit
set_option maxRecDepth 100000
def F3 (x0 x1 : Value) (w : World) (R : RT) (E : Pan) : Prop :=
 oP E (xV (Instr.box 24 x0)) w fun b0L w_2 =>
 oP E (xV (Instr.box 27 x1)) w_2 fun a3C w_4 =>
 oP E (xCall (fC 10) []) w_4 fun a4r w_6 =>
 oP E (xV (Op.unary .not a4r)) w_6 fun U2 w_8 =>
 xcond U2
 (R (vB false) w_8)
 (oP E (lA 24 b0L) w_8 fun c9h o3 =>
 oP E (xCall (fC 11) [c9h]) o3 fun d2s p8 =>
 oP E (eX d2s 0) p8 fun a8q o9 =>
 oP E (eX d2s 1) o9 fun a3x q8 =>
 oP E (xV (Instr.alloc 24 true (.tuple #[]))) q8 fun c1M r7 =>
 oP E (sA 24 c1M a8q) r7 fun _z_19 r9 =>
 oP E (lA 24 b0L) r9 fun f2f t8 =>
 oP E (xCall (fC 12) [f2f]) t8 fun b7X v6 =>
 oP E (eX b7X 0) v6 fun c2T A9 =>
 oP E (eX b7X 1) A9 fun c4y C7 =>
 oP E (xV (Instr.alloc 24 true (.tuple #[]))) C7 fun d9n D8 =>
 oP E (sA 24 d9n c2T) D8 fun _z_31 C3 =>
 oP E (lA 27 a3C) C3 fun f2g D1 =>
 oP E (xCall (fC 13) [f2g]) D1 fun d2t G3 =>
 oP E (eX d2t 0) G3 fun c4z D9 =>
 oP E (eX d2t 1) D9 fun b3H E2 =>
 oP E (xV (Instr.alloc 27 true (.tuple #[]))) E2 fun b8E G9 =>
 oP E (sA 27 b8E c4z) G9 fun _z_43 G4 =>
 oP E (lA 27 a3C) G4 fun f2h K5 =>
 oP E (xCall (fC 14) [f2h]) K5 fun d2u L3 =>
 oP E (eX d2u 0) L3 fun f2i J9 =>
 oP E (eX d2u 1) J9 fun c4A E6 =>
 oP E (xV (Instr.alloc 27 true (.tuple #[]))) E6 fun d2v N1 =>
 oP E (sA 27 d2v f2i) N1 fun _z_55 N2 =>
 oP E (xBin .neq 3 (.tmp 35) (.tmp 36) a3x c4y) N2 fun b8F L6 =>
 oP E (gsem (asB b8F) false (xBin .neq 3 (.tmp 39) (.tmp 40) (gval (asB b8F) false b3H) (gval (asB b8F) false c4A))) L6 fun f2j P2 =>
 oP E (xPick b8F (vB true) f2j) P2 fun f2k L8 =>
 xcond f2k
 (R (vB false) L8)
 (oP E (xBin .eql 3 (.tmp 43) (.const (vI 0)) c4y (vI 0)) L8 fun b4n N9 =>
 oP E (gsem (asB b4n) true (lA 24 c1M)) N9 fun f2l P3 =>
 oP E (gsem (asB b4n) true (lA 24 d9n)) P3 fun f2m O0 =>
 oP E (gsem (asB b4n) true (xCall (fC 15) [f2l, f2m])) O0 fun f2n M9 =>
 oP E (gsem (asB b4n) true (xV (Op.unary .not f2n))) M9 fun f2o O1 =>
 oP E (xPick b4n f2o (vB false)) O1 fun a2h R5 =>
 oP E (gsem (asB a2h) false (xBin .neq 3 (.tmp 52) (.const (vI 0)) (gval (asB a2h) false c4y) (vI 0))) R5 fun a4Q T1 =>
 oP E (gsem (asB (gval (asB a2h) false a4Q)) true (fA 24 c1M 0)) T1 fun c4B N3 =>
 oP E (gsem (asB (gval (asB a2h) false a4Q)) true (lA 3 c4B)) N3 fun c4C T7 =>
 oP E (gsem (asB (gval (asB a2h) false a4Q)) true (xBin .neq 3 (.tmp 56) (.const (vI 0)) c4C (vI 0))) T7 fun a9m P4 =>
 oP E (gsem (asB (gval (asB (gval (asB a2h) false a4Q)) true a9m)) false (fA 24 c1M 3)) P4 fun c4D Q2 =>
 oP E (gsem (asB (gval (asB (gval (asB a2h) false a4Q)) true a9m)) false (lA 22 c4D)) Q2 fun f2p T8 =>
 oP E (gsem (asB (gval (asB (gval (asB a2h) false a4Q)) true a9m)) false (xBuiltin .len #[22] 3 [false] [f2p])) T8 fun f2q N4 =>
 oP E (gsem (asB (gval (asB (gval (asB a2h) false a4Q)) true a9m)) false (xBin .gtr 3 (.tmp 61) (.const (vI 0)) f2q (vI 0))) N4 fun f2r a0d =>
 oP E (gsem (asB (gval (asB a2h) false a4Q)) true (xPick (gval (asB (gval (asB a2h) false a4Q)) true a9m) (vB true) f2r)) a0d fun f2s a0J =>
 oP E (gsem (asB a2h) false (xPick (gval (asB a2h) false a4Q) f2s (vB false))) a0J fun f2t a1k =>
 oP E (xPick a2h (vB true) f2t) a1k fun f2u a0K =>
 xcond f2u
 (R (vB false) a0K)
 (oP E (xBin .eql 3 (.tmp 66) (.const (vI 0)) c4A (vI 0)) a0K fun b8G a0L =>
 oP E (gsem (asB b8G) true (lA 27 b8E)) a0L fun f2v U9 =>
 oP E (gsem (asB b8G) true (lA 27 d2v)) U9 fun e2w M6 =>
 oP E (gsem (asB b8G) true (xCall (fC 16) [f2v, e2w])) M6 fun e2x P8 =>
 oP E (xPick b8G e2x (vB false)) P8 fun Q3 W2 =>
 oP E (gsem (asB Q3) false (xBin .neq 3 (.tmp 74) (.const (vI 0)) (gval (asB Q3) false c4A) (vI 0))) W2 fun b5w a1l =>
 oP E (gsem (asB (gval (asB Q3) false b5w)) true (fA 27 b8E 0)) a1l fun e2y a3K =>
 oP E (gsem (asB (gval (asB Q3) false b5w)) true (lA 3 e2y)) a3K fun e2z a0O =>
 oP E (gsem (asB (gval (asB Q3) false b5w)) true (xBin .eql 3 (.tmp 78) (.const (vI 0)) e2z (vI 0))) a0O fun e2A T2 =>
 oP E (gsem (asB Q3) false (xPick (gval (asB Q3) false b5w) e2A (vB false))) T2 fun b1i W3 =>
 oP E (gsem (asB (gval (asB Q3) false b1i)) true (fA 27 b8E 3)) W3 fun c0t a2b =>
 oP E (gsem (asB (gval (asB Q3) false b1i)) true (lA 25 c0t)) a2b fun c0u S0 =>
 oP E (gsem (asB (gval (asB Q3) false b1i)) true (xBuiltin .len #[25] 3 [false] [c0u])) S0 fun c0v a1m =>
 oP E (gsem (asB (gval (asB Q3) false b1i)) true (xBin .eql 3 (.tmp 84) (.const (vI 0)) c0v (vI 0))) a1m fun e2B a4V =>
 oP E (gsem (asB Q3) false (xPick (gval (asB Q3) false b1i) e2B (vB false))) a4V fun b1j a5V =>
 oP E (gsem (asB (gval (asB Q3) false b1j)) true (fA 27 b8E 2)) a5V fun e2C a4W =>
 oP E (gsem (asB (gval (asB Q3) false b1j)) true (lA 22 e2C)) a4W fun e2D a5W =>
 oP E (gsem (asB (gval (asB Q3) false b1j)) true (xBuiltin .len #[22] 3 [false] [e2D])) a5W fun e2E a2X =>
 oP E (gsem (asB (gval (asB Q3) false b1j)) true (xBin .eql 3 (.tmp 90) (.const (vI 0)) e2E (vI 0))) a2X fun e2F a2Y =>
 oP E (gsem (asB Q3) false (xPick (gval (asB Q3) false b1j) e2F (vB false))) a2Y fun e2G a4m =>
 oP E (xPick Q3 (vB true) e2G) a4m fun e2H a5T =>
 R e2H a5T)))
noncomputable def c3 : Code := Tryd.f3.body.getD .skip
def h3 : Hint := (sQ (.seq (sQ (.cond (sQ .none) .none)) (sQ (sQ (sQ (sQ (.seq (sQ (.cond (sQ .none) .none)) (.seq (sQ (.cond (sQ .none) .none)) (sQ .none)))))))))
def F9 (x0 : Value) (w : World) (R : RT) (E : Pan) : Prop :=
 oP E (xV (Instr.box 44 x0)) w fun v7 w_2 =>
 oP E (xCall (fC 10) []) w_2 fun c9x w_4 =>
 oP E (xV (Op.unary .not c9x)) w_4 fun c1N w_6 =>
 xcond c1N
 (R (vB false) w_6)
 (oP E (lA 44 v7) w_6 fun c9y w_8 =>
 oP E (xCall (fC 31) [c9y]) w_8 fun b0d o3 =>
 oP E (eX b0d 0) o3 fun a7d p8 =>
 oP E (eX b0d 1) p8 fun c4E o9 =>
 oP E (xV (Instr.alloc 44 true (.tuple #[]))) o9 fun b5x q8 =>
 oP E (sA 44 b5x a7d) q8 fun _z_17 r7 =>
 oP E (xBin .neq 29 (.tmp 26) (.const (vI 0)) c4E (vI 0)) r7 fun c4F r9 =>
 xcond c4F
 (R (vB true) r9)
 (oP E (lA 44 b5x) r9 fun c4G t8 =>
 oP E (xCall (fC 31) [c4G]) t8 fun b8H v6 =>
 oP E (eX b8H 0) v6 fun c4H A9 =>
 oP E (eX b8H 1) A9 fun c4I C7 =>
 oP E (xV (Instr.alloc 44 true (.tuple #[]))) C7 fun d9o D8 =>
 oP E (sA 44 d9o c4H) D8 fun _z_31 C3 =>
 oP E (lA 44 v7) C3 fun b3K D1 =>
 oP E (xCall (fC 32) [b3K]) D1 fun b1k G3 =>
 oP E (eX b1k 0) G3 fun b4o D9 =>
 oP E (eX b1k 1) D9 fun _t37_39 E2 =>
 oP E (lA 44 b5x) E2 fun f2w G9 =>
 oP E (xCall (fC 32) [f2w]) G9 fun b8I G4 =>
 oP E (eX b8I 0) G4 fun c4J K5 =>
 oP E (eX b8I 1) K5 fun _t42_47 L3 =>
 oP E (lA 44 v7) L3 fun f2x J9 =>
 oP E (xCall (fC 33) [f2x]) J9 fun d2w E6 =>
 oP E (eX d2w 0) E6 fun f2y N1 =>
 oP E (eX d2w 1) N1 fun _t47_55 N2 =>
 oP E (lA 44 b5x) N2 fun c4K L6 =>
 oP E (xCall (fC 33) [c4K]) L6 fun b8J P2 =>
 oP E (eX b8J 0) P2 fun c4L L8 =>
 oP E (eX b8J 1) L8 fun _t52_63 N9 =>
 oP E (lA 44 v7) N9 fun c4M P3 =>
 oP E (xCall (fC 34) [c4M]) P3 fun b8K O0 =>
 oP E (eX b8K 0) O0 fun _t56_69 M9 =>
 oP E (eX b8K 1) M9 fun f2z O1 =>
 oP E (lA 44 b5x) O1 fun f2A R5 =>
 oP E (xCall (fC 34) [f2A]) R5 fun d2x T1 =>
 oP E (eX d2x 0) T1 fun _t61_77 N3 =>
 oP E (eX d2x 1) N3 fun f2B T7 =>
 oP E (xBin .eql 29 (.tmp 63) (.const (vI 0)) c4I (vI 0)) T7 fun b8L P4 =>
 oP E (gsem (asB b8L) true (lA 44 b5x)) P4 fun f2C Q2 =>
 oP E (gsem (asB b8L) true (lA 44 d9o)) Q2 fun f2D T8 =>
 oP E (gsem (asB b8L) true (xCall (fC 35) [f2C, f2D])) T8 fun f2E N4 =>
 oP E (xPick b8L f2E (vB false)) N4 fun b8M a0d =>
 oP E (gsem (asB b8M) true (xBin .leq 3 (.tmp 71) (.tmp 72) (gval (asB b8M) true c4J) (gval (asB b8M) true b4o))) a0d fun f2F a0J =>
 oP E (xPick b8M f2F (vB false)) a0J fun b8N a1k =>
 oP E (gsem (asB b8N) true (xBin .leq 3 (.tmp 76) (.tmp 77) (gval (asB b8N) true c4L) (gval (asB b8N) true f2y))) a1k fun f2G a0K =>
 oP E (xPick b8N f2G (vB false)) a0K fun a9n a0L =>
 oP E (gsem (asB a9n) true (xBin .neq 29 (.tmp 81) (.const (vI 0)) (gval (asB a9n) true f2z) (vI 0))) a0L fun c4N U9 =>
 oP E (gsem (asB (gval (asB a9n) true c4N)) false (xBin .eql 29 (.tmp 84) (.const (vI 0)) (gval (asB (gval (asB a9n) true c4N)) false f2B) (vI 0))) U9 fun e2I M6 =>
 oP E (gsem (asB a9n) true (xPick (gval (asB a9n) true c4N) (vB true) e2I)) M6 fun e2J P8 =>
 oP E (xPick a9n e2J (vB false)) P8 fun e2K W2 =>
 R e2K W2))
noncomputable def c9 : Code := Tryd.f9.body.getD .skip
def h9 : Hint := (sQ (.seq (sQ (.cond (sQ .none) .none)) (sQ (.seq (sQ (.cond (sQ .none) .none)) (sQ (sQ (sQ (sQ (sQ (sQ (sQ (sQ .none))))))))))))
def F10 (w : World) (R : RT) (E : Pan) : Prop :=
 oP E (xCall (fC 36) [(vI 1)]) w fun b3x w_2 =>
 oP E (xCall (fC 36) [(vI 2)]) w_2 fun a8n w_4 =>
 oP E (xV (Instr.buildSlice 22 2 #[(0, b3x), (1, a8n)])) w_4 fun c0w w_6 =>
 oP E (xV (Instr.build 24 #[(0, (vI 6)), (3, c0w)])) w_6 fun d5Z w_8 =>
 oP E (xV (Instr.build 24 #[(0, (vI 2)), (2, (Value.string ⟨#[120]⟩))])) w_8 fun g0O o3 =>
 oP E (xV (Instr.buildSlice 22 2 #[(0, d5Z), (1, g0O)])) o3 fun a6W p8 =>
 oP E (xV (Instr.build 24 #[(0, (vI 8)), (3, a6W)])) p8 fun a6X o9 =>
 oP E (xCall (fC 11) [a6X]) o9 fun a8t q8 =>
 oP E (eX a8t 0) q8 fun b7Z r7 =>
 oP E (eX a8t 1) r7 fun a8u r9 =>
 oP E (xV (Instr.alloc 24 true (.tuple #[]))) r9 fun b8O t8 =>
 oP E (sA 24 b8O b7Z) t8 fun _z_23 v6 =>
 oP E (xCall (fC 36) [(vI 1)]) v6 fun c3C A9 =>
 oP E (xCall (fC 36) [(vI 2)]) A9 fun c3D C7 =>
 oP E (xV (Instr.buildSlice 22 2 #[(0, c3C), (1, c3D)])) C7 fun c3E D8 =>
 oP E (xV (Instr.build 27 #[(0, (vI 3)), (1, (vI 1)), (2, c3E)])) D8 fun c3F C3 =>
 oP E (xCall (fC 13) [c3F]) C3 fun b8j D1 =>
 oP E (eX b8j 0) D1 fun c3G G3 =>
 oP E (eX b8j 1) G3 fun c3H D9 =>
 oP E (xV (Instr.alloc 27 true (.tuple #[]))) D9 fun d9p E2 =>
 oP E (sA 27 d9p c3G) E2 fun _z_41 G9 =>
 oP E (xBin .eql 29 (.tmp 24) (.const (vI 0)) a8u (vI 0)) G9 fun b3y G4 =>
 oP E (gsem (asB b3y) true (xBin .eql 29 (.tmp 27) (.const (vI 0)) (gval (asB b3y) true c3H) (vI 0))) G4 fun f2H K5 =>
 oP E (xPick b3y f2H (vB false)) K5 fun b8P L3 =>
 oP E (gsem (asB b8P) true (fA 24 b8O 0)) L3 fun f2I J9 =>
 oP E (gsem (asB b8P) true (lA 3 f2I)) J9 fun f2J E6 =>
 oP E (gsem (asB b8P) true (xBin .eql 3 (.tmp 32) (.const (vI 8)) f2J (vI 8))) E6 fun f2K N1 =>
 oP E (xPick b8P f2K (vB false)) N1 fun b4p N2 =>
 oP E (gsem (asB b4p) true (fA 24 b8O 3)) N2 fun f2L L6 =>
 oP E (gsem (asB b4p) true (lA 22 f2L)) L6 fun f2M P2 =>
 oP E (gsem (asB b4p) true (xBuiltin .len #[22] 3 [false] [f2M])) P2 fun f2N L8 =>
 oP E (gsem (asB b4p) true (xBin .eql 3 (.tmp 38) (.const (vI 2)) f2N (vI 2))) L8 fun f2O N9 =>
 oP E (xPick b4p f2O (vB false)) N9 fun a9o P3 =>
 oP E (gsem (asB a9o) true (fA 24 b8O 3)) P3 fun f2P O0 =>
 oP E (gsem (asB a9o) true (lA 22 f2P)) O0 fun f2Q M9 =>
 oP E (gsem (asB a9o) true (iA 22 f2Q (vI 0))) M9 fun f2R O1 =>
 oP E (gsem (asB a9o) true (fA 24 f2R 0)) O1 fun f2S R5 =>
 oP E (gsem (asB a9o) true (lA 3 f2S)) R5 fun c3I T1 =>
 oP E (gsem (asB a9o) true (xBin .eql 3 (.tmp 46) (.const (vI 1)) c3I (vI 1))) T1 fun f2T N3 =>
 oP E (xPick a9o f2T (vB false)) N3 fun a9p T7 =>
 oP E (gsem (asB a9p) true (fA 24 b8O 3)) T7 fun f2U P4 =>
 oP E (gsem (asB a9p) true (lA 22 f2U)) P4 fun f2V Q2 =>
 oP E (gsem (asB a9p) true (iA 22 f2V (vI 0))) Q2 fun f2W T8 =>
 oP E (gsem (asB a9p) true (fA 24 f2W 1)) T8 fun c3t N4 =>
 oP E (gsem (asB a9p) true (lA 2 c3t)) N4 fun c3u a0d =>
 oP E (gsem (asB a9p) true (xBin .eql 2 (.tmp 54) (.const (vI 3)) c3u (vI 3))) a0d fun c3v a0J =>
 oP E (xPick a9p c3v (vB false)) a0J fun b8Q a1k =>
 oP E (gsem (asB b8Q) true (fA 27 d9p 0)) a1k fun f2X a0K =>
 oP E (gsem (asB b8Q) true (lA 3 f2X)) a0K fun f2Y a0L =>
 oP E (gsem (asB b8Q) true (xBin .eql 3 (.tmp 59) (.const (vI 1)) f2Y (vI 1))) a0L fun f2Z U9 =>
 oP E (xPick b8Q f2Z (vB false)) U9 fun e2L M6 =>
 R e2L M6
noncomputable def c10 : Code := Tryd.f10.body.getD .skip
def F11 (x0 : Value) (w : World) (R : RT) (E : Pan) : Prop :=
 oP E (xV (Instr.box 24 x0)) w fun v7 w_2 =>
 oP E (xV (Instr.alloc 24 true (.tuple #[]))) w_2 fun c9z w_4 =>
 oP E (lA 24 v7) w_4 fun c3l w_6 =>
 oP E (xCall (fC 37) [c3l]) w_6 fun b9R w_8 =>
 oP E (xBin .neq 29 (.tmp 7) (.const (vI 0)) b9R (vI 0)) w_8 fun a7n o3 =>
 xcond a7n
 (oP E (xV (Instr.build 24 #[])) o3 fun a9W p8 =>
 oP E (sA 24 c9z a9W) p8 fun _z_13 o9 =>
 xcell Tryd.prog 24 c9z o9 fun d6c =>
 R (Value.tuple #[d6c, b9R]) o9)
 (oP E (lA 24 v7) o3 fun b3w a2H =>
 oP E (xCall (fC 38) [b3w]) a2H fun f3a a2U =>
 oP E (sA 24 c9z f3a) a2U fun _z_20 a2k =>
 xcell Tryd.prog 24 c9z a2k fun g5z =>
 R (Value.tuple #[g5z, (vI 0)]) a2k)
def h11 : Hint := (sQ (.seq (sQ (sQ (.cond (sQ .none) .none))) (sQ .none)))
def h12 : Hint := (sQ (sQ (.seq (sQ (.cond (sQ .none) .none)) (sQ .none))))
def h13 : Hint := (sQ (.seq (sQ (sQ (.cond (sQ .none) .none))) (sQ .none)))
def h14 : Hint := (sQ (sQ (.seq (sQ (.cond (sQ .none) .none)) (sQ .none))))
end Go.Proofs.YtnhkdkcgdcgmdaaDoor
