/- The second reading of some of the program's functions, printed by gen2.py off the code; each is held against the code by the kernel. -/
import Derived.Test.YtnhkdkcgdcgmdaaDoorProg
import Derived.Test.YtnhkdkcgdcgmdaaDoorzSK0
import Derived.KernelRfl
import Derived.Test.YtnhkdkcgdcgmdaaDoorzSGz
namespace Go.Proofs.YtnhkdkcgdcgmdaaDoor
open Go.RowKit
set_option maxRecDepth 100000
def F3 (x0 x1 : Value) (w : World) (R : RT) (E : Pan) : Prop :=
 oP E (xV (Instr.box 24 x0)) w fun b6B w_2 =>
 oP E (xV (Instr.box 27 x1)) w_2 fun a3g w_4 =>
 oP E (xCall (fC 10) []) w_4 fun a3W w_6 =>
 oP E (xV (Op.unary .not a3W)) w_6 fun T5 w_8 =>
 xcond T5
 (R (vB false) w_8)
 (oP E (lA 24 b6B) w_8 fun c8l m7 =>
 oP E (xCall (fC 11) [c8l]) m7 fun d1u o4 =>
 oP E (eX d1u 0) o4 fun a7Q o3 =>
 oP E (eX d1u 1) o3 fun a2Z p7 =>
 oP E (xV (Instr.alloc 24 true (.tuple #[]))) p7 fun c1i p8 =>
 oP E (sA 24 c1i a7Q) p8 fun _z_19 q7 =>
 oP E (lA 24 b6B) q7 fun f1g r8 =>
 oP E (xCall (fC 12) [f1g]) r8 fun b7p u1 =>
 oP E (eX b7p 0) u1 fun c2d z6 =>
 oP E (eX b7p 1) z6 fun c3D C0 =>
 oP E (xV (Instr.alloc 24 true (.tuple #[]))) C0 fun d8P D3 =>
 oP E (sA 24 d8P c2d) D3 fun _z_31 B8 =>
 oP E (lA 27 a3g) B8 fun f1h C3 =>
 oP E (xCall (fC 13) [f1h]) C3 fun d1v E9 =>
 oP E (eX d1v 0) E9 fun c3E C7 =>
 oP E (eX d1v 1) C7 fun b3c D5 =>
 oP E (xV (Instr.alloc 27 true (.tuple #[]))) D5 fun b7U G4 =>
 oP E (sA 27 b7U c3E) G4 fun _z_43 F0 =>
 oP E (lA 27 a3g) F0 fun f1i K9 =>
 oP E (xCall (fC 14) [f1i]) K9 fun d1w J0 =>
 oP E (eX d1w 0) J0 fun f1j G2 =>
 oP E (eX d1w 1) G2 fun c3F E1 =>
 oP E (xV (Instr.alloc 27 true (.tuple #[]))) E1 fun d1x L2 =>
 oP E (sA 27 d1x f1j) L2 fun _z_55 M3 =>
 oP E (xBin .neq 3 (.tmp 35) (.tmp 36) a2Z c3D) M3 fun b7V L3 =>
 oP E (gsem (asB b7V) false (xBin .neq 3 (.tmp 39) (.tmp 40) (gval (asB b7V) false b3c) (gval (asB b7V) false c3F))) L3 fun f1k N5 =>
 oP E (xPick b7V (vB true) f1k) N5 fun f1l M4 =>
 xcond f1l
 (R (vB false) M4)
 (oP E (xBin .eql 3 (.tmp 43) (.const (vI 0)) c3D (vI 0)) M4 fun b3I M5 =>
 oP E (gsem (asB b3I) true (lA 24 c1i)) M5 fun f1m N6 =>
 oP E (gsem (asB b3I) true (lA 24 d8P)) N6 fun f1n N7 =>
 oP E (gsem (asB b3I) true (xCall (fC 15) [f1m, f1n])) N7 fun f1o L4 =>
 oP E (gsem (asB b3I) true (xV (Op.unary .not f1o))) L4 fun f1p O1 =>
 oP E (xPick b3I f1p (vB false)) O1 fun a1K P0 =>
 oP E (gsem (asB a1K) false (xBin .neq 3 (.tmp 52) (.const (vI 0)) (gval (asB a1K) false c3D) (vI 0))) P0 fun a4s R0 =>
 oP E (gsem (asB (gval (asB a1K) false a4s)) true (fA 24 c1i 0)) R0 fun c3G N0 =>
 oP E (gsem (asB (gval (asB a1K) false a4s)) true (lA 3 c3G)) N0 fun c3H R1 =>
 oP E (gsem (asB (gval (asB a1K) false a4s)) true (xBin .neq 3 (.tmp 56) (.const (vI 0)) c3H (vI 0))) R1 fun a8N P6 =>
 oP E (gsem (asB (gval (asB (gval (asB a1K) false a4s)) true a8N)) false (fA 24 c1i 3)) P6 fun c3I O2 =>
 oP E (gsem (asB (gval (asB (gval (asB a1K) false a4s)) true a8N)) false (lA 22 c3I)) O2 fun f1q R2 =>
 oP E (gsem (asB (gval (asB (gval (asB a1K) false a4s)) true a8N)) false (xBuiltin .len #[22] 3 [false] [f1q])) R2 fun f1r N1 =>
 oP E (gsem (asB (gval (asB (gval (asB a1K) false a4s)) true a8N)) false (xBin .gtr 3 (.tmp 61) (.const (vI 0)) f1r (vI 0))) N1 fun f1s V4 =>
 oP E (gsem (asB (gval (asB a1K) false a4s)) true (xPick (gval (asB (gval (asB a1K) false a4s)) true a8N) (vB true) f1s)) V4 fun f1t a0x =>
 oP E (gsem (asB a1K) false (xPick (gval (asB a1K) false a4s) f1t (vB false))) a0x fun f1u a0q =>
 oP E (xPick a1K (vB true) f1u) a0q fun f1v W8 =>
 xcond f1v
 (R (vB false) W8)
 (oP E (xBin .eql 3 (.tmp 66) (.const (vI 0)) c3F (vI 0)) W8 fun b7W a0r =>
 oP E (gsem (asB b7W) true (lA 27 b7U)) a0r fun f1w R6 =>
 oP E (gsem (asB b7W) true (lA 27 d1x)) R6 fun e2b M8 =>
 oP E (gsem (asB b7W) true (xCall (fC 16) [f1w, e2b])) M8 fun e2c N8 =>
 oP E (xPick b7W e2c (vB false)) N8 fun P8 S3 =>
 oP E (gsem (asB P8) false (xBin .neq 3 (.tmp 74) (.const (vI 0)) (gval (asB P8) false c3F) (vI 0))) S3 fun b4Q a0K =>
 oP E (gsem (asB (gval (asB P8) false b4Q)) true (fA 27 b7U 0)) a0K fun e2d a1P =>
 oP E (gsem (asB (gval (asB P8) false b4Q)) true (lA 3 e2d)) a1P fun e2e a0L =>
 oP E (gsem (asB (gval (asB P8) false b4Q)) true (xBin .eql 3 (.tmp 78) (.const (vI 0)) e2e (vI 0))) a0L fun e2f P9 =>
 oP E (gsem (asB P8) false (xPick (gval (asB P8) false b4Q) e2f (vB false))) P9 fun b0A S4 =>
 oP E (gsem (asB (gval (asB P8) false b0A)) true (fA 27 b7U 3)) S4 fun b9P a1D =>
 oP E (gsem (asB (gval (asB P8) false b0A)) true (lA 25 b9P)) a1D fun b9Q P3 =>
 oP E (gsem (asB (gval (asB P8) false b0A)) true (xBuiltin .len #[25] 3 [false] [b9Q])) P3 fun b9R a1l =>
 oP E (gsem (asB (gval (asB P8) false b0A)) true (xBin .eql 3 (.tmp 84) (.const (vI 0)) b9R (vI 0))) a1l fun e2g a3p =>
 oP E (gsem (asB P8) false (xPick (gval (asB P8) false b0A) e2g (vB false))) a3p fun b0B a3Q =>
 oP E (gsem (asB (gval (asB P8) false b0B)) true (fA 27 b7U 2)) a3Q fun e2h a3q =>
 oP E (gsem (asB (gval (asB P8) false b0B)) true (lA 22 e2h)) a3q fun e2i a3R =>
 oP E (gsem (asB (gval (asB P8) false b0B)) true (xBuiltin .len #[22] 3 [false] [e2i])) a3R fun e2j a1E =>
 oP E (gsem (asB (gval (asB P8) false b0B)) true (xBin .eql 3 (.tmp 90) (.const (vI 0)) e2j (vI 0))) a1E fun e2k a1F =>
 oP E (gsem (asB P8) false (xPick (gval (asB P8) false b0B) e2k (vB false))) a1F fun e2l a2B =>
 oP E (xPick P8 (vB true) e2l) a2B fun e2m a3P =>
 R e2m a3P)))
noncomputable def c3 : Code := Tryd.f3.body.getD .skip
def h3 : Hint := (sQ (.seq (sQ (.cond (sQ .none) .none)) (sQ (sQ (sQ (sQ (.seq (sQ (.cond (sQ .none) .none)) (.seq (sQ (.cond (sQ .none) .none)) (sQ .none)))))))))
def F9 (x0 : Value) (w : World) (R : RT) (E : Pan) : Prop :=
 oP E (xV (Instr.box 44 x0)) w fun u4 w_2 =>
 oP E (xCall (fC 10) []) w_2 fun c8B w_4 =>
 oP E (xV (Op.unary .not c8B)) w_4 fun c1j w_6 =>
 xcond c1j
 (R (vB false) w_6)
 (oP E (lA 44 u4) w_6 fun g0b w_8 =>
 oP E (xCall (fC 31) [g0b]) w_8 fun b4R m7 =>
 oP E (eX b4R 0) m7 fun a4t o4 =>
 oP E (eX b4R 1) o4 fun a8O o3 =>
 oP E (xV (Instr.alloc 44 true (.tuple #[]))) o3 fun b4S p7 =>
 oP E (sA 44 b4S a4t) p7 fun _z_17 p8 =>
 oP E (xBin .neq 29 (.tmp 26) (.const (vI 0)) a8O (vI 0)) p8 fun c3J q7 =>
 xcond c3J
 (R (vB true) q7)
 (oP E (lA 44 b4S) q7 fun f1x r8 =>
 oP E (xCall (fC 31) [f1x]) r8 fun d1y u1 =>
 oP E (eX d1y 0) u1 fun f1y z6 =>
 oP E (eX d1y 1) z6 fun f1z C0 =>
 oP E (xV (Instr.alloc 44 true (.tuple #[]))) C0 fun d8Q D3 =>
 oP E (sA 44 d8Q f1y) D3 fun _z_31 B8 =>
 oP E (lA 44 u4) B8 fun b3g C3 =>
 oP E (xCall (fC 32) [b3g]) C3 fun b0C E9 =>
 oP E (eX b0C 0) E9 fun b3J C7 =>
 oP E (eX b0C 1) C7 fun _t37_39 D5 =>
 oP E (lA 44 b4S) D5 fun f1A G4 =>
 oP E (xCall (fC 32) [f1A]) G4 fun b7X F0 =>
 oP E (eX b7X 0) F0 fun c3K K9 =>
 oP E (eX b7X 1) K9 fun _t42_47 J0 =>
 oP E (lA 44 u4) J0 fun f1B G2 =>
 oP E (xCall (fC 33) [f1B]) G2 fun d1z E1 =>
 oP E (eX d1z 0) E1 fun f1C L2 =>
 oP E (eX d1z 1) L2 fun _t47_55 M3 =>
 oP E (lA 44 b4S) M3 fun c3L L3 =>
 oP E (xCall (fC 33) [c3L]) L3 fun b7Y N5 =>
 oP E (eX b7Y 0) N5 fun c3M M4 =>
 oP E (eX b7Y 1) M4 fun _t52_63 M5 =>
 oP E (lA 44 u4) M5 fun c3N N6 =>
 oP E (xCall (fC 34) [c3N]) N6 fun b7Z N7 =>
 oP E (eX b7Z 0) N7 fun _t56_69 L4 =>
 oP E (eX b7Z 1) L4 fun f1D O1 =>
 oP E (lA 44 b4S) O1 fun f1E P0 =>
 oP E (xCall (fC 34) [f1E]) P0 fun d1A R0 =>
 oP E (eX d1A 0) R0 fun _t61_77 N0 =>
 oP E (eX d1A 1) N0 fun f1F R1 =>
 oP E (xBin .eql 29 (.tmp 63) (.const (vI 0)) f1z (vI 0)) R1 fun b8a P6 =>
 oP E (gsem (asB b8a) true (lA 44 b4S)) P6 fun f1G O2 =>
 oP E (gsem (asB b8a) true (lA 44 d8Q)) O2 fun f1H R2 =>
 oP E (gsem (asB b8a) true (xCall (fC 35) [f1G, f1H])) R2 fun f1I N1 =>
 oP E (xPick b8a f1I (vB false)) N1 fun b8b V4 =>
 oP E (gsem (asB b8b) true (xBin .leq 3 (.tmp 71) (.tmp 72) (gval (asB b8b) true c3K) (gval (asB b8b) true b3J))) V4 fun c3O a0x =>
 oP E (xPick b8b c3O (vB false)) a0x fun b0D a0q =>
 oP E (gsem (asB b0D) true (xBin .leq 3 (.tmp 76) (.tmp 77) (gval (asB b0D) true c3M) (gval (asB b0D) true f1C))) a0q fun f1J W8 =>
 oP E (xPick b0D f1J (vB false)) W8 fun a8P a0r =>
 oP E (gsem (asB a8P) true (xBin .neq 29 (.tmp 81) (.const (vI 0)) (gval (asB a8P) true f1D) (vI 0))) a0r fun c3P R6 =>
 oP E (gsem (asB (gval (asB a8P) true c3P)) false (xBin .eql 29 (.tmp 84) (.const (vI 0)) (gval (asB (gval (asB a8P) true c3P)) false f1F) (vI 0))) R6 fun e2n M8 =>
 oP E (gsem (asB a8P) true (xPick (gval (asB a8P) true c3P) (vB true) e2n)) M8 fun e2o N8 =>
 oP E (xPick a8P e2o (vB false)) N8 fun e2p S3 =>
 R e2p S3))
noncomputable def c9 : Code := Tryd.f9.body.getD .skip
def h9 : Hint := (sQ (.seq (sQ (.cond (sQ .none) .none)) (sQ (.seq (sQ (.cond (sQ .none) .none)) (sQ (sQ (sQ (sQ (sQ (sQ (sQ (sQ .none))))))))))))
def F10 (w : World) (R : RT) (E : Pan) : Prop :=
 oP E (xCall (fC 36) [(vI 1)]) w fun b2S w_2 =>
 oP E (xCall (fC 36) [(vI 2)]) w_2 fun a7N w_4 =>
 oP E (xV (Instr.buildSlice 22 2 #[(0, b2S), (1, a7N)])) w_4 fun b9S w_6 =>
 oP E (xV (Instr.build 24 #[(0, (vI 6)), (3, b9S)])) w_6 fun d5l w_8 =>
 oP E (xV (Instr.build 24 #[(0, (vI 2)), (2, (Value.string ⟨#[120]⟩))])) w_8 fun g0c m7 =>
 oP E (xV (Instr.buildSlice 22 2 #[(0, d5l), (1, g0c)])) m7 fun a6B o4 =>
 oP E (xV (Instr.build 24 #[(0, (vI 8)), (3, a6B)])) o4 fun a6C o3 =>
 oP E (xCall (fC 11) [a6C]) o3 fun a7T p7 =>
 oP E (eX a7T 0) p7 fun b7r p8 =>
 oP E (eX a7T 1) p8 fun a7U q7 =>
 oP E (xV (Instr.alloc 24 true (.tuple #[]))) q7 fun b8c r8 =>
 oP E (sA 24 b8c b7r) r8 fun _z_23 u1 =>
 oP E (xCall (fC 36) [(vI 1)]) u1 fun c2I z6 =>
 oP E (xCall (fC 36) [(vI 2)]) z6 fun c2J C0 =>
 oP E (xV (Instr.buildSlice 22 2 #[(0, c2I), (1, c2J)])) C0 fun c2K D3 =>
 oP E (xV (Instr.build 27 #[(0, (vI 3)), (1, (vI 1)), (2, c2K)])) D3 fun c2L B8 =>
 oP E (xCall (fC 13) [c2L]) B8 fun b7A C3 =>
 oP E (eX b7A 0) C3 fun c2M E9 =>
 oP E (eX b7A 1) E9 fun c2N C7 =>
 oP E (xV (Instr.alloc 27 true (.tuple #[]))) C7 fun d8R D5 =>
 oP E (sA 27 d8R c2M) D5 fun _z_41 G4 =>
 oP E (xBin .eql 29 (.tmp 24) (.const (vI 0)) a7U (vI 0)) G4 fun b2T F0 =>
 oP E (gsem (asB b2T) true (xBin .eql 29 (.tmp 27) (.const (vI 0)) (gval (asB b2T) true c2N) (vI 0))) F0 fun f1K K9 =>
 oP E (xPick b2T f1K (vB false)) K9 fun b8d J0 =>
 oP E (gsem (asB b8d) true (fA 24 b8c 0)) J0 fun f1L G2 =>
 oP E (gsem (asB b8d) true (lA 3 f1L)) G2 fun f1M E1 =>
 oP E (gsem (asB b8d) true (xBin .eql 3 (.tmp 32) (.const (vI 8)) f1M (vI 8))) E1 fun f1N L2 =>
 oP E (xPick b8d f1N (vB false)) L2 fun b3K M3 =>
 oP E (gsem (asB b3K) true (fA 24 b8c 3)) M3 fun f1O L3 =>
 oP E (gsem (asB b3K) true (lA 22 f1O)) L3 fun f1P N5 =>
 oP E (gsem (asB b3K) true (xBuiltin .len #[22] 3 [false] [f1P])) N5 fun f1Q M4 =>
 oP E (gsem (asB b3K) true (xBin .eql 3 (.tmp 38) (.const (vI 2)) f1Q (vI 2))) M4 fun f1R M5 =>
 oP E (xPick b3K f1R (vB false)) M5 fun a8Q N6 =>
 oP E (gsem (asB a8Q) true (fA 24 b8c 3)) N6 fun f1S N7 =>
 oP E (gsem (asB a8Q) true (lA 22 f1S)) N7 fun f1T L4 =>
 oP E (gsem (asB a8Q) true (iA 22 f1T (vI 0))) L4 fun f1U O1 =>
 oP E (gsem (asB a8Q) true (fA 24 f1U 0)) O1 fun f1V P0 =>
 oP E (gsem (asB a8Q) true (lA 3 f1V)) P0 fun c2O R0 =>
 oP E (gsem (asB a8Q) true (xBin .eql 3 (.tmp 46) (.const (vI 1)) c2O (vI 1))) R0 fun f1W N0 =>
 oP E (xPick a8Q f1W (vB false)) N0 fun a8R R1 =>
 oP E (gsem (asB a8R) true (fA 24 b8c 3)) R1 fun f1X P6 =>
 oP E (gsem (asB a8R) true (lA 22 f1X)) P6 fun f1Y O2 =>
 oP E (gsem (asB a8R) true (iA 22 f1Y (vI 0))) O2 fun f1Z R2 =>
 oP E (gsem (asB a8R) true (fA 24 f1Z 1)) R2 fun c2y N1 =>
 oP E (gsem (asB a8R) true (lA 2 c2y)) N1 fun c2z V4 =>
 oP E (gsem (asB a8R) true (xBin .eql 2 (.tmp 54) (.const (vI 3)) c2z (vI 3))) V4 fun c2A a0x =>
 oP E (xPick a8R c2A (vB false)) a0x fun b8e a0q =>
 oP E (gsem (asB b8e) true (fA 27 d8R 0)) a0q fun f2a W8 =>
 oP E (gsem (asB b8e) true (lA 3 f2a)) W8 fun f2b a0r =>
 oP E (gsem (asB b8e) true (xBin .eql 3 (.tmp 59) (.const (vI 1)) f2b (vI 1))) a0r fun f2c R6 =>
 oP E (xPick b8e f2c (vB false)) R6 fun e2q M8 =>
 R e2q M8
noncomputable def c10 : Code := Tryd.f10.body.getD .skip
def F11 (x0 : Value) (w : World) (R : RT) (E : Pan) : Prop :=
 oP E (xV (Instr.box 24 x0)) w fun u4 w_2 =>
 oP E (xV (Instr.alloc 24 true (.tuple #[]))) w_2 fun c8C w_4 =>
 oP E (lA 24 u4) w_4 fun c2r w_6 =>
 oP E (xCall (fC 37) [c2r]) w_6 fun b9o w_8 =>
 oP E (xBin .neq 29 (.tmp 7) (.const (vI 0)) b9o (vI 0)) w_8 fun a6O m7 =>
 xcond a6O
 (oP E (xV (Instr.build 24 #[])) m7 fun a9u o4 =>
 oP E (sA 24 c8C a9u) o4 fun _z_13 o3 =>
 xcell Tryd.prog 24 c8C o3 fun d5o =>
 R (Value.tuple #[d5o, b9o]) o3)
 (oP E (lA 24 u4) m7 fun b2R a2k =>
 oP E (xCall (fC 38) [b2R]) a2k fun f2d a3s =>
 oP E (sA 24 c8C f2d) a3s fun _z_20 a1N =>
 xcell Tryd.prog 24 c8C a1N fun g4t =>
 R (Value.tuple #[g4t, (vI 0)]) a1N)
end Go.Proofs.YtnhkdkcgdcgmdaaDoor
