/- The second reading of some of the program's functions, printed by gen2.py off the code; each is held against the code by the kernel. -/
import Derived.Test.YtnhkdkcgdcgmdaaDoorProg
import Derived.Test.YtnhkdkcgdcgmdaaDoorzNK0
import Derived.KernelRfl
import Derived.Test.YtnhkdkcgdcgmdaaDoorzNGz
namespace Go.Proofs.YtnhkdkcgdcgmdaaDoor
open Go.RowKit
set_option maxRecDepth 100000
def F3 (x0 x1 : Value) (w : World) (R : RT) (E : Pan) : Prop :=
 oP E (xV (Instr.box 24 x0)) w fun a9z w_2 =>
 oP E (xV (Instr.box 27 x1)) w_2 fun a0k w_4 =>
 oP E (xCall (fC 10) []) w_4 fun a4q w_6 =>
 oP E (xV (Op.unary .not a4q)) w_6 fun U7 w_8 =>
 xcond U7
 (R (vB false) w_8)
 (oP E (lA 24 a9z) w_8 fun d0f o0 =>
 oP E (xCall (fC 11) [d0f]) o0 fun d3q o8 =>
 oP E (eX d3q 0) o8 fun a8E p5 =>
 oP E (eX d3q 1) p5 fun a3C p9 =>
 oP E (xV (Instr.alloc 24 true (.tuple #[]))) p9 fun c2c r7 =>
 oP E (sA 24 c2c a8E) r7 fun _z_19 q7 =>
 oP E (lA 24 a9z) q7 fun f3a s7 =>
 oP E (xCall (fC 12) [f3a]) s7 fun b8i u9 =>
 oP E (eX b8i 0) u9 fun c3e A6 =>
 oP E (eX b8i 1) A6 fun c4S C8 =>
 oP E (xV (Instr.alloc 24 true (.tuple #[]))) C8 fun e0w E0 =>
 oP E (sA 24 e0w c3e) E0 fun _z_31 C3 =>
 oP E (lA 27 a0k) C3 fun f3b D3 =>
 oP E (xCall (fC 13) [f3b]) D3 fun d3r G6 =>
 oP E (eX d3r 0) G6 fun c4T E1 =>
 oP E (eX d3r 1) E1 fun b3S E3 =>
 oP E (xV (Instr.alloc 27 true (.tuple #[]))) E3 fun b8O I0 =>
 oP E (sA 27 b8O c4T) I0 fun _z_43 G7 =>
 oP E (lA 27 a0k) G7 fun f3c K1 =>
 oP E (xCall (fC 14) [f3c]) K1 fun d3s K4 =>
 oP E (eX d3s 0) K4 fun f3d D5 =>
 oP E (eX d3s 1) D5 fun c4U F0 =>
 oP E (xV (Instr.alloc 27 true (.tuple #[]))) F0 fun d3t M0 =>
 oP E (sA 27 d3t f3d) M0 fun _z_55 N2 =>
 oP E (xBin .neq 3 (.tmp 35) (.tmp 36) a3C c4S) N2 fun b1u M1 =>
 oP E (gsem (asB b1u) false (xBin .neq 3 (.tmp 39) (.tmp 40) (gval (asB b1u) false b3S) (gval (asB b1u) false c4U))) M1 fun f3e O8 =>
 oP E (xPick b1u (vB true) f3e) O8 fun f3f N3 =>
 xcond f3f
 (R (vB false) N3)
 (oP E (xBin .eql 3 (.tmp 43) (.const (vI 0)) c4S (vI 0)) N3 fun b4E N6 =>
 oP E (gsem (asB b4E) true (lA 24 c2c)) N6 fun f3g O9 =>
 oP E (gsem (asB b4E) true (lA 24 e0w)) O9 fun f3h P0 =>
 oP E (gsem (asB b4E) true (xCall (fC 15) [f3g, f3h])) P0 fun f3i M2 =>
 oP E (gsem (asB b4E) true (xV (Op.unary .not f3i))) M2 fun f3j P5 =>
 oP E (xPick b4E f3j (vB false)) P5 fun a2m P6 =>
 oP E (gsem (asB a2m) false (xBin .neq 3 (.tmp 52) (.const (vI 0)) (gval (asB a2m) false c4S) (vI 0))) P6 fun a4Q S4 =>
 oP E (gsem (asB (gval (asB a2m) false a4Q)) true (fA 24 c2c 0)) S4 fun c4V N8 =>
 oP E (gsem (asB (gval (asB a2m) false a4Q)) true (lA 3 c4V)) N8 fun c4W S7 =>
 oP E (gsem (asB (gval (asB a2m) false a4Q)) true (xBin .neq 3 (.tmp 56) (.const (vI 0)) c4W (vI 0))) S7 fun a9A R1 =>
 oP E (gsem (asB (gval (asB (gval (asB a2m) false a4Q)) true a9A)) false (fA 24 c2c 3)) R1 fun c4X P1 =>
 oP E (gsem (asB (gval (asB (gval (asB a2m) false a4Q)) true a9A)) false (lA 22 c4X)) P1 fun f3k S8 =>
 oP E (gsem (asB (gval (asB (gval (asB a2m) false a4Q)) true a9A)) false (xBuiltin .len #[22] 3 [false] [f3k])) S8 fun f3l N9 =>
 oP E (gsem (asB (gval (asB (gval (asB a2m) false a4Q)) true a9A)) false (xBin .gtr 3 (.tmp 61) (.const (vI 0)) f3l (vI 0))) N9 fun f3m X4 =>
 oP E (gsem (asB (gval (asB a2m) false a4Q)) true (xPick (gval (asB (gval (asB a2m) false a4Q)) true a9A) (vB true) f3m)) X4 fun f3n a0P =>
 oP E (gsem (asB a2m) false (xPick (gval (asB a2m) false a4Q) f3n (vB false))) a0P fun f3o a0l =>
 oP E (xPick a2m (vB true) f3o) a0l fun f3p a0L =>
 xcond f3p
 (R (vB false) a0L)
 (oP E (xBin .eql 3 (.tmp 66) (.const (vI 0)) c4U (vI 0)) a0L fun b8P a1g =>
 oP E (gsem (asB b8P) true (lA 27 b8O)) a1g fun f3q V6 =>
 oP E (gsem (asB b8P) true (lA 27 d3t)) V6 fun e3M P8 =>
 oP E (gsem (asB b8P) true (xCall (fC 16) [f3q, e3M])) P8 fun e3N Q6 =>
 oP E (xPick b8P e3N (vB false)) Q6 fun R2 X5 =>
 oP E (gsem (asB R2) false (xBin .neq 3 (.tmp 74) (.const (vI 0)) (gval (asB R2) false c4U) (vI 0))) X5 fun b5J a1h =>
 oP E (gsem (asB (gval (asB R2) false b5J)) true (fA 27 b8O 0)) a1h fun e3O a2e =>
 oP E (gsem (asB (gval (asB R2) false b5J)) true (lA 3 e3O)) a2e fun e3P a1i =>
 oP E (gsem (asB (gval (asB R2) false b5J)) true (xBin .eql 3 (.tmp 78) (.const (vI 0)) e3P (vI 0))) a1i fun e3Q R3 =>
 oP E (gsem (asB R2) false (xPick (gval (asB R2) false b5J) e3Q (vB false))) R3 fun b1v U6 =>
 oP E (gsem (asB (gval (asB R2) false b1v)) true (fA 27 b8O 3)) U6 fun c0C a2f =>
 oP E (gsem (asB (gval (asB R2) false b1v)) true (lA 25 c0C)) a2f fun c0D P2 =>
 oP E (gsem (asB (gval (asB R2) false b1v)) true (xBuiltin .len #[25] 3 [false] [c0D])) P2 fun c0E a2s =>
 oP E (gsem (asB (gval (asB R2) false b1v)) true (xBin .eql 3 (.tmp 84) (.const (vI 0)) c0E (vI 0))) a2s fun e3R a4V =>
 oP E (gsem (asB R2) false (xPick (gval (asB R2) false b1v) e3R (vB false))) a4V fun b1w a6b =>
 oP E (gsem (asB (gval (asB R2) false b1w)) true (fA 27 b8O 2)) a6b fun e3S a4W =>
 oP E (gsem (asB (gval (asB R2) false b1w)) true (lA 22 e3S)) a4W fun e3T a4X =>
 oP E (gsem (asB (gval (asB R2) false b1w)) true (xBuiltin .len #[22] 3 [false] [e3T])) a4X fun e3U a2g =>
 oP E (gsem (asB (gval (asB R2) false b1w)) true (xBin .eql 3 (.tmp 90) (.const (vI 0)) e3U (vI 0))) a2g fun e3V a2h =>
 oP E (gsem (asB R2) false (xPick (gval (asB R2) false b1w) e3V (vB false))) a2h fun e3W a4l =>
 oP E (xPick R2 (vB true) e3W) a4l fun e3X a5Z =>
 R e3X a5Z)))
noncomputable def c3 : Code := Tryd.f3.body.getD .skip
def h3 : Hint := (sQ (.seq (sQ (.cond (sQ .none) .none)) (sQ (sQ (sQ (sQ (.seq (sQ (.cond (sQ .none) .none)) (.seq (sQ (.cond (sQ .none) .none)) (sQ .none)))))))))
def F9 (x0 : Value) (w : World) (R : RT) (E : Pan) : Prop :=
 oP E (xV (Instr.box 44 x0)) w fun v7 w_2 =>
 oP E (xCall (fC 10) []) w_2 fun d0v w_4 =>
 oP E (xV (Op.unary .not d0v)) w_4 fun c2d w_6 =>
 xcond c2d
 (R (vB false) w_6)
 (oP E (lA 44 v7) w_6 fun g1N w_8 =>
 oP E (xCall (fC 31) [g1N]) w_8 fun b5K o0 =>
 oP E (eX b5K 0) o0 fun a7n o8 =>
 oP E (eX b5K 1) o8 fun c4Y p5 =>
 oP E (xV (Instr.alloc 44 true (.tuple #[]))) p5 fun b5L p9 =>
 oP E (sA 44 b5L a7n) p9 fun _z_17 r7 =>
 oP E (xBin .neq 29 (.tmp 26) (.const (vI 0)) c4Y (vI 0)) r7 fun c4Z q7 =>
 xcond c4Z
 (R (vB true) q7)
 (oP E (lA 44 b5L) q7 fun f3r s7 =>
 oP E (xCall (fC 31) [f3r]) s7 fun d3u u9 =>
 oP E (eX d3u 0) u9 fun f3s A6 =>
 oP E (eX d3u 1) A6 fun f3t C8 =>
 oP E (xV (Instr.alloc 44 true (.tuple #[]))) C8 fun e0x E0 =>
 oP E (sA 44 e0x f3s) E0 fun _z_31 C3 =>
 oP E (lA 44 v7) C3 fun b3X D3 =>
 oP E (xCall (fC 32) [b3X]) D3 fun b1x G6 =>
 oP E (eX b1x 0) G6 fun b4F E1 =>
 oP E (eX b1x 1) E1 fun _t37_39 E3 =>
 oP E (lA 44 b5L) E3 fun f3u I0 =>
 oP E (xCall (fC 32) [f3u]) I0 fun b8Q G7 =>
 oP E (eX b8Q 0) G7 fun c5a K1 =>
 oP E (eX b8Q 1) K1 fun _t42_47 K4 =>
 oP E (lA 44 v7) K4 fun f3v D5 =>
 oP E (xCall (fC 33) [f3v]) D5 fun d3v F0 =>
 oP E (eX d3v 0) F0 fun f3w M0 =>
 oP E (eX d3v 1) M0 fun _t47_55 N2 =>
 oP E (lA 44 b5L) N2 fun c5b M1 =>
 oP E (xCall (fC 33) [c5b]) M1 fun b8R O8 =>
 oP E (eX b8R 0) O8 fun c5c N3 =>
 oP E (eX b8R 1) N3 fun _t52_63 N6 =>
 oP E (lA 44 v7) N6 fun c5d O9 =>
 oP E (xCall (fC 34) [c5d]) O9 fun b8S P0 =>
 oP E (eX b8S 0) P0 fun _t56_69 M2 =>
 oP E (eX b8S 1) M2 fun f3x P5 =>
 oP E (lA 44 b5L) P5 fun f3y P6 =>
 oP E (xCall (fC 34) [f3y]) P6 fun d3w S4 =>
 oP E (eX d3w 0) S4 fun _t61_77 N8 =>
 oP E (eX d3w 1) N8 fun f3z S7 =>
 oP E (xBin .eql 29 (.tmp 63) (.const (vI 0)) f3t (vI 0)) S7 fun b8T R1 =>
 oP E (gsem (asB b8T) true (lA 44 b5L)) R1 fun f3A P1 =>
 oP E (gsem (asB b8T) true (lA 44 e0x)) P1 fun f3B S8 =>
 oP E (gsem (asB b8T) true (xCall (fC 35) [f3A, f3B])) S8 fun f3C N9 =>
 oP E (xPick b8T f3C (vB false)) N9 fun b8U X4 =>
 oP E (gsem (asB b8U) true (xBin .leq 3 (.tmp 71) (.tmp 72) (gval (asB b8U) true c5a) (gval (asB b8U) true b4F))) X4 fun c5e a0P =>
 oP E (xPick b8U c5e (vB false)) a0P fun b1y a0l =>
 oP E (gsem (asB b1y) true (xBin .leq 3 (.tmp 76) (.tmp 77) (gval (asB b1y) true c5c) (gval (asB b1y) true f3w))) a0l fun f3D a0L =>
 oP E (xPick b1y f3D (vB false)) a0L fun a9B a1g =>
 oP E (gsem (asB a9B) true (xBin .neq 29 (.tmp 81) (.const (vI 0)) (gval (asB a9B) true f3x) (vI 0))) a1g fun c5f V6 =>
 oP E (gsem (asB (gval (asB a9B) true c5f)) false (xBin .eql 29 (.tmp 84) (.const (vI 0)) (gval (asB (gval (asB a9B) true c5f)) false f3z) (vI 0))) V6 fun e3Y P8 =>
 oP E (gsem (asB a9B) true (xPick (gval (asB a9B) true c5f) (vB true) e3Y)) P8 fun c0F Q6 =>
 oP E (xPick a9B c0F (vB false)) Q6 fun e3Z X5 =>
 R e3Z X5))
noncomputable def c9 : Code := Tryd.f9.body.getD .skip
def F10 (w : World) (R : RT) (E : Pan) : Prop :=
 oP E (xCall (fC 36) [(vI 1)]) w fun b3J w_2 =>
 oP E (xCall (fC 36) [(vI 2)]) w_2 fun a8B w_4 =>
 oP E (xV (Instr.buildSlice 22 2 #[(0, b3J), (1, a8B)])) w_4 fun c0G w_6 =>
 oP E (xV (Instr.build 24 #[(0, (vI 6)), (3, c0G)])) w_6 fun d7g w_8 =>
 oP E (xV (Instr.build 24 #[(0, (vI 2)), (2, (Value.string ⟨#[120]⟩))])) w_8 fun g1O o0 =>
 oP E (xV (Instr.buildSlice 22 2 #[(0, d7g), (1, g1O)])) o0 fun a7f o8 =>
 oP E (xV (Instr.build 24 #[(0, (vI 8)), (3, a7f)])) o8 fun a7g p5 =>
 oP E (xCall (fC 11) [a7g]) p5 fun a5X p9 =>
 oP E (eX a5X 0) p9 fun b1f r7 =>
 oP E (eX a5X 1) r7 fun a5Y q7 =>
 oP E (xV (Instr.alloc 24 true (.tuple #[]))) q7 fun b8V s7 =>
 oP E (sA 24 b8V b1f) s7 fun _z_23 u9 =>
 oP E (xCall (fC 36) [(vI 1)]) u9 fun c3M A6 =>
 oP E (xCall (fC 36) [(vI 2)]) A6 fun c3N C8 =>
 oP E (xV (Instr.buildSlice 22 2 #[(0, c3M), (1, c3N)])) C8 fun c3O E0 =>
 oP E (xV (Instr.build 27 #[(0, (vI 3)), (1, (vI 1)), (2, c3O)])) E0 fun c3P C3 =>
 oP E (xCall (fC 13) [c3P]) C3 fun b8t D3 =>
 oP E (eX b8t 0) D3 fun c3Q G6 =>
 oP E (eX b8t 1) G6 fun c3R E1 =>
 oP E (xV (Instr.alloc 27 true (.tuple #[]))) E1 fun e0y E3 =>
 oP E (sA 27 e0y c3Q) E3 fun _z_41 I0 =>
 oP E (xBin .eql 29 (.tmp 24) (.const (vI 0)) a5Y (vI 0)) I0 fun b3K G7 =>
 oP E (gsem (asB b3K) true (xBin .eql 29 (.tmp 27) (.const (vI 0)) (gval (asB b3K) true c3R) (vI 0))) G7 fun f3E K1 =>
 oP E (xPick b3K f3E (vB false)) K1 fun b8W K4 =>
 oP E (gsem (asB b8W) true (fA 24 b8V 0)) K4 fun f3F D5 =>
 oP E (gsem (asB b8W) true (lA 3 f3F)) D5 fun f3G F0 =>
 oP E (gsem (asB b8W) true (xBin .eql 3 (.tmp 32) (.const (vI 8)) f3G (vI 8))) F0 fun f3H M0 =>
 oP E (xPick b8W f3H (vB false)) M0 fun b4G N2 =>
 oP E (gsem (asB b4G) true (fA 24 b8V 3)) N2 fun f3I M1 =>
 oP E (gsem (asB b4G) true (lA 22 f3I)) M1 fun f3J O8 =>
 oP E (gsem (asB b4G) true (xBuiltin .len #[22] 3 [false] [f3J])) O8 fun f3K N3 =>
 oP E (gsem (asB b4G) true (xBin .eql 3 (.tmp 38) (.const (vI 2)) f3K (vI 2))) N3 fun f3L N6 =>
 oP E (xPick b4G f3L (vB false)) N6 fun a9C O9 =>
 oP E (gsem (asB a9C) true (fA 24 b8V 3)) O9 fun a4R P0 =>
 oP E (gsem (asB a9C) true (lA 22 a4R)) P0 fun f3M M2 =>
 oP E (gsem (asB a9C) true (iA 22 f3M (vI 0))) M2 fun f3N P5 =>
 oP E (gsem (asB a9C) true (fA 24 f3N 0)) P5 fun f3O P6 =>
 oP E (gsem (asB a9C) true (lA 3 f3O)) P6 fun c3S S4 =>
 oP E (gsem (asB a9C) true (xBin .eql 3 (.tmp 46) (.const (vI 1)) c3S (vI 1))) S4 fun f3P N8 =>
 oP E (xPick a9C f3P (vB false)) N8 fun a9D S7 =>
 oP E (gsem (asB a9D) true (fA 24 b8V 3)) S7 fun c5g R1 =>
 oP E (gsem (asB a9D) true (lA 22 c5g)) R1 fun c5h P1 =>
 oP E (gsem (asB a9D) true (iA 22 c5h (vI 0))) P1 fun f3Q S8 =>
 oP E (gsem (asB a9D) true (fA 24 f3Q 1)) S8 fun c3C N9 =>
 oP E (gsem (asB a9D) true (lA 2 c3C)) N9 fun c3D X4 =>
 oP E (gsem (asB a9D) true (xBin .eql 2 (.tmp 54) (.const (vI 3)) c3D (vI 3))) X4 fun c3E a0P =>
 oP E (xPick a9D c3E (vB false)) a0P fun b8X a0l =>
 oP E (gsem (asB b8X) true (fA 27 e0y 0)) a0l fun f3R a0L =>
 oP E (gsem (asB b8X) true (lA 3 f3R)) a0L fun f3S a1g =>
 oP E (gsem (asB b8X) true (xBin .eql 3 (.tmp 59) (.const (vI 1)) f3S (vI 1))) a1g fun f3T V6 =>
 oP E (xPick b8X f3T (vB false)) V6 fun e4a P8 =>
 R e4a P8
noncomputable def c10 : Code := Tryd.f10.body.getD .skip
def F11 (x0 : Value) (w : World) (R : RT) (E : Pan) : Prop :=
 oP E (xV (Instr.box 24 x0)) w fun v7 w_2 =>
 oP E (xV (Instr.alloc 24 true (.tuple #[]))) w_2 fun d0w w_4 =>
 oP E (lA 24 v7) w_4 fun c3t w_6 =>
 oP E (xCall (fC 37) [c3t]) w_6 fun c0e w_8 =>
 oP E (xBin .neq 29 (.tmp 7) (.const (vI 0)) c0e (vI 0)) w_8 fun b3W o0 =>
 xcond b3W
 (oP E (xV (Instr.build 24 #[])) o0 fun b5s o8 =>
 oP E (sA 24 d0w b5s) o8 fun _z_13 p5 =>
 xcell Tryd.prog 24 d0w p5 fun g6b =>
 R (Value.tuple #[g6b, c0e]) p5)
 (oP E (lA 24 v7) o0 fun c2Q a3F =>
 oP E (xCall (fC 38) [c2Q]) a3F fun f3U a5U =>
 oP E (sA 24 d0w f3U) a5U fun _z_20 a2J =>
 xcell Tryd.prog 24 d0w a2J fun g6c =>
 R (Value.tuple #[g6c, (vI 0)]) a2J)
end Go.Proofs.YtnhkdkcgdcgmdaaDoor
