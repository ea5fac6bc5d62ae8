/- The second reading of some of the program's functions, printed by gen2.py off the code; each is held against the code by the kernel. -/
import Derived.Test.YtnhkdkcgdcgmdaaDoorProg
import Derived.Test.YtnhkdkcgdcgmdaaDoorzNK0
import Derived.KernelRfl
import Derived.Test.YtnhkdkcgdcgmdaaDoorzNGz
namespace Go.Proofs.YtnhkdkcgdcgmdaaDoor
open Go.RowKit
set_option maxRecDepth 100000
variable {w : World} {R : RT} {E : Pan}
def d0A (x1 x2 x3 x4 x9 x13 : Value) (w : World) (R : RT) (E : Pan) : Prop :=
 ∀ _τ : Fr, (oP E (xBuiltin .len #[45] 3 [false] [x1]) w fun d7r b2l =>
 oP E (xBin .eql 3 (.tmp 141) (.tmp 143) x13 d7r) b2l fun d7s b0m =>
 xcond d7s
 (R (vB true) b0m)
 (oP E (xBuiltin .append #[45, 45] 45 [true, false] [(nS), x1]) b0m fun b7x b2m =>
 oP E (xBuiltin .len #[45] 3 [false] [b7x]) b2m fun d7t b8s =>
 oP E (xBin .sub 3 (.tmp 149) (.const (vI 1)) d7t (vI 1)) b8s fun d7u b8w =>
 oP E (iA 45 b7x d7u) b8w fun d7v b5w =>
 oP E (sA 2 d7v x3) b5w fun _z_157 b8x =>
 oP E (lA 44 x4) b8x fun d7w d0B =>
 oP E (xCall (fC 18) [d7w, b7x, x2]) d0B fun c5q d0C =>
 oP E (eX c5q 0) d0C fun d7x d0D =>
 oP E (eX c5q 1) d0D fun d7y d0E =>
 oP E (xV (Instr.alloc 49 true (.tuple #[]))) d0E fun c7W a8c =>
 oP E (sA 49 c7W d7x) a8c fun _z_169 d0F =>
 oP E (xBin .eql 29 (.tmp 160) (.const (vI 0)) d7y (vI 0)) d0F fun b2Y c2e =>
 oP E (gsem (asB b2Y) true (lA 49 x9)) c2e fun d7z d0G =>
 oP E (gsem (asB b2Y) true (lA 49 c7W)) d0G fun d7A d0H =>
 oP E (gsem (asB b2Y) true (xCall (fC 20) [d7z, d7A])) d0H fun d7B g1R =>
 oP E (xPick b2Y d7B (vB false)) g1R fun d7C b5Q =>
 R d7C b5Q))
def d0I (_x1 _x2 _x3 _x4 _x9 x13 x14 : Value) (w : World) (next2 : NT) (_R : RT) (E : Pan) : Prop :=
 ∀ _τ : Fr, (oP E (xBin .add 3 (.tmp 114) (.const (vI 1)) x14 (vI 1)) w fun d7D g1S =>
 next2 [x13, d7D] g1S)
def e0A (x1 x2 x3 x4 x9 x13 x14 : Value) (w : World) (next2 : NT) (j1 : NT) (R : RT) (E : Pan) : Prop :=
 oP E (fA 49 x9 3) w fun d7E g1T =>
 oP E (lA 46 d7E) g1T fun d7F g1U =>
 oP E (xBuiltin .len #[46] 3 [false] [d7F]) g1U fun d7G g1V =>
 oP E (xBin .lss 3 (.tmp 109) (.tmp 112) x14 d7G) g1V fun d7H e0B =>
 xcond d7H
 (xcut (fun g1W g1X => d0I x1 x2 x3 x4 x9 (nth g1W 0) x14 g1X next2 R E) fun j3 =>
 oP E (fA 49 x9 3) e0B fun d7I g1Y =>
 oP E (lA 46 d7I) g1Y fun d7J g1Z =>
 oP E (iA 46 d7J x14) g1Z fun d7K g2a =>
 oP E (fA 55 d7K 0) g2a fun d7L g2c =>
 oP E (lA 4 d7L) g2c fun d7M e0C =>
 xcond d7M
 (dX e0C fun b9a =>
 qP Tryd.prog (xBuiltin .len #[45] 3 [false] [x1]) fun d7N =>
 qP Tryd.prog (xBin .geq 3 (.tmp 122) (.tmp 124) x13 d7N) fun a0T =>
 qP Tryd.prog (gsem (asB a0T) false (fA 49 x9 3)) fun c5r =>
 qP Tryd.prog (gsem (asB a0T) false (iA 45 (gval (asB a0T) false x1) (gval (asB a0T) false x13))) fun c5s =>
 qL Tryd.prog b9a (blk c5r) (gsem (asB a0T) false (lA 46 c5r)) fun d7O =>
 qP Tryd.prog (gsem (asB a0T) false (iA 46 d7O (gval (asB a0T) false x14))) fun d7P =>
 qP Tryd.prog (gsem (asB a0T) false (fA 55 d7P 1)) fun c5t =>
 qL Tryd.prog b9a (blk c5t) (gsem (asB a0T) false (lA 2 c5t)) fun d7Q =>
 qL Tryd.prog b9a (blk c5s) (gsem (asB a0T) false (lA 2 c5s)) fun d7R =>
 qP Tryd.prog (gsem (asB a0T) false (xBin .neq 2 (.tmp 132) (.tmp 136) d7Q d7R)) fun d7S =>
 qP Tryd.prog (xPick a0T (vB true) d7S) fun d7T =>
 xcond d7T
 (R (vB false) b9a)
 (oP E (xBin .add 3 (.tmp 139) (.const (vI 1)) x13 (vI 1)) b9a fun d7U g2d =>
 j3 [d7U] g2d))
 (j3 [x13] e0C))
 (j1 [x13] e0B)
def F4 (x0 x1 x2 x3 : Value) (w : World) (R : RT) (E : Pan) : Prop :=
 oP E (xV (Instr.box 44 x0)) w fun b3V w_2 =>
 oP E (xCall (fC 17) []) w_2 fun c1Z w_4 =>
 oP E (xV (Op.unary .not c1Z)) w_4 fun d0J w_6 =>
 xcond d0J
 (R (vB false) w_6)
 (oP E (xBin .lss 3 (.tmp 19) (.const (vI 0)) x2 (vI 0)) w_6 fun d0K w_8 =>
 oP E (gsem (asB d0K) false (xBin .gtr 3 (.tmp 22) (.const (vI 2000)) (gval (asB d0K) false x2) (vI 2000))) w_8 fun b5K o0 =>
 oP E (xPick d0K (vB true) b5K) o0 fun a7n o8 =>
 oP E (gsem (asB a7n) false (xBuiltin .len #[45] 3 [false] [(gval (asB a7n) false x1)])) o8 fun f4a p5 =>
 oP E (gsem (asB a7n) false (xBin .gtr 3 (.tmp 27) (.const (vI 2000)) f4a (vI 2000))) p5 fun f4b p9 =>
 oP E (xPick a7n (vB true) f4b) p9 fun f4c r7 =>
 xcond f4c
 (R (vB true) r7)
 (oP E (lA 44 b3V) r7 fun f4d q7 =>
 oP E (xCall (fC 18) [f4d, x1, x2]) q7 fun d3F s7 =>
 oP E (eX d3F 0) s7 fun f4e u9 =>
 oP E (eX d3F 1) u9 fun d3G A6 =>
 oP E (xV (Instr.alloc 49 true (.tuple #[]))) A6 fun a2E C8 =>
 oP E (sA 49 a2E f4e) C8 fun _z_29 E0 =>
 oP E (lA 44 b3V) E0 fun f4f C3 =>
 oP E (xBin .add 3 (.tmp 40) (.const (vI 1)) x2 (vI 1)) C3 fun f4g D3 =>
 oP E (xCall (fC 18) [f4f, x1, f4g]) D3 fun d3H G6 =>
 oP E (eX d3H 0) G6 fun f4h E1 =>
 oP E (eX d3H 1) E1 fun d3I E3 =>
 oP E (xV (Instr.alloc 49 true (.tuple #[]))) E3 fun b4J I0 =>
 oP E (sA 49 b4J f4h) I0 fun _z_43 G7 =>
 oP E (xBin .neq 29 (.tmp 45) (.const (vI 0)) d3G (vI 0)) G7 fun f4i K1 =>
 xcond f4i
 (oP E (xBin .eql 29 (.tmp 47) (.tmp 48) d3G d3I) K1 fun f4j K4 =>
 R f4j K4)
 (oP E (xBin .neq 29 (.tmp 50) (.const (vI 0)) d3I (vI 0)) K1 fun a9G D5 =>
 oP E (gsem (asB a9G) false (fA 49 b4J 3)) D5 fun f4k F0 =>
 oP E (gsem (asB a9G) false (lA 46 f4k)) F0 fun f4l M0 =>
 oP E (gsem (asB a9G) false (fA 49 a2E 3)) M0 fun f4m N2 =>
 oP E (gsem (asB a9G) false (lA 46 f4m)) N2 fun f4n M1 =>
 oP E (gsem (asB a9G) false (xCall (fC 19) [f4l, f4n])) M1 fun f4o O8 =>
 oP E (gsem (asB a9G) false (xV (Op.unary .not f4o))) O8 fun f4p N3 =>
 oP E (xPick a9G (vB true) f4p) N3 fun b1A N6 =>
 oP E (gsem (asB b1A) false (fA 49 b4J 2)) N6 fun f4q O9 =>
 oP E (gsem (asB b1A) false (lA 3 f4q)) O9 fun f4r P0 =>
 oP E (gsem (asB b1A) false (fA 49 a2E 2)) P0 fun f4s M2 =>
 oP E (gsem (asB b1A) false (lA 3 f4s)) M2 fun f4t P5 =>
 oP E (gsem (asB b1A) false (xBin .lss 3 (.tmp 62) (.tmp 64) f4r f4t)) P5 fun f4u P6 =>
 oP E (xPick b1A (vB true) f4u) P6 fun a9H S4 =>
 oP E (gsem (asB a9H) false (fA 49 b4J 2)) S4 fun f4v N8 =>
 oP E (gsem (asB a9H) false (lA 3 f4v)) N8 fun f4w S7 =>
 oP E (gsem (asB a9H) false (fA 49 a2E 2)) S7 fun f4x R1 =>
 oP E (gsem (asB a9H) false (lA 3 f4x)) R1 fun f4y P1 =>
 oP E (gsem (asB a9H) false (xBin .add 3 (.tmp 71) (.const (vI 1)) f4y (vI 1))) P1 fun f4z S8 =>
 oP E (gsem (asB a9H) false (xBin .gtr 3 (.tmp 69) (.tmp 72) f4w f4z)) S8 fun f4A N9 =>
 oP E (xPick a9H (vB true) f4A) N9 fun b4K X4 =>
 oP E (gsem (asB b4K) false (fA 49 a2E 2)) X4 fun f4B a0P =>
 oP E (gsem (asB b4K) false (lA 3 f4B)) a0P fun f4C a0l =>
 oP E (gsem (asB b4K) false (xBin .gtr 3 (.tmp 77) (.tmp 78) f4C (gval (asB b4K) false x2))) a0l fun f4D a0L =>
 oP E (xPick b4K (vB true) f4D) a0L fun f4E a1g =>
 xcond f4E
 (R (vB false) a1g)
 (oP E (fA 49 a2E 0) a1g fun f4F V6 =>
 oP E (lA 3 f4F) V6 fun e4i P8 =>
 oP E (xBin .neq 3 (.tmp 82) (.const (vI 1)) e4i (vI 1)) P8 fun b1B Q6 =>
 oP E (gsem (asB b1B) true (lA 49 a2E)) Q6 fun e4j X5 =>
 oP E (gsem (asB b1B) true (lA 49 b4J)) X5 fun e4k a1h =>
 oP E (gsem (asB b1B) true (xCall (fC 20) [e4j, e4k])) a1h fun e4l a2e =>
 oP E (gsem (asB b1B) true (xV (Op.unary .not e4l))) a2e fun e4m a1i =>
 oP E (xPick b1B e4m (vB false)) a1i fun e4n R3 =>
 xcond e4n
 (R (vB false) R3)
 (oP E (fA 49 a2E 0) R3 fun e4o U6 =>
 oP E (lA 3 e4o) U6 fun e4p a2f =>
 oP E (xBin .eql 3 (.tmp 91) (.const (vI 1)) e4p (vI 1)) a2f fun b1C P2 =>
 oP E (gsem (asB b1C) true (fA 49 a2E 2)) P2 fun e4q a2s =>
 oP E (gsem (asB b1C) true (lA 3 e4q)) a2s fun e4r a4V =>
 oP E (gsem (asB b1C) true (xBin .neq 3 (.tmp 95) (.tmp 96) e4r (gval (asB b1C) true x2))) a4V fun e4s a6b =>
 oP E (xPick b1C e4s (vB false)) a6b fun a4r a4W =>
 oP E (gsem (asB a4r) false (fA 49 a2E 0)) a4W fun d7V a4X =>
 oP E (gsem (asB a4r) false (lA 3 d7V)) a4X fun d7W a2g =>
 oP E (gsem (asB a4r) false (xBin .neq 3 (.tmp 101) (.const (vI 3)) d7W (vI 3))) a2g fun b2Z a2h =>
 oP E (gsem (asB (gval (asB a4r) false b2Z)) true (fA 49 a2E 1)) a2h fun d7X a4l =>
 oP E (gsem (asB (gval (asB a4r) false b2Z)) true (lA 3 d7X)) a4l fun d7Y a5Z =>
 oP E (gsem (asB (gval (asB a4r) false b2Z)) true (xBin .neq 3 (.tmp 105) (.const (vI 0)) d7Y (vI 0))) a5Z fun d7Z a6Z =>
 oP E (gsem (asB a4r) false (xPick (gval (asB a4r) false b2Z) d7Z (vB false))) a6Z fun d8a a7W =>
 oP E (xPick a4r (vB true) d8a) a7W fun d8b a7a =>
 xcond d8b
 (R (vB false) a7a)
 (xcut (fun g2e g2f => d0A x1 x2 x3 b3V a2E (nth g2e 0) g2f R E) fun j1 =>
 xloop [13, 14] [(vI 0), (vI 0)] a7a fun τ_219 g2g next2 =>
 e0A x1 x2 x3 b3V a2E (τ_219 13) (τ_219 14) g2g next2 j1 R E))))))
noncomputable def c4 : Code := Tryd.f4.body.getD .skip
def h4 : Hint := (sQ (.seq (sQ (.cond (sQ .none) .none)) (.seq (sQ (.cond (sQ .none) .none)) (sQ (sQ (.seq (sQ (.cond (sQ .none) .none)) (.seq (sQ (.cond (sQ .none) .none)) (.seq (sQ (.cond (sQ .none) .none)) (.seq (sQ (.cond (sQ .none) .none)) (sQ (.cut [13] (sQ (.block (.loop [13, 14] (.seq (sQ (.cond .none .none)) (.cut [13] (.block (sQ (.cond (.seq (.seq (.reg [(0, 5316911983139663491615228241121378304, 8192), (0, 10633823966279326983230456482242756608, 2), (2, 21267647932558653966460912964485513216, 10633823966279326983230456482242756608), (5, 42535295865117307932921825928971026432, 26584559915698317458076141205606891520), (8, 85070591730234615865843651857942052864, 42535295865117307932921825928971026432), (16, 170141183460469231731687303715884105728, 85070591730234615865843651857942053376), (48, 340282366920938463463374607431768211456, 255211775190703847597530955573826158592), (16, 680564733841876926926749214863536422912, 85070591730234615865843651857942069248), (208, 1361129467683753853853498429727072845824, 1105917692493050006255967474153246687232), (272, 2722258935367507707706996859454145691648, 1446200059413988469719342081585014898688), (528, 5444517870735015415413993718908291383296, 2807329527097742323572840511312087744512), (16, 10889035741470030830827987437816582766592, 85070591730234615865843651857942052866), (16, 21778071482940061661655974875633165533184, 85070591730234615865843651857942061056), (6160, 43556142965880123323311949751266331066368, 32752177816140327108349805965307690352640), (8208, 87112285931760246646623899502532662132736, 43641213557610357939177793403124273119232), (17424, 174224571863520493293247799005065324265472, 92641874394225496677903736873298895568896), (32784, 348449143727040986586495598010130648530944, 174309642455250727909113642656923266318336)] [17472, 17472, 17472, 17472, 17472, 17472, 17408, 17472, 17472, 17472, 16448, 17472, 17472, 17472, 1088, 17472, 17472] (.early 0 (.early 1 (.early 2 (.early 3 (.early 4 (.early 5 (.early 7 (.early 11 (.early 12 (.early 13 (.load 6 (.early 8 (.early 9 (.load 10 (.load 14 (.early 15 (.early 16 .done)))))))))))))))))) (.cond (sQ .none) .none)) .none) .none))) .none))))) (.seq (sQ (.cond (sQ .none) .none)) (sQ (sQ (sQ (sQ .none))))))))))))))))
theorem g2h (x0 x1 x2 x3 : Value) (w : World) (R : RT) (E : Pan) : F4 x0 x1 x2 x3 w R E = callX Tryd.prog [.tmp 8] c4 h4 [x0, x1, x2, x3] w R E := by kernel_rfl
theorem g2i {x0 x1 x2 x3 : Value} (h : F4 x0 x1 x2 x3 w R E) : Cv Tryd.prog 4 #[x0, x1, x2, x3] w R E := by
 refine h9 (args := [x0, x1, x2, x3]) (c := c4) (h := h4) (rs := [.tmp 8]) Tryd.func4 (by kernel_rfl) (by kernel_rfl) (nB (by kernel_rfl)) (by kernel_rfl) (by kernel_rfl) (by kernel_rfl) ?_
 rw [← g2h]
 exact h
def F5 (x0 x1 : Value) (w : World) (R : RT) (E : Pan) : Prop :=
 oP E (xCall (fC 17) []) w fun b0I w_2 =>
 oP E (xV (Op.unary .not b0I)) w_2 fun a1D w_4 =>
 xcond a1D
 (R (vB false) w_4)
 (oP E (xBin .lss 3 (.tmp 10) (.const (vI 0)) x0 (vI 0)) w_4 fun a5O w_6 =>
 oP E (gsem (asB a5O) false (xBin .gtr 3 (.tmp 13) (.const (vI 500)) (gval (asB a5O) false x0) (vI 500))) w_6 fun U7 w_8 =>
 oP E (xPick a5O (vB true) U7) w_8 fun a4U o0 =>
 oP E (gsem (asB a4U) false (xBin .lss 3 (.tmp 17) (.const (vI 0)) (gval (asB a4U) false x1) (vI 0))) o0 fun b4B o8 =>
 oP E (xPick a4U (vB true) b4B) o8 fun a8G p5 =>
 oP E (gsem (asB a8G) false (xBin .gtr 3 (.tmp 21) (.const (vI 2000)) (gval (asB a8G) false x1) (vI 2000))) p5 fun f4G p9 =>
 oP E (xPick a8G (vB true) f4G) p9 fun f4H r7 =>
 xcond f4H
 (R (vB true) r7)
 (oP E (xV (Instr.build 58 #[(0, (Value.string ⟨#[120]⟩))])) r7 fun c3n q7 =>
 oP E (xV (Instr.buildSlice 41 1 #[(0, c3n)])) q7 fun b3Q s7 =>
 oP E (xCall (fC 22) [(Value.string ⟨#[120]⟩)]) s7 fun f4I u9 =>
 oP E (xCall (fC 23) [x0]) u9 fun f4J A6 =>
 oP E (xCall (fC 21) [(vI 1), f4I, f4J]) A6 fun f4K C8 =>
 oP E (xV (Instr.buildSlice 25 1 #[(0, f4K)])) C8 fun f4L E0 =>
 oP E (xCall (fC 22) [(Value.string ⟨#[120]⟩)]) E0 fun f4M C3 =>
 oP E (xCall (fC 23) [(vI 1)]) C3 fun f4N D3 =>
 oP E (xCall (fC 25) [(vI 6), f4M, f4N]) D3 fun f4O G6 =>
 oP E (xCall (fC 24) [(Value.string ⟨#[120]⟩), f4O]) G6 fun f4P E1 =>
 oP E (xV (Instr.buildSlice 42 1 #[(0, f4P)])) E1 fun f4Q E3 =>
 oP E (xV (Instr.build 63 #[(0, (vI 4)), (3, f4L), (4, f4Q)])) E3 fun f4R I0 =>
 oP E (xV (Instr.buildSlice 42 1 #[(0, f4R)])) I0 fun f4S G7 =>
 oP E (xV (Instr.build 44 #[(0, b3Q), (1, f4S)])) G7 fun f4T K1 =>
 oP E (xV (Instr.alloc 44 true (.tuple #[]))) K1 fun c2f K4 =>
 oP E (sA 44 c2f f4T) K4 fun _z_49 D5 =>
 oP E (lA 44 c2f) D5 fun c3h F0 =>
 oP E (xCall (fC 18) [c3h, (nS), x1]) F0 fun b9b M0 =>
 oP E (eX b9b 0) M0 fun c5u N2 =>
 oP E (eX b9b 1) N2 fun c5v M1 =>
 oP E (xV (Instr.alloc 49 true (.tuple #[]))) M1 fun b5R O8 =>
 oP E (sA 49 b5R c5u) O8 fun _z_61 N3 =>
 oP E (xBin .neq 29 (.tmp 45) (.const (vI 0)) c5v (vI 0)) N3 fun b4L N6 =>
 oP E (gsem (asB b4L) false (fA 49 b5R 4)) N6 fun c5w O9 =>
 oP E (gsem (asB b4L) false (lA 45 c5w)) O9 fun c5x P0 =>
 oP E (gsem (asB b4L) false (xBuiltin .len #[45] 3 [false] [c5x])) P0 fun f4U M2 =>
 oP E (gsem (asB b4L) false (xBin .neq 3 (.tmp 50) (.const (vI 1)) f4U (vI 1))) M2 fun f4V P5 =>
 oP E (xPick b4L (vB true) f4V) P5 fun a4S P6 =>
 oP E (gsem (asB a4S) false (fA 49 b5R 4)) P6 fun c3i S4 =>
 oP E (gsem (asB a4S) false (lA 45 c3i)) S4 fun c4V N8 =>
 oP E (gsem (asB a4S) false (iA 45 c4V (vI 0))) N8 fun c4W S7 =>
 oP E (gsem (asB a4S) false (lA 2 c4W)) S7 fun a9A R1 =>
 oP E (gsem (asB a4S) false (xBin .quo 3 (.tmp 58) (.const (vI 2)) (gval (asB a4S) false x1) (vI 2))) R1 fun c4X P1 =>
 oP E (gsem (asB a4S) false (xBuiltin .min #[3, 3] 3 [false, false] [c4X, (gval (asB a4S) false x0)])) P1 fun c5y S8 =>
 oP E (gsem (asB a4S) false (xBin .neq 2 (.tmp 57) (.tmp 61) a9A c5y)) S8 fun c5z N9 =>
 oP E (xPick a4S (vB true) c5z) N9 fun a3V X4 =>
 oP E (gsem (asB a3V) false (fA 49 b5R 2)) X4 fun f4W a0P =>
 oP E (gsem (asB a3V) false (lA 3 f4W)) a0P fun c5A a0l =>
 oP E (gsem (asB a3V) false (xBin .mul 3 (.const (vI 2)) (.tmp 68) (vI 2) (gval (asB a3V) false x0))) a0l fun c3j a0L =>
 oP E (gsem (asB a3V) false (xBin .add 3 (.tmp 69) (.const (vI 1)) c3j (vI 1))) a0L fun b3P a1g =>
 oP E (gsem (asB a3V) false (xBuiltin .min #[3, 3] 3 [false, false] [(gval (asB a3V) false x1), b3P])) a1g fun c3k V6 =>
 oP E (gsem (asB a3V) false (xBin .neq 3 (.tmp 66) (.tmp 71) c5A c3k)) V6 fun e4t P8 =>
 oP E (xPick a3V (vB true) e4t) P8 fun e4u Q6 =>
 xcond e4u
 (R (vB false) Q6)
 (oP E (xBin .mul 3 (.const (vI 2)) (.tmp 75) (vI 2) x0) Q6 fun e4v X5 =>
 oP E (xBin .add 3 (.tmp 76) (.const (vI 1)) e4v (vI 1)) X5 fun e4w a1h =>
 oP E (xBin .geq 3 (.tmp 74) (.tmp 77) x1 e4w) a1h fun e4x a2e =>
 xcond e4x
 (oP E (fA 49 b5R 0) a2e fun e4y a1i =>
 oP E (lA 3 e4y) a1i fun e4z R3 =>
 oP E (xBin .eql 3 (.tmp 80) (.const (vI 2)) e4z (vI 2)) R3 fun e4A U6 =>
 R e4A U6)
 (oP E (fA 49 b5R 0) a2e fun c0C a2f =>
 oP E (lA 3 c0C) a2f fun c0D P2 =>
 oP E (xBin .eql 3 (.tmp 83) (.const (vI 1)) c0D (vI 1)) P2 fun c0E a2s =>
 R c0E a2s))))
noncomputable def c5 : Code := Tryd.f5.body.getD .skip
def h5 : Hint := (sQ (.seq (sQ (.cond (sQ .none) .none)) (.seq (sQ (.cond (sQ .none) .none)) (sQ (sQ (.seq (sQ (.cond (sQ .none) .none)) (.seq (sQ (.cond (sQ .none) .none)) (sQ .none))))))))
def g2j (x0 x1 x2 x7 x8 : Value) (w : World) (R : RT) (E : Pan) : Prop :=
 ∀ _τ : Fr, (oP E (xV (Instr.build 58 #[(0, (Value.string ⟨#[120]⟩))])) w fun f4X o8 =>
 oP E (xV (Instr.buildSlice 41 1 #[(0, f4X)])) o8 fun f4Y p5 =>
 oP E (xCall (fC 23) [x1]) p5 fun f4Z p9 =>
 oP E (xCall (fC 23) [x2]) p9 fun f5a r7 =>
 oP E (xCall (fC 25) [x0, f4Z, f5a]) r7 fun f5b q7 =>
 oP E (xCall (fC 24) [(Value.string ⟨#[120]⟩), f5b]) q7 fun f5c s7 =>
 oP E (xV (Instr.buildSlice 42 1 #[(0, f5c)])) s7 fun f5d u9 =>
 oP E (xV (Instr.build 44 #[(0, f4Y), (1, f5d)])) u9 fun f5e A6 =>
 oP E (xV (Instr.alloc 44 true (.tuple #[]))) A6 fun a2E C8 =>
 oP E (sA 44 a2E f5e) C8 fun _z_29 E0 =>
 oP E (lA 44 a2E) E0 fun f5f C3 =>
 oP E (xCall (fC 18) [f5f, (nS), (vI 10)]) C3 fun d3J D3 =>
 oP E (eX d3J 0) D3 fun f5g G6 =>
 oP E (eX d3J 1) G6 fun f5h E1 =>
 oP E (xV (Instr.alloc 49 true (.tuple #[]))) E1 fun a7o E3 =>
 oP E (sA 49 a7o f5g) E3 fun _z_41 I0 =>
 oP E (xBin .neq 29 (.tmp 77) (.const (vI 0)) f5h (vI 0)) I0 fun b9c G7 =>
 oP E (gsem (asB b9c) false (fA 49 a7o 2)) G7 fun f5i K1 =>
 oP E (gsem (asB b9c) false (lA 3 f5i)) K1 fun f5j K4 =>
 oP E (gsem (asB b9c) false (xBin .neq 3 (.tmp 81) (.const (vI 1)) f5j (vI 1))) K4 fun f5k D5 =>
 oP E (xPick b9c (vB true) f5k) D5 fun b4M F0 =>
 oP E (gsem (asB b4M) false (fA 49 a7o 4)) F0 fun f5l M0 =>
 oP E (gsem (asB b4M) false (lA 45 f5l)) M0 fun f5m N2 =>
 oP E (gsem (asB b4M) false (xBuiltin .len #[45] 3 [false] [f5m])) N2 fun f5n M1 =>
 oP E (gsem (asB b4M) false (xBin .neq 3 (.tmp 87) (.const (vI 1)) f5n (vI 1))) M1 fun f5o O8 =>
 oP E (xPick b4M (vB true) f5o) O8 fun b4N N3 =>
 oP E (gsem (asB b4N) false (fA 49 a7o 1)) N3 fun f5p N6 =>
 oP E (gsem (asB b4N) false (lA 3 f5p)) N6 fun f5q O9 =>
 oP E (gsem (asB b4N) false (xBin .neq 3 (.tmp 92) (.tmp 93) f5q (gval (asB b4N) false x8))) O9 fun f5r P0 =>
 oP E (xPick b4N (vB true) f5r) P0 fun f5s M2 =>
 xcond f5s
 (R (vB false) M2)
 (oP E (xBin .neq 3 (.tmp 96) (.const (vI 0)) x8 (vI 0)) M2 fun f5t P5 =>
 xcond f5t
 (oP E (fA 49 a7o 0) P5 fun f5u P6 =>
 oP E (lA 3 f5u) P6 fun f5v S4 =>
 oP E (xBin .eql 3 (.tmp 99) (.const (vI 3)) f5v (vI 3)) S4 fun a8u N8 =>
 oP E (gsem (asB a8u) true (fA 49 a7o 4)) N8 fun e4B S7 =>
 oP E (gsem (asB a8u) true (lA 45 e4B)) S7 fun e4C R1 =>
 oP E (gsem (asB a8u) true (iA 45 e4C (vI 0))) R1 fun e4D P1 =>
 oP E (gsem (asB a8u) true (lA 2 e4D)) P1 fun e4E S8 =>
 oP E (gsem (asB a8u) true (xBin .eql 2 (.tmp 105) (.const (vI 0)) e4E (vI 0))) S8 fun e4F N9 =>
 oP E (xPick a8u e4F (vB false)) N9 fun e4G X4 =>
 R e4G X4)
 (oP E (fA 49 a7o 0) P5 fun e4H a0P =>
 oP E (lA 3 e4H) a0P fun b5S a0l =>
 oP E (xBin .eql 3 (.tmp 109) (.const (vI 2)) b5S (vI 2)) a0l fun a4s a0L =>
 oP E (gsem (asB a4s) true (fA 49 a7o 4)) a0L fun e4I a1g =>
 oP E (gsem (asB a4s) true (lA 45 e4I)) a1g fun c0L V6 =>
 oP E (gsem (asB a4s) true (iA 45 c0L (vI 0))) V6 fun d8c P8 =>
 oP E (gsem (asB a4s) true (lA 2 d8c)) P8 fun d8d Q6 =>
 oP E (gsem (asB a4s) true (xBin .eql 2 (.tmp 115) (.tmp 116) d8d (gval (asB a4s) true x7))) Q6 fun d8e X5 =>
 oP E (xPick a4s d8e (vB false)) X5 fun d8f a1h =>
 R d8f a1h)))
def F6 (x0 x1 x2 : Value) (w : World) (R : RT) (E : Pan) : Prop :=
 oP E (xCall (fC 17) []) w fun g2k w_2 =>
 oP E (xV (Op.unary .not g2k)) w_2 fun b8J w_4 =>
 xcond b8J
 (R (vB false) w_4)
 (oP E (xBin .eql 2 (.tmp 14) (.const (vI (-9223372036854775808))) x1 (vI (-9223372036854775808))) w_4 fun b2U w_6 =>
 oP E (gsem (asB b2U) false (xBin .eql 2 (.tmp 17) (.const (vI (-9223372036854775808))) (gval (asB b2U) false x2) (vI (-9223372036854775808)))) w_6 fun g2l w_8 =>
 oP E (xPick b2U (vB true) g2l) w_8 fun g2m o0 =>
 xcond g2m
 (R (vB true) o0)
 (xcut (fun e0D a2e => g2j x0 x1 x2 (nth e0D 0) (nth e0D.tail 0) a2e R E) fun j1 =>
 oP E (xBin .eql 3 (.tmp 20) (.const (vI 6)) x0 (vI 6)) o0 fun e4J a1i =>
 xcond e4J
 (oP E (xCall (fC 26) [x1, x2]) a1i fun c7X R3 =>
 oP E (eX c7X 0) R3 fun e4K U6 =>
 oP E (eX c7X 1) U6 fun e4L a2f =>
 j1 [e4K, e4L] a2f)
 (oP E (xBin .eql 3 (.tmp 20) (.const (vI 7)) x0 (vI 7)) a1i fun e4M P2 =>
 xcond e4M
 (oP E (xCall (fC 27) [x1, x2]) P2 fun c7Y a2s =>
 oP E (eX c7Y 0) a2s fun e4N a4V =>
 oP E (eX c7Y 1) a4V fun e4O a6b =>
 j1 [e4N, e4O] a6b)
 (oP E (xBin .eql 3 (.tmp 20) (.const (vI 8)) x0 (vI 8)) P2 fun e4P a4W =>
 xcond e4P
 (oP E (xCall (fC 28) [x1, x2]) a4W fun c7Z a4X =>
 oP E (eX c7Z 0) a4X fun e4Q a2g =>
 oP E (eX c7Z 1) a2g fun e4R a2h =>
 j1 [e4Q, e4R] a2h)
 (oP E (xBin .eql 3 (.tmp 20) (.const (vI 9)) x0 (vI 9)) a4W fun e4S a4l =>
 xcond e4S
 (oP E (xCall (fC 29) [x1, x2]) a4l fun c8a a5Z =>
 oP E (eX c8a 0) a5Z fun e4T a6Z =>
 oP E (eX c8a 1) a6Z fun e4U a7W =>
 j1 [e4T, e4U] a7W)
 (oP E (xBin .eql 3 (.tmp 20) (.const (vI 10)) x0 (vI 10)) a4l fun e4V a7a =>
 xcond e4V
 (oP E (xCall (fC 30) [x1, x2]) a7a fun c8b b2l =>
 oP E (eX c8b 0) b2l fun e4W b0m =>
 oP E (eX c8b 1) b0m fun e4X b2m =>
 j1 [e4W, e4X] b2m)
 (R (vB true) a7a)))))))
noncomputable def c6 : Code := Tryd.f6.body.getD .skip
def h6 : Hint := (sQ (.seq (sQ (.cond (sQ .none) .none)) (.seq (sQ (.cond (sQ .none) .none)) (sQ (.cut [7, 8] (sQ (.block (sQ (.cond .none (sQ (.cond .none (sQ (.cond .none (sQ (.cond .none (sQ (.cond .none (sQ .none))))))))))))) (sQ (sQ (.seq (sQ (.cond (sQ .none) .none)) (.seq (sQ (.cond (sQ .none) .none)) (sQ .none))))))))))
noncomputable def c7 : Code := Tryd.f7.body.getD .skip
def h7 : Hint := (sQ (.seq (sQ (.cond (sQ .none) .none)) (.seq (sQ (.cond (sQ .none) .none)) (sQ (sQ (.seq (sQ (.cond (sQ .none) .none)) (sQ (.seq (sQ (.cond (sQ .none) .none)) (.seq (sQ (.cond (sQ .none) .none)) (.seq (sQ (.cond (sQ .none) .none)) (sQ (.cut [13] (sQ (.cond .none .none)) (sQ .none)))))))))))))
def F17 (w : World) (R : RT) (E : Pan) : Prop :=
 oP E (xV (Instr.build 24 #[(0, (vI 2)), (2, (Value.string ⟨#[120]⟩))])) w fun b2j w_2 =>
 oP E (xV (Instr.build 24 #[(0, (vI 1)), (1, (vI 2))])) w_2 fun a3H w_4 =>
 oP E (xV (Instr.buildSlice 22 2 #[(0, b2j), (1, a3H)])) w_4 fun a6t w_6 =>
 oP E (xV (Instr.build 24 #[(0, (vI 6)), (3, a6t)])) w_6 fun a3O w_8 =>
 oP E (xV (Instr.alloc 24 true (.tuple #[]))) w_8 fun f5w o0 =>
 oP E (sA 24 f5w a3O) o0 fun _z_11 o8 =>
 oP E (xV (Instr.build 58 #[(0, (Value.string ⟨#[120]⟩))])) o8 fun b2k p5 =>
 oP E (xV (Instr.buildSlice 41 1 #[(0, b2k)])) p5 fun b4c p9 =>
 oP E (xV (Instr.build 24 #[(0, (vI 1)), (1, (vI 1))])) p9 fun b4d r7 =>
 oP E (xV (Instr.buildSlice 22 1 #[(0, b4d)])) r7 fun b4e q7 =>
 oP E (xV (Instr.build 63 #[(0, (vI 1)), (1, (Value.string ⟨#[120]⟩)), (2, b4e)])) q7 fun f5x s7 =>
 oP E (lA 24 f5w) s7 fun c2S u9 =>
 oP E (xV (Instr.buildSlice 22 1 #[(0, c2S)])) u9 fun f5y A6 =>
 oP E (xV (Instr.build 63 #[(0, (vI 1)), (1, (Value.string ⟨#[120]⟩)), (2, f5y)])) A6 fun f5z C8 =>
 oP E (xV (Instr.buildSlice 42 2 #[(0, f5x), (1, f5z)])) C8 fun f5A E0 =>
 oP E (xV (Instr.build 44 #[(0, b4c), (1, f5A)])) E0 fun f5B C3 =>
 oP E (xV (Instr.alloc 44 true (.tuple #[]))) C3 fun e0E D3 =>
 oP E (sA 44 e0E f5B) D3 fun _z_35 G6 =>
 oP E (lA 44 e0E) G6 fun c2X E1 =>
 oP E (xCall (fC 18) [c2X, (nS), (vI 9)]) E1 fun b8h E3 =>
 oP E (eX b8h 0) E3 fun c3G I0 =>
 oP E (eX b8h 1) I0 fun c3H G7 =>
 oP E (xV (Instr.alloc 49 true (.tuple #[]))) G7 fun b9d K1 =>
 oP E (sA 49 b9d c3G) K1 fun _z_47 K4 =>
 oP E (xBin .eql 29 (.tmp 24) (.const (vI 0)) c3H (vI 0)) K4 fun b9e D5 =>
 oP E (gsem (asB b9e) true (fA 49 b9d 0)) D5 fun f5C F0 =>
 oP E (gsem (asB b9e) true (lA 3 f5C)) F0 fun f5D M0 =>
 oP E (gsem (asB b9e) true (xBin .eql 3 (.tmp 28) (.const (vI 2)) f5D (vI 2))) M0 fun b9f N2 =>
 oP E (xPick b9e b9f (vB false)) N2 fun b1D M1 =>
 oP E (gsem (asB b1D) true (fA 49 b9d 2)) M1 fun b4h O8 =>
 oP E (gsem (asB b1D) true (lA 3 b4h)) O8 fun b4i N3 =>
 oP E (gsem (asB b1D) true (xBin .eql 3 (.tmp 33) (.const (vI 2)) b4i (vI 2))) N3 fun b4j N6 =>
 oP E (xPick b1D b4j (vB false)) N6 fun a8J O9 =>
 oP E (gsem (asB a8J) true (fA 49 b9d 4)) O9 fun f5E P0 =>
 oP E (gsem (asB a8J) true (lA 45 f5E)) P0 fun f5F M2 =>
 oP E (gsem (asB a8J) true (xBuiltin .len #[45] 3 [false] [f5F])) M2 fun f5G P5 =>
 oP E (gsem (asB a8J) true (xBin .eql 3 (.tmp 39) (.const (vI 1)) f5G (vI 1))) P5 fun f5H P6 =>
 oP E (xPick a8J f5H (vB false)) P6 fun b1E S4 =>
 oP E (gsem (asB b1E) true (fA 49 b9d 4)) S4 fun f5I N8 =>
 oP E (gsem (asB b1E) true (lA 45 f5I)) N8 fun f5J S7 =>
 oP E (gsem (asB b1E) true (iA 45 f5J (vI 0))) S7 fun f5K R1 =>
 oP E (gsem (asB b1E) true (lA 2 f5K)) R1 fun f5L P1 =>
 oP E (gsem (asB b1E) true (xBin .eql 2 (.tmp 46) (.const (vI 3)) f5L (vI 3))) P1 fun f5M S8 =>
 oP E (xPick b1E f5M (vB false)) S8 fun f5N N9 =>
 R f5N N9
noncomputable def c17 : Code := Tryd.f17.body.getD .skip
def h17 : Hint := (sQ (sQ (sQ (sQ (sQ .none)))))
theorem f5O (w : World) (R : RT) (E : Pan) : F17  w R E = callX Tryd.prog [.tmp 0] c17 h17 [] w R E := by kernel_rfl
theorem f5P (h : F17  w R E) : Cv Tryd.prog 17 #[] w R E := by
 refine h9 (args := []) (c := c17) (h := h17) (rs := [.tmp 0]) Tryd.func17 (by kernel_rfl) (by kernel_rfl) (Nat.zero_le _) (by kernel_rfl) (by kernel_rfl) (by kernel_rfl) ?_
 rw [← f5O]
 exact h
def c5B (x6 x14 : Value) (w : World) (R : RT) (E : Pan) : Prop :=
 ∀ _τ : Fr, (oP E (lA 49 x14) w fun e4Y P5 =>
 oP E (sA 49 x6 e4Y) P5 fun _z_73 P6 =>
 xcell Tryd.prog 49 x6 P6 fun g6e =>
 R (Value.tuple #[g6e, (vI 0)]) P6)
def d3K (_x6 _x10 _x14 _x89 _x90 x91 : Value) (w : World) (next3 : NT) (_R : RT) (E : Pan) : Prop :=
 ∀ _τ : Fr, (oP E (xBin .add 3 (.tmp 91) (.const (vI 1)) x91 (vI 1)) w fun e4Z g6f =>
 next3 [e4Z] g6f)
def c5C (x6 x10 x14 x89 x90 x91 : Value) (w : World) (next3 : NT) (j2 : NT) (R : RT) (E : Pan) : Prop :=
 oP E (xBin .lss 3 (.tmp 91) (.tmp 90) x91 x90) w fun f5Q f5R =>
 xcond f5Q
 (xcut (fun _ c0M => d3K x6 x10 x14 x89 x90 x91 c0M next3 R E) fun j4 =>
 oP E (iA 41 x89 x91) f5R fun f5S b4O =>
 oP E (lA 58 f5S) b4O fun f5T g6g =>
 oP E (xV (Instr.alloc 58 true (.tuple #[]))) g6g fun b9g b3a =>
 oP E (sA 58 b9g f5T) b3a fun _z_96 b3b =>
 oP E (fA 58 b9g 1) b3b fun f5U c5D =>
 oP E (lA 3 f5U) c5D fun e5a c2g =>
 oP E (xBin .gtr 3 (.tmp 96) (.const (vI 0)) e5a (vI 0)) c2g fun e5b b9h =>
 xcond e5b
 (dX b9h fun Q6 =>
 qP Tryd.prog (fA 49 x14 5) fun c0N =>
 qP Tryd.prog (xNil x10) fun d8g =>
 qP Tryd.prog (fA 90 d8g 5) fun c5E =>
 qP Tryd.prog (fA 58 b9g 0) fun c5F =>
 qL Tryd.prog Q6 (blk c0N) (lA 47 c0N) fun e5c =>
 qL Tryd.prog Q6 (blk c5E) (lA 88 c5E) fun c5G =>
 qL Tryd.prog Q6 (blk c5F) (lA 9 c5F) fun d8h =>
 qL Tryd.prog Q6 (blk c5G) (xV (Instr.lookup 88 c5G d8h false)) fun d8i =>
 oP E (xV (Instr.buildSlice 47 1 #[(0, d8i)])) Q6 fun d8j R3 =>
 keepX [(blk c0N)] Q6 R3 (opK Tryd.prog E (xBuiltin .append #[47, 47] 47 [false, false] [e5c, d8j]) R3 fun d8k U6 =>
 keepX [] R3 U6 (qP Tryd.prog (fA 49 x14 5) fun d8l =>
 oP E (sA 47 d8l d8k) U6 fun _z_118 e0F =>
 keepX [] U6 e0F (j4 [] e0F))))
 (dX b9h fun P2 =>
 qP Tryd.prog (fA 49 x14 4) fun b7y =>
 qP Tryd.prog (xNil x10) fun d8m =>
 qP Tryd.prog (fA 90 d8m 4) fun c5H =>
 qP Tryd.prog (fA 58 b9g 0) fun c5I =>
 qL Tryd.prog P2 (blk b7y) (lA 45 b7y) fun d8n =>
 qL Tryd.prog P2 (blk c5H) (lA 87 c5H) fun c5J =>
 qL Tryd.prog P2 (blk c5I) (lA 9 c5I) fun d8o =>
 qL Tryd.prog P2 (blk c5J) (xV (Instr.lookup 87 c5J d8o false)) fun d8p =>
 qP Tryd.prog (xNil d8p) fun c5K =>
 qL Tryd.prog P2 (blk c5K) (lA 2 c5K) fun d8q =>
 oP E (xV (Instr.buildSlice 45 1 #[(0, d8q)])) P2 fun d8r a2g =>
 keepX [(blk b7y)] P2 a2g (opK Tryd.prog E (xBuiltin .append #[45, 45] 45 [false, false] [d8n, d8r]) a2g fun d8s a2h =>
 keepX [] a2g a2h (qP Tryd.prog (fA 49 x14 4) fun d8t =>
 oP E (sA 45 d8t d8s) a2h fun _z_136 b3c =>
 keepX [] a2h b3c (j4 [] b3c)))))
 (j2 [] f5R)
def d3L (x3 x6 x10 : Value) (w : World) (R : RT) (E : Pan) : Prop :=
 ∀ _τ : Fr, (oP E (fA 44 x3 1) w fun f5V K1 =>
 oP E (lA 42 f5V) K1 fun f5W K4 =>
 oP E (xCall (fC 45) [x10, f5W]) K4 fun f5X D5 =>
 oP E (xV (Instr.alloc 93 true (.tuple #[]))) D5 fun c5L F0 =>
 oP E (sA 93 c5L f5X) F0 fun _z_53 M0 =>
 dX M0 fun b2H =>
 qP Tryd.prog (fA 93 c5L 0) fun c5M =>
 qP Tryd.prog (fA 93 c5L 1) fun c5N =>
 qP Tryd.prog (xNil x10) fun f5Y =>
 qP Tryd.prog (fA 90 f5Y 1) fun c5O =>
 qP Tryd.prog (xNil x10) fun f5Z =>
 qP Tryd.prog (fA 90 f5Z 3) fun c5P =>
 qL Tryd.prog b2H (blk c5M) (lA 3 c5M) fun f6a =>
 qL Tryd.prog b2H (blk c5N) (lA 3 c5N) fun f6b =>
 qL Tryd.prog b2H (blk c5O) (lA 3 c5O) fun f6c =>
 qL Tryd.prog b2H (blk c5P) (lA 46 c5P) fun f6d =>
 qP Tryd.prog (xV (Instr.build 49 #[(0, f6a), (1, f6b), (2, f6c), (3, f6d)])) fun f6e =>
 oP E (xV (Instr.alloc 49 true (.tuple #[]))) b2H fun c5Q P0 =>
 keepX [(blk c5P), (blk c5O), (blk c5N), (blk c5M)] b2H P0 (opK Tryd.prog E (sA 49 c5Q f6e) P0 fun _z_69 M2 =>
 keepX [] P0 M2 (xcut (fun _ c0O => c5B x6 c5Q c0O R E) fun j2 =>
 oP E (fA 44 x3 0) M2 fun c5R b2p =>
 oP E (lA 41 c5R) b2p fun b4P d8u =>
 oP E (xBuiltin .len #[41] 3 [false] [b4P]) d8u fun c5S d8v =>
 xloop [91] [(vI 0)] d8v fun τ_138 d0L next3 =>
 c5C x6 x10 c5Q b4P c5S (τ_138 91) d0L next3 j2 R E)))
def d3M (_x3 _x6 _x10 _x45 _x46 x47 : Value) (w : World) (next5 : NT) (_R : RT) (E : Pan) : Prop :=
 ∀ _τ : Fr, (oP E (xBin .add 3 (.tmp 47) (.const (vI 1)) x47 (vI 1)) w fun e5d g2n =>
 next5 [e5d] g2n)
def d3N (x3 x6 x10 x45 x46 x47 : Value) (w : World) (next5 : NT) (j1 : NT) (R : RT) (E : Pan) : Prop :=
 oP E (xBin .lss 3 (.tmp 47) (.tmp 46) x47 x46) w fun e5e e0G =>
 xcond e5e
 (xcut (fun _ g2o => d3M x3 x6 x10 x45 x46 x47 g2o next5 R E) fun j6 =>
 oP E (iA 41 x45 x47) e0G fun e5f g2p =>
 oP E (lA 58 e5f) g2p fun e5g g2q =>
 oP E (xV (Instr.alloc 58 true (.tuple #[]))) g2q fun b1F g2r =>
 oP E (sA 58 b1F e5g) g2r fun _z_160 g2s =>
 oP E (fA 58 b1F 1) g2s fun e5h g2t =>
 oP E (lA 3 e5h) g2t fun e5i g2u =>
 oP E (xBin .gtr 3 (.tmp 52) (.const (vI 0)) e5i (vI 0)) g2u fun e5j e0H =>
 xcond e5j
 (dX e0H fun a8c =>
 qP Tryd.prog (xNil x10) fun e5k =>
 qP Tryd.prog (fA 90 e5k 5) fun c0P =>
 qP Tryd.prog (fA 58 b1F 0) fun c0Q =>
 qP Tryd.prog (fA 58 b1F 1) fun c8c =>
 qL Tryd.prog a8c (blk c0P) (lA 88 c0P) fun e5l =>
 qL Tryd.prog a8c (blk c0Q) (lA 9 c0Q) fun e5m =>
 qL Tryd.prog a8c (blk c8c) (lA 3 c8c) fun c8d =>
 oP E (xV (Instr.makeSlice 45 c8d c8d)) a8c fun e5n d0M =>
 keepX [(blk c0Q), (blk c0P)] a8c d0M (opK Tryd.prog E (xU (Instr.mapUpdate 88 e5l e5m e5n)) d0M fun _z_178 e0I =>
 keepX [] d0M e0I (j6 [] e0I)))
 (dX e0H fun b5Q =>
 qP Tryd.prog (xNil x10) fun e5o =>
 qP Tryd.prog (fA 90 e5o 4) fun c0R =>
 qP Tryd.prog (fA 58 b1F 0) fun c0S =>
 qL Tryd.prog b5Q (blk c0R) (lA 87 c0R) fun e5p =>
 qL Tryd.prog b5Q (blk c0S) (lA 9 c0S) fun e5q =>
 oP E (xV (Instr.alloc 2 true (.tuple #[]))) b5Q fun e5r d0N =>
 keepX [(blk c0S), (blk c0R)] b5Q d0N (opK Tryd.prog E (xU (Instr.mapUpdate 87 e5p e5q e5r)) d0N fun _z_188 e0J =>
 keepX [] d0N e0J (j6 [] e0J))))
 (j1 [] e0G)
def F18 (x0 x1 x2 : Value) (w : World) (R : RT) (E : Pan) : Prop :=
 oP E (xV (Instr.box 44 x0)) w fun K2 w_2 =>
 oP E (xV (Instr.alloc 49 true (.tuple #[]))) w_2 fun a3H w_4 =>
 oP E (lA 44 K2) w_4 fun d0J w_6 =>
 oP E (xCall (fC 34) [d0J]) w_6 fun e0K w_8 =>
 oP E (eX e0K 0) w_8 fun _t20_9 o0 =>
 oP E (eX e0K 1) o0 fun d3O o8 =>
 oP E (xBin .neq 29 (.tmp 22) (.const (vI 0)) d3O (vI 0)) o8 fun f6f p5 =>
 xcond f6f
 (oP E (xV (Instr.build 49 #[])) p5 fun f6g p9 =>
 oP E (sA 49 a3H f6g) p9 fun _z_17 r7 =>
 xcell Tryd.prog 49 a3H r7 fun g6h =>
 R (Value.tuple #[g6h, d3O]) r7)
 (oP E (xBin .lss 3 (.tmp 26) (.const (vI 0)) x2 (vI 0)) p5 fun c5T a2J =>
 oP E (gsem (asB c5T) false (xBin .gtr 3 (.tmp 29) (.const (vI 65536)) (gval (asB c5T) false x2) (vI 65536))) a2J fun f6h a4C =>
 oP E (xPick c5T (vB true) f6h) a4C fun b9i b2f =>
 oP E (gsem (asB b9i) false (xBuiltin .len #[45] 3 [false] [(gval (asB b9i) false x1)])) b2f fun f6i a3N =>
 oP E (gsem (asB b9i) false (xBin .gtr 3 (.tmp 34) (.const (vI 65536)) f6i (vI 65536))) a3N fun f6j c9D =>
 oP E (xPick b9i (vB true) f6j) c9D fun f6k c5U =>
 xcond f6k
 (oP E (xV (Instr.build 49 #[])) c5U fun f6l d0O =>
 oP E (sA 49 a3H f6l) d0O fun _z_34 b0N =>
 xcell Tryd.prog 49 a3H b0N fun g6i =>
 R (Value.tuple #[g6i, (vI 80)]) b0N)
 (oP E (xV (Instr.makeMap 87 none)) c5U fun f6m E1 =>
 oP E (xV (Instr.makeMap 88 none)) E1 fun f6n E3 =>
 oP E (xV (Instr.build 90 #[(0, x2), (2, x1), (4, f6m), (5, f6n)])) E3 fun f6o I0 =>
 oP E (xV (Instr.box 90 f6o)) I0 fun d3P G7 =>
 xcut (fun _ g2v => d3L K2 a3H d3P g2v R E) fun j1 =>
 oP E (fA 44 K2 0) G7 fun e5s g2w =>
 oP E (lA 41 e5s) g2w fun c8e g2x =>
 oP E (xBuiltin .len #[41] 3 [false] [c8e]) g2x fun e5t g2y =>
 xloop [47] [(vI 0)] g2y fun τ_190 g2z next5 =>
 d3N K2 a3H d3P c8e e5t (τ_190 47) g2z next5 j1 R E))
noncomputable def c18 : Code := Tryd.f18.body.getD .skip
def h18 : Hint := (sQ (.seq (sQ (sQ (.cond (sQ .none) .none))) (.seq (sQ (.cond (sQ .none) .none)) (sQ (.cut [] (sQ (.block (.loop [47] (sQ (.seq (.cond .none .none) (.cut [] (.block (sQ (sQ (.cond (.reg [(0, 18014398509481984, 1024), (1, 36028797018963968, 18014398509481984), (2, 72057594037927936, 36028797018963968), (4, 144115188075855872, 72057594037927936), (0, 288230376151711744, 4096), (16, 576460752303423488, 288230376151711744), (0, 1152921504606846976, 4096), (64, 2305843009213693952, 1152921504606846976), (128, 4611686018427387904, 2305843009213693952), (511, 0, 5332261958806667264)] [168, 168, 168, 160, 168, 136, 168, 40, 40, 0] (.early 0 (.early 1 (.early 2 (.early 4 (.early 6 (.load 3 (.load 5 (.load 7 (.step 8 (.step 9 .done))))))))))) (.reg [(0, 9223372036854775808, 1024), (1, 18446744073709551616, 9223372036854775808), (2, 36893488147419103232, 18446744073709551616), (4, 73786976294838206464, 36893488147419103232), (0, 147573952589676412928, 4096), (16, 295147905179352825856, 147573952589676412928), (0, 590295810358705651712, 0), (127, 0, 959230691832896684032)] [40, 40, 40, 32, 40, 8, 40, 0] (.early 0 (.early 1 (.early 2 (.early 4 (.load 3 (.load 5 (.step 6 (.step 7 .done))))))))))))) .none)))))) (sQ (.seq (.reg [(0, 37778931862957161709568, 8192), (1, 75557863725914323419136, 37778931862957161709568), (0, 151115727451828646838272, 8192), (4, 302231454903657293676544, 151115727451828646838272), (0, 604462909807314587353088, 1024), (16, 1208925819614629174706176, 604462909807314587353088), (32, 2417851639229258349412352, 1208925819614629174706176), (64, 4835703278458516698824704, 2417851639229258349412352), (0, 9671406556917033397649408, 1024), (256, 19342813113834066795298816, 9671406556917033397649408), (512, 38685626227668133590597632, 19342813113834066795298816), (1024, 77371252455336267181195264, 38685626227668133590597632), (2186, 154742504910672534362390528, 82584745052424355497115648), (0, 16384, 0), (16383, 0, 154742504910672534362406912)] [2186, 2184, 2186, 2178, 2186, 2186, 2186, 2058, 2186, 2186, 2186, 138, 2186, 2186, 0] (.early 0 (.early 2 (.early 4 (.early 5 (.early 6 (.early 8 (.early 9 (.early 10 (.load 1 (.load 3 (.load 7 (.load 11 (.early 12 (.step 13 (.step 14 .done)))))))))))))))) (.cut [] (sQ (.block (.loop [91] (sQ (.seq (.cond .none .none) (.cut [] (.block (sQ (sQ (.cond (.reg [(0, 316912650057057350374175801344, 16384), (1, 633825300114114700748351602688, 316912650057057350374175801344), (0, 1267650600228229401496703205376, 1024), (4, 2535301200456458802993406410752, 1267650600228229401496703205376), (8, 5070602400912917605986812821504, 2535301200456458802993406410752), (16, 10141204801825835211973625643008, 5070602400912917605986812821504), (0, 20282409603651670423947251286016, 65536), (64, 40564819207303340847894502572032, 20282409603651670423947251286016), (160, 81129638414606681695789005144064, 50706024009129176059868128215040), (256, 162259276829213363391578010288128, 81129638414606681695789005144064), (514, 324518553658426726783156020576256, 162893102129327478092326361890816), (2047, 649037107316853453566312041152512, 16384), (4095, 0, 973555660975280180349468061728768)] [418, 416, 418, 418, 418, 386, 418, 290, 162, 2, 0, 418, 0] (.early 0 (.early 2 (.early 3 (.early 4 (.early 6 (.load 1 (.load 5 (.load 7 (.load 8 (.step 9 (.step 10 (.early 11 (.step 12 .done)))))))))))))) (.reg [(0, 1298074214633706907132624082305024, 16384), (1, 2596148429267413814265248164610048, 1298074214633706907132624082305024), (0, 5192296858534827628530496329220096, 1024), (4, 10384593717069655257060992658440192, 5192296858534827628530496329220096), (8, 20769187434139310514121985316880384, 10384593717069655257060992658440192), (16, 41538374868278621028243970633760768, 20769187434139310514121985316880384), (0, 83076749736557242056487941267521536, 65536), (64, 166153499473114484112975882535043072, 83076749736557242056487941267521536), (160, 332306998946228968225951765070086144, 207691874341393105141219853168803840), (256, 664613997892457936451903530140172288, 332306998946228968225951765070086144), (512, 1329227995784915872903807060280344576, 664613997892457936451903530140172288), (1024, 2658455991569831745807614120560689152, 1329227995784915872903807060280344576), (2050, 5316911983139663491615228241121378304, 2661052139999099159621879368725299200), (8191, 10633823966279326983230456482242756608, 16384), (16383, 0, 15950735949418990474845684723364134912)] [1442, 1440, 1442, 1442, 1442, 1410, 1442, 1314, 1186, 1442, 418, 2, 0, 1442, 0] (.early 0 (.early 2 (.early 3 (.early 4 (.early 6 (.load 1 (.load 5 (.load 7 (.load 8 (.early 9 (.load 10 (.step 11 (.step 12 (.early 13 (.step 14 .done)))))))))))))))))))) .none)))))) (sQ .none)))))))))
theorem f6p (x0 x1 x2 : Value) (w : World) (R : RT) (E : Pan) : F18 x0 x1 x2 w R E = callX Tryd.prog [.cell 6 49, .tmp 7] c18 h18 [x0, x1, x2] w R E := by kernel_rfl
theorem f6q {x0 x1 x2 : Value} (h : F18 x0 x1 x2 w R E) : Cv Tryd.prog 18 #[x0, x1, x2] w R E := by
 refine h9 (args := [x0, x1, x2]) (c := c18) (h := h18) (rs := [.cell 6 49, .tmp 7]) Tryd.func18 (by kernel_rfl) (by kernel_rfl) (nB (by kernel_rfl)) (by kernel_rfl) (by kernel_rfl) (by kernel_rfl) ?_
 rw [← f6p]
 exact h
def c5V (w : World) (R : RT) (_E : Pan) : Prop :=
 ∀ _τ : Fr, (R (vB true) w)
def d3Q (x0 x1 x5 : Value) (w : World) (next2 : NT) (j1 : NT) (R : RT) (E : Pan) : Prop :=
 oP E (xBuiltin .len #[46] 3 [false] [x1]) w fun a4j o0 =>
 oP E (xBin .lss 3 (.tmp 11) (.tmp 13) x5 a4j) o0 fun b4Q o8 =>
 xcond b4Q
 (dX o8 fun T6 =>
 qP Tryd.prog (iA 46 x0 x5) fun b4R =>
 qP Tryd.prog (iA 46 x1 x5) fun a9I =>
 qL Tryd.prog T6 (blk b4R) (lA 55 b4R) fun c5W =>
 qL Tryd.prog T6 (blk a9I) (lA 55 a9I) fun b4S =>
 qP Tryd.prog (xBin .neq 55 (.tmp 20) (.tmp 24) c5W b4S) fun c5X =>
 xcond c5X
 (R (vB false) T6)
 (oP E (xBin .add 3 (.tmp 15) (.const (vI 1)) x5 (vI 1)) T6 fun c5Y q7 =>
 next2 [c5Y] q7))
 (j1 [] o8)
def F19 (x0 x1 : Value) (w : World) (R : RT) (E : Pan) : Prop :=
 oP E (xBuiltin .len #[46] 3 [false] [x0]) w fun a1E w_2 =>
 oP E (xBuiltin .len #[46] 3 [false] [x1]) w_2 fun a1D w_4 =>
 oP E (xBin .lss 3 (.tmp 7) (.tmp 9) a1E a1D) w_4 fun Y8 w_6 =>
 xcond Y8
 (R (vB false) w_6)
 (xcut (fun _ w_8 => c5V w_8 R E) fun j1 =>
 xloop [5] [(vI 0)] w_6 fun τ_21 s7 next2 =>
 d3Q x0 x1 (τ_21 5) s7 next2 j1 R E)
noncomputable def c19 : Code := Tryd.f19.body.getD .skip
def h19 : Hint := (sQ (.seq (sQ (.cond (sQ .none) .none)) (.cut [] (sQ (.block (.loop [5] (.seq (sQ (.cond .none .none)) (.seq (.block (.seq (.reg [(0, 131072, 1), (0, 262144, 32), (3, 524288, 393216), (4, 1048576, 524288), (0, 2097152, 2), (0, 4194304, 32), (48, 8388608, 6291456), (64, 16777216, 8388608), (136, 33554432, 17825792)] [136, 136, 136, 128, 136, 136, 136, 8, 136] (.early 0 (.early 1 (.early 2 (.early 4 (.early 5 (.early 6 (.load 3 (.load 7 (.early 8 .done)))))))))) (.cond (sQ .none) .none))) .none))))) (sQ .none))))
theorem f6r (x0 x1 : Value) (w : World) (R : RT) (E : Pan) : F19 x0 x1 w R E = callX Tryd.prog [.tmp 4] c19 h19 [x0, x1] w R E := by kernel_rfl
theorem f6s {x0 x1 : Value} (h : F19 x0 x1 w R E) : Cv Tryd.prog 19 #[x0, x1] w R E := by
 refine h9 (args := [x0, x1]) (c := c19) (h := h19) (rs := [.tmp 4]) Tryd.func19 (by kernel_rfl) (by kernel_rfl) (nB (by kernel_rfl)) (by kernel_rfl) (by kernel_rfl) (by kernel_rfl) ?_
 rw [← f6r]
 exact h
def c5Z (w : World) (R : RT) (_E : Pan) : Prop :=
 ∀ _τ : Fr, (R (vB true) w)
def d3R (x2 x3 x6 : Value) (w : World) (next3 : NT) (j2 : NT) (R : RT) (E : Pan) : Prop :=
 oP E (fA 49 x2 5) w fun f6t N9 =>
 oP E (lA 47 f6t) N9 fun f6u X4 =>
 oP E (xBuiltin .len #[47] 3 [false] [f6u]) X4 fun c5e a0P =>
 oP E (xBin .lss 3 (.tmp 70) (.tmp 73) x6 c5e) a0P fun b1y a0l =>
 xcond b1y
 (dX a0l fun b3a =>
 qP Tryd.prog (fA 49 x2 5) fun d3S =>
 qP Tryd.prog (fA 49 x3 5) fun d3T =>
 qL Tryd.prog b3a (blk d3S) (lA 47 d3S) fun f6v =>
 qP Tryd.prog (iA 47 f6v x6) fun d3U =>
 qL Tryd.prog b3a (blk d3U) (lA 45 d3U) fun e5u =>
 qL Tryd.prog b3a (blk d3T) (lA 47 d3T) fun e5v =>
 qP Tryd.prog (iA 47 e5v x6) fun c8f =>
 qL Tryd.prog b3a (blk c8f) (lA 45 c8f) fun c0F =>
 oP E (xCall (fC 46) [e5u, c0F]) b3a fun e5w b5T =>
 keepX [] b3a b5T (qP Tryd.prog (xV (Op.unary .not e5w)) fun e5x =>
 xcond e5x
 (R (vB false) b5T)
 (oP E (xBin .add 3 (.tmp 75) (.const (vI 1)) x6 (vI 1)) b5T fun e5y a1h =>
 next3 [e5y] a1h)))
 (j2 [] a0l)
def c6a (x2 x3 : Value) (w : World) (R : RT) (E : Pan) : Prop :=
 ∀ _τ : Fr, (xcut (fun _ S8 => c5Z S8 R E) fun j2 =>
 xloop [6] [(vI 0)] w fun τ_109 a2e next3 =>
 d3R x2 x3 (τ_109 6) a2e next3 j2 R E)
def d3V (x2 x3 x5 : Value) (w : World) (next4 : NT) (j1 : NT) (R : RT) (E : Pan) : Prop :=
 oP E (fA 49 x2 3) w fun e5z R3 =>
 oP E (lA 46 e5z) R3 fun e5A U6 =>
 oP E (xBuiltin .len #[46] 3 [false] [e5A]) U6 fun e5B a2f =>
 oP E (xBin .lss 3 (.tmp 52) (.tmp 55) x5 e5B) a2f fun e5C P2 =>
 xcond e5C
 (dX P2 fun b3d =>
 qP Tryd.prog (fA 49 x2 3) fun c8g =>
 qP Tryd.prog (fA 49 x3 3) fun c8h =>
 qL Tryd.prog b3d (blk c8g) (lA 46 c8g) fun e5D =>
 qP Tryd.prog (iA 46 e5D x5) fun c8i =>
 qL Tryd.prog b3d (blk c8i) (lA 55 c8i) fun e5E =>
 qL Tryd.prog b3d (blk c8h) (lA 46 c8h) fun e5F =>
 qP Tryd.prog (iA 46 e5F x5) fun c8j =>
 qL Tryd.prog b3d (blk c8j) (lA 55 c8j) fun e5G =>
 qP Tryd.prog (xBin .neq 55 (.tmp 63) (.tmp 68) e5E e5G) fun e5H =>
 xcond e5H
 (R (vB false) b3d)
 (oP E (xBin .add 3 (.tmp 57) (.const (vI 1)) x5 (vI 1)) b3d fun e5I a2g =>
 next4 [e5I] a2g))
 (j1 [] P2)
def F20 (x0 x1 : Value) (w : World) (R : RT) (E : Pan) : Prop :=
 oP E (xV (Instr.box 49 x0)) w fun a9z w_2 =>
 oP E (xV (Instr.box 49 x1)) w_2 fun a0k w_4 =>
 oP E (fA 49 a9z 0) w_4 fun a6t w_6 =>
 oP E (lA 3 a6t) w_6 fun a3O w_8 =>
 oP E (fA 49 a0k 0) w_8 fun b3Z o0 =>
 oP E (lA 3 b3Z) o0 fun c3J o8 =>
 oP E (xBin .neq 3 (.tmp 8) (.tmp 10) a3O c3J) o8 fun a4M p5 =>
 oP E (gsem (asB a4M) false (fA 49 a9z 1)) p5 fun a5X p9 =>
 oP E (gsem (asB a4M) false (lA 3 a5X)) p9 fun b1f r7 =>
 oP E (gsem (asB a4M) false (fA 49 a0k 1)) r7 fun a5Y q7 =>
 oP E (gsem (asB a4M) false (lA 3 a5Y)) q7 fun a8H s7 =>
 oP E (gsem (asB a4M) false (xBin .neq 3 (.tmp 14) (.tmp 16) b1f a8H)) s7 fun b4a u9 =>
 oP E (xPick a4M (vB true) b4a) u9 fun a4L A6 =>
 oP E (gsem (asB a4L) false (fA 49 a9z 2)) A6 fun f6w C8 =>
 oP E (gsem (asB a4L) false (lA 3 f6w)) C8 fun c3u E0 =>
 oP E (gsem (asB a4L) false (fA 49 a0k 2)) E0 fun c3v C3 =>
 oP E (gsem (asB a4L) false (lA 3 c3v)) C3 fun c3w D3 =>
 oP E (gsem (asB a4L) false (xBin .neq 3 (.tmp 21) (.tmp 23) c3u c3w)) D3 fun c3x G6 =>
 oP E (xPick a4L (vB true) c3x) G6 fun a0d E1 =>
 oP E (gsem (asB a0d) false (fA 49 a9z 3)) E1 fun f6x E3 =>
 oP E (gsem (asB a0d) false (lA 46 f6x)) E3 fun f6y I0 =>
 oP E (gsem (asB a0d) false (xBuiltin .len #[46] 3 [false] [f6y])) I0 fun f6z G7 =>
 oP E (gsem (asB a0d) false (fA 49 a0k 3)) G7 fun f6A K1 =>
 oP E (gsem (asB a0d) false (lA 46 f6A)) K1 fun f6B K4 =>
 oP E (gsem (asB a0d) false (xBuiltin .len #[46] 3 [false] [f6B])) K4 fun f6C D5 =>
 oP E (gsem (asB a0d) false (xBin .neq 3 (.tmp 29) (.tmp 32) f6z f6C)) D5 fun c3p F0 =>
 oP E (xPick a0d (vB true) c3p) F0 fun a9J M0 =>
 oP E (gsem (asB a9J) false (fA 49 a9z 4)) M0 fun f6D N2 =>
 oP E (gsem (asB a9J) false (lA 45 f6D)) N2 fun b1u M1 =>
 oP E (gsem (asB a9J) false (fA 49 a0k 4)) M1 fun f6E O8 =>
 oP E (gsem (asB a9J) false (lA 45 f6E)) O8 fun f6F N3 =>
 oP E (gsem (asB a9J) false (xCall (fC 46) [b1u, f6F])) N3 fun f6G N6 =>
 oP E (gsem (asB a9J) false (xV (Op.unary .not f6G))) N6 fun f6H O9 =>
 oP E (xPick a9J (vB true) f6H) O9 fun a4R P0 =>
 oP E (gsem (asB a4R) false (fA 49 a9z 5)) P0 fun f6I M2 =>
 oP E (gsem (asB a4R) false (lA 47 f6I)) M2 fun f6J P5 =>
 oP E (gsem (asB a4R) false (xBuiltin .len #[47] 3 [false] [f6J])) P5 fun f6K P6 =>
 oP E (gsem (asB a4R) false (fA 49 a0k 5)) P6 fun f6L S4 =>
 oP E (gsem (asB a4R) false (lA 47 f6L)) S4 fun b1g N8 =>
 oP E (gsem (asB a4R) false (xBuiltin .len #[47] 3 [false] [b1g])) N8 fun f6M S7 =>
 oP E (gsem (asB a4R) false (xBin .neq 3 (.tmp 46) (.tmp 49) f6K f6M)) S7 fun c5g R1 =>
 oP E (xPick a4R (vB true) c5g) R1 fun c5h P1 =>
 xcond c5h
 (R (vB false) P1)
 (xcut (fun _ a1i => c6a a9z a0k a1i R E) fun j1 =>
 xloop [5] [(vI 0)] P1 fun τ_133 a2h next4 =>
 d3V a9z a0k (τ_133 5) a2h next4 j1 R E)
noncomputable def c20 : Code := Tryd.f20.body.getD .skip
def h20 : Hint := (sQ (.seq (sQ (.cond (sQ .none) .none)) (.cut [] (sQ (.block (.loop [5] (.seq (sQ (.cond .none .none)) (.seq (.block (.seq (.reg [(0, 576460752303423488, 4), (1, 1152921504606846976, 576460752303423488), (0, 2305843009213693952, 32), (6, 4611686018427387904, 3458764513820540928), (8, 9223372036854775808, 4611686018427387904), (0, 18446744073709551616, 8), (32, 36893488147419103232, 18446744073709551616), (0, 73786976294838206464, 32), (192, 147573952589676412928, 110680464442257309696), (256, 295147905179352825856, 147573952589676412928), (528, 590295810358705651712, 304371277216207601664)] [594, 592, 594, 594, 578, 594, 530, 594, 594, 82, 594] (.early 0 (.early 2 (.early 5 (.early 7 (.load 1 (.early 3 (.load 4 (.load 6 (.early 8 (.load 9 (.early 10 .done)))))))))))) (.cond (sQ .none) .none))) .none))))) (.cut [] (sQ (.block (.loop [6] (.seq (sQ (.cond .none .none)) (.seq (.block (.seq (.reg [(0, 151115727451828646838272, 4), (1, 302231454903657293676544, 151115727451828646838272), (0, 604462909807314587353088, 64), (6, 1208925819614629174706176, 906694364710971881029632), (8, 2417851639229258349412352, 1208925819614629174706176), (0, 4835703278458516698824704, 8), (32, 9671406556917033397649408, 4835703278458516698824704), (0, 19342813113834066795298816, 64), (192, 38685626227668133590597632, 29014219670751100192948224), (256, 77371252455336267181195264, 38685626227668133590597632), (528, 154742504910672534362390528, 79789104094565525530607616), (1024, 309485009821345068724781056, 154742504910672534362390528)] [594, 592, 594, 594, 578, 594, 530, 594, 594, 82, 0, 594] (.early 0 (.early 2 (.early 5 (.early 7 (.load 1 (.early 3 (.load 4 (.load 6 (.early 8 (.load 9 (.step 10 (.early 11 .done))))))))))))) (.cond (sQ .none) .none))) .none))))) (sQ .none)))))
theorem f6N (x0 x1 : Value) (w : World) (R : RT) (E : Pan) : F20 x0 x1 w R E = callX Tryd.prog [.tmp 4] c20 h20 [x0, x1] w R E := by kernel_rfl
theorem f6O {x0 x1 : Value} (h : F20 x0 x1 w R E) : Cv Tryd.prog 20 #[x0, x1] w R E := by
 refine h9 (args := [x0, x1]) (c := c20) (h := h20) (rs := [.tmp 4]) Tryd.func20 (by kernel_rfl) (by kernel_rfl) (nB (by kernel_rfl)) (by kernel_rfl) (by kernel_rfl) (by kernel_rfl) ?_
 rw [← f6N]
 exact h
def c6b (w : World) (R : RT) (_E : Pan) : Prop :=
 ∀ _τ : Fr, (R (vB true) w)
def d3W (x0 x1 x5 : Value) (w : World) (next2 : NT) (j1 : NT) (R : RT) (E : Pan) : Prop :=
 oP E (xBuiltin .len #[45] 3 [false] [x0]) w fun a4j o0 =>
 oP E (xBin .lss 3 (.tmp 11) (.tmp 13) x5 a4j) o0 fun b4Q o8 =>
 xcond b4Q
 (dX o8 fun T6 =>
 qP Tryd.prog (iA 45 x0 x5) fun b4R =>
 qP Tryd.prog (iA 45 x1 x5) fun a9I =>
 qL Tryd.prog T6 (blk b4R) (lA 2 b4R) fun c5W =>
 qL Tryd.prog T6 (blk a9I) (lA 2 a9I) fun b4S =>
 qP Tryd.prog (xBin .neq 2 (.tmp 20) (.tmp 24) c5W b4S) fun c5X =>
 xcond c5X
 (R (vB false) T6)
 (oP E (xBin .add 3 (.tmp 15) (.const (vI 1)) x5 (vI 1)) T6 fun c5Y q7 =>
 next2 [c5Y] q7))
 (j1 [] o8)
def F46 (x0 x1 : Value) (w : World) (R : RT) (E : Pan) : Prop :=
 oP E (xBuiltin .len #[45] 3 [false] [x0]) w fun a1E w_2 =>
 oP E (xBuiltin .len #[45] 3 [false] [x1]) w_2 fun a1D w_4 =>
 oP E (xBin .neq 3 (.tmp 7) (.tmp 9) a1E a1D) w_4 fun Y8 w_6 =>
 xcond Y8
 (R (vB false) w_6)
 (xcut (fun _ w_8 => c6b w_8 R E) fun j1 =>
 xloop [5] [(vI 0)] w_6 fun τ_21 s7 next2 =>
 d3W x0 x1 (τ_21 5) s7 next2 j1 R E)
noncomputable def c46 : Code := Tryd.f46.body.getD .skip
def h46 : Hint := (sQ (.seq (sQ (.cond (sQ .none) .none)) (.cut [] (sQ (.block (.loop [5] (.seq (sQ (.cond .none .none)) (.seq (.block (.seq (.reg [(0, 131072, 1), (0, 262144, 32), (3, 524288, 393216), (4, 1048576, 524288), (0, 2097152, 2), (0, 4194304, 32), (48, 8388608, 6291456), (64, 16777216, 8388608), (136, 33554432, 17825792)] [136, 136, 136, 128, 136, 136, 136, 8, 136] (.early 0 (.early 1 (.early 2 (.early 4 (.early 5 (.early 6 (.load 3 (.load 7 (.early 8 .done)))))))))) (.cond (sQ .none) .none))) .none))))) (sQ .none))))
theorem f6P (x0 x1 : Value) (w : World) (R : RT) (E : Pan) : F46 x0 x1 w R E = callX Tryd.prog [.tmp 4] c46 h46 [x0, x1] w R E := by kernel_rfl
theorem f6Q {x0 x1 : Value} (h : F46 x0 x1 w R E) : Cv Tryd.prog 46 #[x0, x1] w R E := by
 refine h9 (args := [x0, x1]) (c := c46) (h := h46) (rs := [.tmp 4]) Tryd.func46 (by kernel_rfl) (by kernel_rfl) (nB (by kernel_rfl)) (by kernel_rfl) (by kernel_rfl) (by kernel_rfl) ?_
 rw [← f6P]
 exact h
def d3X (x0 x6 x7 x8 : Value) (w : World) (next1 : NT) (R : RT) (E : Pan) : Prop :=
 oP E (xBin .lss 3 (.tmp 8) (.tmp 7) x8 x7) w fun a1D w_4 =>
 xcond a1D
 (oP E (iA 42 x6 x8) w_4 fun Y8 w_6 =>
 oP E (lA 63 Y8) w_6 fun b2i w_8 =>
 oP E (xV (Instr.alloc 63 true (.tuple #[]))) w_8 fun f6R o0 =>
 oP E (sA 63 f6R b2i) o0 fun _z_11 o8 =>
 oP E (lA 63 f6R) o8 fun f6S p5 =>
 oP E (xCall (fC 111) [x0, f6S]) p5 fun _t14_15 p9 =>
 oP E (xBin .add 3 (.tmp 8) (.const (vI 1)) x8 (vI 1)) p9 fun f6T r7 =>
 next1 [f6T] r7)
 (R (Value.tuple #[]) w_4)
def F82 (x0 x1 : Value) (w : World) (R : RT) (E : Pan) : Prop :=
 oP E (xBuiltin .len #[42] 3 [false] [x1]) w fun a1E w_2 =>
 xloop [8] [(vI 0)] w_2 fun τ_19 q7 next1 =>
 d3X x0 x1 a1E (τ_19 8) q7 next1 R E
noncomputable def c82 : Code := Tryd.f82.body.getD .skip
def h82 : Hint := (sQ (.block (.loop [8] (sQ (.seq (.cond .none .none) (.seq (.block (sQ .none)) .none))))))
theorem f6U (x0 x1 : Value) (w : World) (R : RT) (E : Pan) : F82 x0 x1 w R E = callX Tryd.prog [] c82 h82 [x0, x1] w R E := by kernel_rfl
theorem f6V {x0 x1 : Value} (h : F82 x0 x1 w R E) : Cv Tryd.prog 82 #[x0, x1] w R E := by
 refine h9 (args := [x0, x1]) (c := c82) (h := h82) (rs := []) Tryd.func82 (by kernel_rfl) (by kernel_rfl) (nB (by kernel_rfl)) (by kernel_rfl) (by kernel_rfl) (by kernel_rfl) ?_
 rw [← f6U]
 exact h
def c0T (x0 x3 x4 : Value) (w : World) (R : RT) (E : Pan) : Prop :=
 ∀ _τ : Fr, (dX w fun a4C =>
 qP Tryd.prog (xNil x0) fun f6W =>
 qP Tryd.prog (fA 90 f6W 4) fun d3Y =>
 qP Tryd.prog (fA 63 x3 1) fun d3Z =>
 qL Tryd.prog a4C (blk d3Y) (lA 87 d3Y) fun d4a =>
 qL Tryd.prog a4C (blk d3Z) (lA 9 d3Z) fun f6X =>
 qL Tryd.prog a4C (blk d4a) (xV (Instr.lookup 87 d4a f6X false)) fun f6Y =>
 qP Tryd.prog (xNil f6Y) fun f6Z =>
 oP E (sA 2 f6Z x4) a4C fun _z_31 C3 =>
 keepX [] a4C C3 (R (Value.tuple #[]) C3))
def c8k (x0 x3 : Value) (w : World) (next2 : NT) (R : RT) (E : Pan) : Prop :=
 oP E (fA 63 x3 3) w fun e5J X5 =>
 oP E (lA 25 e5J) X5 fun e5K a1h =>
 oP E (iA 25 e5K (vI 0)) a1h fun e5L a2e =>
 oP E (lA 27 e5L) a2e fun e5M a1i =>
 oP E (xCall (fC 134) [x0, e5M]) a1i fun e5N R3 =>
 xcond e5N
 (oP E (fA 63 x3 4) R3 fun e5O U6 =>
 oP E (lA 42 e5O) U6 fun e5P a2f =>
 oP E (xCall (fC 82) [x0, e5P]) a2f fun _t90_119 P2 =>
 next2 [] P2)
 (R (Value.tuple #[]) R3)
def d8w (x0 x1 : Value) (w : World) (R : RT) (E : Pan) : Prop :=
 oP E (xV (Instr.box 63 x1)) w fun K2 w_2 =>
 oP E (fA 63 K2 0) w_2 fun a1D w_4 =>
 oP E (lA 3 a1D) w_4 fun Y8 w_6 =>
 oP E (xBin .eql 3 (.tmp 10) (.const (vI 1)) Y8 (vI 1)) w_6 fun U7 w_8 =>
 xcond U7
 (oP E (fA 63 K2 2) w_8 fun b8G o0 =>
 oP E (lA 22 b8G) o0 fun b4B o8 =>
 oP E (iA 22 b4B (vI 0)) o8 fun a8G p5 =>
 oP E (lA 24 a8G) p5 fun c3l p9 =>
 oP E (xCall (fC 130) [x0, c3l]) p9 fun b1e r7 =>
 oP E (eX b1e 0) r7 fun c6c q7 =>
 oP E (eX b1e 1) q7 fun c6d s7 =>
 xcut (fun c4E D3 => c0T x0 K2 (nth c4E 0) D3 R E) fun j1 =>
 xcond c6d
 (oP E (xCall (fC 131) [x0]) s7 fun _t26_35 G6 =>
 j1 [c6c] G6)
 (oP E (fA 63 K2 2) s7 fun c4T E1 =>
 oP E (lA 22 c4T) E1 fun b3S E3 =>
 oP E (iA 22 b3S (vI 0)) E3 fun c3y I0 =>
 oP E (lA 24 c3y) I0 fun c3z G7 =>
 oP E (xCall (fC 132) [x0, c3z]) G7 fun c3A K1 =>
 j1 [c3A] K1))
 (oP E (xBin .eql 3 (.tmp 10) (.const (vI 2)) Y8 (vI 2)) w_8 fun f7a K4 =>
 xcond f7a
 (oP E (fA 63 K2 2) K4 fun f7b D5 =>
 oP E (lA 22 f7b) D5 fun f7c F0 =>
 oP E (iA 22 f7c (vI 0)) F0 fun f7d M0 =>
 oP E (lA 24 f7d) M0 fun f7e N2 =>
 oP E (xCall (fC 132) [x0, f7e]) N2 fun c5b M1 =>
 oP E (fA 63 K2 2) M1 fun f7f O8 =>
 oP E (lA 22 f7f) O8 fun f7g N3 =>
 oP E (iA 22 f7g (vI 1)) N3 fun f7h N6 =>
 oP E (lA 24 f7h) N6 fun c5d O9 =>
 oP E (xCall (fC 132) [x0, c5d]) O9 fun b8S P0 =>
 oP E (fA 63 K2 1) P0 fun f7i M2 =>
 oP E (lA 9 f7i) M2 fun f7j P5 =>
 oP E (xCall (fC 133) [x0, f7j, c5b]) P5 fun f7k P6 =>
 oP E (xNil f7k) P6 fun f7l S4 =>
 oP E (sA 2 f7l b8S) S4 fun _z_77 N8 =>
 R (Value.tuple #[]) N8)
 (oP E (xBin .eql 3 (.tmp 10) (.const (vI 3)) Y8 (vI 3)) K4 fun f7m S7 =>
 xcond f7m
 (oP E (fA 63 K2 3) S7 fun b4T R1 =>
 oP E (lA 25 b4T) R1 fun b4U P1 =>
 oP E (iA 25 b4U (vI 0)) P1 fun b4V S8 =>
 oP E (lA 27 b4V) S8 fun b4W N9 =>
 oP E (xCall (fC 134) [x0, b4W]) N9 fun f7n X4 =>
 xcond f7n
 (oP E (fA 63 K2 4) X4 fun f7o a0P =>
 oP E (lA 42 f7o) a0P fun f7p a0l =>
 oP E (xCall (fC 82) [x0, f7p]) a0l fun _t74_95 a0L =>
 R (Value.tuple #[]) a0L)
 (oP E (fA 63 K2 5) X4 fun f7q a1g =>
 oP E (lA 42 f7q) a1g fun f7r V6 =>
 oP E (xCall (fC 82) [x0, f7r]) V6 fun _t78_101 P8 =>
 R (Value.tuple #[]) P8))
 (oP E (xBin .eql 3 (.tmp 10) (.const (vI 4)) Y8 (vI 4)) S7 fun e5Q Q6 =>
 xcond e5Q
 (xloop [] [] Q6 fun _ a2s next2 =>
 c8k x0 K2 a2s next2 R E)
 (oP E (xBin .eql 3 (.tmp 10) (.const (vI 6)) Y8 (vI 6)) Q6 fun e5R a4V =>
 xcond e5R
 (oP E (fA 63 K2 3) a4V fun e5S a6b =>
 oP E (lA 25 e5S) a6b fun e5T a4W =>
 oP E (iA 25 e5T (vI 0)) a4W fun e5U a4X =>
 oP E (lA 27 e5U) a4X fun e5V a2g =>
 oP E (xCall (fC 134) [x0, e5V]) a2g fun e5W a2h =>
 oP E (xV (Op.unary .not e5W)) a2h fun e5X a4l =>
 xcond e5X
 (oP E (xCall (fC 135) [x0, (vI 2), (vI 0)]) a4l fun _t101_137 a5Z =>
 R (Value.tuple #[]) a5Z)
 (R (Value.tuple #[]) a4l))
 (oP E (xBin .eql 3 (.tmp 10) (.const (vI 5)) Y8 (vI 5)) a4V fun d8x a6Z =>
 xcond d8x
 (oP E (fA 63 K2 3) a6Z fun d8y a7W =>
 oP E (lA 25 d8y) a7W fun d8z a7a =>
 oP E (iA 25 d8z (vI 0)) a7a fun d8A b2l =>
 oP E (lA 27 d8A) b2l fun d8B b0m =>
 oP E (xCall (fC 134) [x0, d8B]) b0m fun c6e b2m =>
 oP E (xCall (fC 131) [x0]) b2m fun _t111_151 b8s =>
 oP E (xNil x0) b8s fun d8C b8w =>
 oP E (fA 90 d8C 3) b8w fun d8D b5w =>
 oP E (lA 46 d8D) b5w fun d8E b8x =>
 oP E (xV (Instr.build 55 #[(2, c6e)])) b8x fun d8F d0B =>
 oP E (xV (Instr.buildSlice 46 1 #[(0, d8F)])) d0B fun d8G d0C =>
 oP E (xBuiltin .append #[46, 46] 46 [false, false] [d8E, d8G]) d0C fun d8H d0D =>
 oP E (xNil x0) d0D fun d8I d0E =>
 oP E (fA 90 d8I 3) d0E fun d8J a8c =>
 oP E (sA 46 d8J d8H) a8c fun _z_169 d0F =>
 oP E (xV (Op.unary .not c6e)) d0F fun d8K c2e =>
 xcond d8K
 (oP E (xCall (fC 136) [x0, (vI 4)]) c2e fun _t126_173 d0G =>
 R (Value.tuple #[]) d0G)
 (R (Value.tuple #[]) c2e))
 (oP E (xCall (fC 131) [x0]) a6Z fun _t12_175 d0H =>
 R (Value.tuple #[]) d0H))))))
noncomputable def f7s : Code := Tryd.f111.body.getD .skip
def f7t : Hint := (sQ (sQ (.block (sQ (.cond (sQ (.cut [4] (sQ (.cond .none .none)) (.reg [(0, 8589934592, 1), (1, 17179869184, 8589934592), (2, 34359738368, 17179869184), (4, 68719476736, 34359738368), (0, 137438953472, 8), (16, 274877906944, 137438953472), (40, 549755813888, 343597383680), (0, 1099511627776, 16), (255, 2199023255552, 549755813888), (511, 0, 3298534883328)] [104, 104, 104, 96, 104, 72, 40, 104, 104, 0] (.early 0 (.early 1 (.early 2 (.early 4 (.early 7 (.load 3 (.load 5 (.load 6 (.early 8 (.step 9 .done))))))))))))) (sQ (.cond (sQ (sQ .none)) (sQ (.cond (sQ (.cond .none .none)) (sQ (.cond (.block (.loop [] (.seq (sQ (.cond .none .none)) (.block .none)))) (sQ (.cond (sQ (.cond .none .none)) (sQ (.cond (sQ (sQ (sQ (sQ (.cond .none .none))))) .none)))))))))))))))
theorem e5Y (x0 x1 : Value) (w : World) (R : RT) (E : Pan) : d8w x0 x1 w R E = callX Tryd.prog [] f7s f7t [x0, x1] w R E := by kernel_rfl
theorem e5Z {x0 x1 : Value} (h : d8w x0 x1 w R E) : Cv Tryd.prog 111 #[x0, x1] w R E := by
 refine h9 (args := [x0, x1]) (c := f7s) (h := f7t) (rs := []) Tryd.func111 (by kernel_rfl) (by kernel_rfl) (nB (by kernel_rfl)) (by kernel_rfl) (by kernel_rfl) (by kernel_rfl) ?_
 rw [← e5Y]
 exact h
def d8L (x0 x1 : Value) (w : World) (R : RT) (E : Pan) : Prop :=
 oP E (xV (Instr.box 24 x1)) w fun K2 w_2 =>
 oP E (fA 24 K2 0) w_2 fun a3H w_4 =>
 oP E (lA 3 a3H) w_4 fun a6t w_6 =>
 oP E (xBin .eql 3 (.tmp 7) (.const (vI 2)) a6t (vI 2)) w_6 fun a3O w_8 =>
 xcond a3O
 (dX w_8 fun w_9 =>
 qP Tryd.prog (xNil x0) fun f7u =>
 qP Tryd.prog (fA 90 f7u 4) fun a7f =>
 qP Tryd.prog (fA 24 K2 2) fun d4b =>
 qL Tryd.prog w_9 (blk a7f) (lA 87 a7f) fun a7g =>
 qL Tryd.prog w_9 (blk d4b) (lA 9 d4b) fun f7v =>
 qL Tryd.prog w_9 (blk a7g) (xV (Instr.lookup 87 a7g f7v false)) fun c6f =>
 qP Tryd.prog (xNil c6f) fun d4c =>
 qL Tryd.prog w_9 (blk d4c) (lA 2 d4c) fun a5P =>
 R (Value.tuple #[a5P, (vB true)]) w_9)
 (oP E (lA 24 K2) w_8 fun f7w a5U =>
 oP E (xCall (fC 146) [f7w]) a5U fun d4d a2J =>
 oP E (eX d4d 0) a2J fun f7x a4C =>
 oP E (eX d4d 1) a4C fun f7y b2f =>
 R (Value.tuple #[f7x, f7y]) b2f)
noncomputable def f7z : Code := Tryd.f130.body.getD .skip
def f7A : Hint := (sQ (.seq (sQ (.cond (.seq (.reg [(0, 512, 1), (1, 1024, 512), (2, 2048, 1024), (4, 4096, 2048), (0, 8192, 8), (16, 16384, 8192), (40, 32768, 20480), (64, 65536, 32768), (128, 131072, 65536), (511, 16, 131072), (1023, 32, 0)] [360, 360, 360, 352, 360, 328, 296, 360, 104, 360, 360] (.early 0 (.early 1 (.early 2 (.early 4 (.load 3 (.load 5 (.load 6 (.early 7 (.load 8 (.early 9 (.early 10 .done)))))))))))) .none) .none)) (sQ .none)))
theorem e6a (x0 x1 : Value) (w : World) (R : RT) (E : Pan) : d8L x0 x1 w R E = callX Tryd.prog [.tmp 4, .tmp 5] f7z f7A [x0, x1] w R E := by kernel_rfl
theorem e6b {x0 x1 : Value} (h : d8L x0 x1 w R E) : Cv Tryd.prog 130 #[x0, x1] w R E := by
 refine h9 (args := [x0, x1]) (c := f7z) (h := f7A) (rs := [.tmp 4, .tmp 5]) Tryd.func130 (by kernel_rfl) (by kernel_rfl) (nB (by kernel_rfl)) (by kernel_rfl) (by kernel_rfl) (by kernel_rfl) ?_
 rw [← e6a]
 exact h
def c8l (x0 : Value) (w : World) (R : RT) (E : Pan) : Prop :=
 ∀ _τ : Fr, (oP E (xNil x0) w fun b5r w_2 =>
 oP E (fA 90 b5r 0) w_2 fun a1f w_4 =>
 oP E (lA 3 a1f) w_4 fun a5S w_6 =>
 oP E (xBin .sub 3 (.tmp 12) (.const (vI 1)) a5S (vI 1)) w_6 fun a5T w_8 =>
 oP E (xNil x0) w_8 fun a4k o0 =>
 oP E (fA 90 a4k 0) o0 fun a5V o8 =>
 oP E (sA 3 a5V a5T) o8 fun _z_13 p5 =>
 oP E (xNil x0) p5 fun a2K p9 =>
 oP E (fA 90 a2K 1) p9 fun b3N r7 =>
 oP E (lA 3 b3N) r7 fun c3c q7 =>
 oP E (xBin .add 3 (.tmp 19) (.const (vI 1)) c3c (vI 1)) q7 fun c3d s7 =>
 oP E (xNil x0) s7 fun c6g u9 =>
 oP E (fA 90 c6g 1) u9 fun b3L A6 =>
 oP E (sA 3 b3L c3d) A6 fun _z_27 C8 =>
 R (Value.tuple #[]) C8)
def d8M (x0 : Value) (w : World) (R : RT) (E : Pan) : Prop :=
 xcut (fun _ E0 => c8l x0 E0 R E) fun j1 =>
 oP E (xNil x0) w fun g2A C3 =>
 oP E (fA 90 g2A 0) C3 fun g2B D3 =>
 oP E (lA 3 g2B) D3 fun g2C G6 =>
 oP E (xBin .eql 3 (.tmp 5) (.const (vI 0)) g2C (vI 0)) G6 fun g2D E1 =>
 xcond g2D
 (oP E (xCall (fC 135) [x0, (vI 1), (vI 0)]) E1 fun _t8_39 E3 =>
 j1 [] E3)
 (j1 [] E1)
noncomputable def f7B : Code := Tryd.f131.body.getD .skip
def f7C : Hint := (.cut [] (sQ (.cond .none .none)) (sQ .none))
theorem e6c (x0 : Value) (w : World) (R : RT) (E : Pan) : d8M x0 w R E = callX Tryd.prog [] f7B f7C [x0] w R E := by kernel_rfl
theorem e6d {x0 : Value} (h : d8M x0 w R E) : Cv Tryd.prog 131 #[x0] w R E := by
 refine h9 (args := [x0]) (c := f7B) (h := f7C) (rs := []) Tryd.func131 (by kernel_rfl) (by kernel_rfl) (nB (by kernel_rfl)) (by kernel_rfl) (by kernel_rfl) (by kernel_rfl) ?_
 rw [← e6c]
 exact h
def c0U (x0 x3 x7 : Value) (w : World) (R : RT) (E : Pan) : Prop :=
 ∀ _τ : Fr, (oP E (fA 24 x3 0) w fun f7D o8 =>
 oP E (lA 3 f7D) o8 fun b8g p5 =>
 oP E (xBin .eql 3 (.tmp 33) (.const (vI 3)) b8g (vI 3)) p5 fun f7E p9 =>
 xcond f7E
 (oP E (xCall (fC 147) [x0]) p9 fun f7F r7 =>
 R f7F r7)
 (oP E (xBin .eql 3 (.tmp 33) (.const (vI 4)) b8g (vI 4)) p9 fun f7G q7 =>
 xcond f7G
 (dX q7 fun a2J =>
 qP Tryd.prog (fA 24 x3 2) fun d4e =>
 qP Tryd.prog (iA 45 x7 (vI 0)) fun d4f =>
 qL Tryd.prog a2J (blk d4e) (lA 9 d4e) fun f7H =>
 qL Tryd.prog a2J (blk d4f) (lA 2 d4f) fun f7I =>
 oP E (xCall (fC 133) [x0, f7H, f7I]) a2J fun f7J a3N =>
 keepX [] a2J a3N (qP Tryd.prog (xNil f7J) fun d4g =>
 qL Tryd.prog a3N (blk d4g) (lA 2 d4g) fun f7K =>
 R f7K a3N))
 (oP E (xCall (fC 131) [x0]) q7 fun _t50_30 c5U =>
 oP E (fA 24 x3 0) c5U fun f7L d0O =>
 oP E (lA 3 f7L) d0O fun b4X b0N =>
 oP E (xBin .eql 3 (.tmp 52) (.const (vI 5)) b4X (vI 5)) b0N fun f7M c9w =>
 xcond f7M
 (oP E (iA 45 x7 (vI 0)) c9w fun f7N d5U =>
 oP E (lA 2 f7N) d5U fun f7O b9S =>
 oP E (xCall (fC 101) [f7O]) b9S fun d4h b3T =>
 oP E (eX d4h 0) b3T fun f7P b0J =>
 oP E (eX d4h 1) b0J fun f7Q b9T =>
 oP E (xCall (fC 148) [x0, f7P, f7Q]) b9T fun f7R b2h =>
 R f7R b2h)
 (oP E (xBin .eql 3 (.tmp 52) (.const (vI 6)) b4X (vI 6)) c9w fun f7S c0V =>
 xcond f7S
 (dX c0V fun F0 =>
 qP Tryd.prog (iA 45 x7 (vI 0)) fun d4i =>
 qP Tryd.prog (iA 45 x7 (vI 1)) fun d4j =>
 qL Tryd.prog F0 (blk d4i) (lA 2 d4i) fun f7T =>
 qL Tryd.prog F0 (blk d4j) (lA 2 d4j) fun f7U =>
 oP E (xCall (fC 26) [f7T, f7U]) F0 fun d4k M1 =>
 keepX [] F0 M1 (qP Tryd.prog (eX d4k 0) fun f7V =>
 qP Tryd.prog (eX d4k 1) fun f7W =>
 oP E (xCall (fC 148) [x0, f7V, f7W]) M1 fun f7X N3 =>
 keepX [] M1 N3 (R f7X N3)))
 (oP E (xBin .eql 3 (.tmp 52) (.const (vI 7)) b4X (vI 7)) c0V fun f7Y N6 =>
 xcond f7Y
 (dX N6 fun b6M =>
 qP Tryd.prog (iA 45 x7 (vI 0)) fun d4l =>
 qP Tryd.prog (iA 45 x7 (vI 1)) fun d4m =>
 qL Tryd.prog b6M (blk d4l) (lA 2 d4l) fun f7Z =>
 qL Tryd.prog b6M (blk d4m) (lA 2 d4m) fun f8a =>
 oP E (xCall (fC 27) [f7Z, f8a]) b6M fun d4n d8N =>
 keepX [] b6M d8N (qP Tryd.prog (eX d4n 0) fun f8b =>
 qP Tryd.prog (eX d4n 1) fun f8c =>
 oP E (xCall (fC 148) [x0, f8b, f8c]) d8N fun f8d d8O =>
 keepX [] d8N d8O (R f8d d8O)))
 (oP E (xBin .eql 3 (.tmp 52) (.const (vI 8)) b4X (vI 8)) N6 fun f8e c0O =>
 xcond f8e
 (dX c0O fun N8 =>
 qP Tryd.prog (iA 45 x7 (vI 0)) fun d4o =>
 qP Tryd.prog (iA 45 x7 (vI 1)) fun d4p =>
 qL Tryd.prog N8 (blk d4o) (lA 2 d4o) fun f8f =>
 qL Tryd.prog N8 (blk d4p) (lA 2 d4p) fun f8g =>
 oP E (xCall (fC 28) [f8f, f8g]) N8 fun d4q P1 =>
 keepX [] N8 P1 (qP Tryd.prog (eX d4q 0) fun f8h =>
 qP Tryd.prog (eX d4q 1) fun e6e =>
 oP E (xCall (fC 148) [x0, f8h, e6e]) P1 fun e6f N9 =>
 keepX [] P1 N9 (R e6f N9)))
 (oP E (xBin .eql 3 (.tmp 52) (.const (vI 9)) b4X (vI 9)) c0O fun e6g X4 =>
 xcond e6g
 (dX X4 fun b4O =>
 qP Tryd.prog (iA 45 x7 (vI 0)) fun c8m =>
 qP Tryd.prog (iA 45 x7 (vI 1)) fun b5S =>
 qL Tryd.prog b4O (blk c8m) (lA 2 c8m) fun e6h =>
 qL Tryd.prog b4O (blk b5S) (lA 2 b5S) fun a4s =>
 oP E (xCall (fC 29) [e6h, a4s]) b4O fun c8n b3b =>
 keepX [] b4O b3b (qP Tryd.prog (eX c8n 0) fun e6i =>
 qP Tryd.prog (eX c8n 1) fun c0L =>
 oP E (xCall (fC 148) [x0, e6i, c0L]) b3b fun d8P c2g =>
 keepX [] b3b c2g (R d8P c2g)))
 (dX X4 fun P8 =>
 qP Tryd.prog (iA 45 x7 (vI 0)) fun c6h =>
 qP Tryd.prog (iA 45 x7 (vI 1)) fun c6i =>
 qL Tryd.prog P8 (blk c6h) (lA 2 c6h) fun d8Q =>
 qL Tryd.prog P8 (blk c6i) (lA 2 c6i) fun d8R =>
 oP E (xCall (fC 30) [d8Q, d8R]) P8 fun c6j a1h =>
 keepX [] P8 a1h (qP Tryd.prog (eX c6j 0) fun d8S =>
 qP Tryd.prog (eX c6j 1) fun d8T =>
 oP E (xCall (fC 148) [x0, d8S, d8T]) a1h fun d8U a1i =>
 keepX [] a1h a1i (R d8U a1i))))))))))
def c8o (x0 _x3 x7 x19 x20 x21 : Value) (w : World) (next2 : NT) (j1 : NT) (_R : RT) (E : Pan) : Prop :=
 oP E (xBin .lss 3 (.tmp 21) (.tmp 20) x21 x20) w fun e6j a2s =>
 xcond e6j
 (oP E (iA 22 x19 x21) a2s fun e6k a4V =>
 oP E (lA 24 e6k) a4V fun e6l a6b =>
 oP E (xV (Instr.alloc 24 true (.tuple #[]))) a6b fun d4r a4W =>
 oP E (sA 24 d4r e6l) a4W fun _z_129 a4X =>
 oP E (lA 24 d4r) a4X fun e6m a2g =>
 oP E (xCall (fC 132) [x0, e6m]) a2g fun e6n a2h =>
 oP E (xV (Instr.buildSlice 45 1 #[(0, e6n)])) a2h fun e6o a4l =>
 oP E (xBuiltin .append #[45, 45] 45 [false, false] [x7, e6o]) a4l fun e6p a5Z =>
 oP E (xBin .add 3 (.tmp 21) (.const (vI 1)) x21 (vI 1)) a5Z fun e6q a6Z =>
 next2 [e6p, e6q] a6Z)
 (j1 [x7] a2s)
def d8V (x0 x1 : Value) (w : World) (R : RT) (E : Pan) : Prop :=
 oP E (xV (Instr.box 24 x1)) w fun K2 w_2 =>
 oP E (lA 24 K2) w_2 fun d0P w_4 =>
 oP E (xCall (fC 130) [x0, d0P]) w_4 fun a4q w_6 =>
 oP E (eX a4q 0) w_6 fun U7 w_8 =>
 oP E (eX a4q 1) w_8 fun a4U o0 =>
 xcond a4U
 (R U7 o0)
 (xcut (fun g2E R3 => c0U x0 K2 (nth g2E 0) R3 R E) fun j1 =>
 oP E (fA 24 K2 3) o0 fun e6r U6 =>
 oP E (lA 22 e6r) U6 fun c8p a2f =>
 oP E (xBuiltin .len #[22] 3 [false] [c8p]) a2f fun e6s P2 =>
 xloop [7, 21] [(nS), (vI 0)] P2 fun τ_141 a7W next2 =>
 c8o x0 K2 (τ_141 7) c8p e6s (τ_141 21) a7W next2 j1 R E)
noncomputable def f8i : Code := Tryd.f132.body.getD .skip
def f8j : Hint := (sQ (.seq (sQ (sQ (.cond (sQ .none) .none))) (sQ (.cut [7] (sQ (.block (.loop [7, 21] (sQ (.seq (.cond .none .none) (.seq (.block (sQ .none)) .none)))))) (.seq (sQ (.block (sQ (.cond (sQ .none) (sQ (.cond (.seq (.reg [(0, 1099511627776, 1), (0, 2199023255552, 8), (2, 4398046511104, 2199023255552), (0, 8796093022208, 128), (8, 17592186044416, 8796093022208), (16, 35184372088832, 17592186044416), (37, 70368744177664, 40681930227712), (64, 140737488355328, 70368744177664), (128, 281474976710656, 140737488355328), (511, 16, 281474976710656)] [292, 292, 288, 292, 292, 260, 0, 292, 36, 292] (.early 0 (.early 1 (.early 3 (.early 4 (.load 2 (.load 5 (.step 6 (.early 7 (.load 8 (.early 9 .done))))))))))) .none) .none)))))) (sQ (.seq (sQ (.block (sQ (.cond (sQ .none) (sQ (.cond (.seq (.reg [(0, 36893488147419103232, 1), (0, 73786976294838206464, 128), (2, 147573952589676412928, 73786976294838206464), (4, 295147905179352825856, 147573952589676412928), (0, 590295810358705651712, 128), (16, 1180591620717411303424, 590295810358705651712), (32, 2361183241434822606848, 1180591620717411303424), (72, 4722366482869645213696, 2656331146614175432704), (128, 9444732965739290427392, 4722366482869645213696), (128, 18889465931478580854784, 4722366482869645213696), (897, 37778931862957161709568, 28371092385365290385408), (2047, 16, 37778931862957161709568)] [72, 72, 72, 64, 72, 72, 8, 0, 72, 72, 0, 72] (.early 0 (.early 1 (.early 2 (.early 4 (.early 5 (.load 3 (.load 6 (.step 7 (.early 8 (.early 9 (.step 10 (.early 11 .done))))))))))))) .none) (sQ (.cond (.seq (.reg [(0, 302231454903657293676544, 1), (0, 604462909807314587353088, 128), (2, 1208925819614629174706176, 604462909807314587353088), (4, 2417851639229258349412352, 1208925819614629174706176), (0, 4835703278458516698824704, 128), (16, 9671406556917033397649408, 4835703278458516698824704), (32, 19342813113834066795298816, 9671406556917033397649408), (72, 38685626227668133590597632, 21760664753063325144711168), (128, 77371252455336267181195264, 38685626227668133590597632), (128, 154742504910672534362390528, 38685626227668133590597632), (897, 309485009821345068724781056, 232415988820912458837262336), (2047, 16, 309485009821345068724781056)] [72, 72, 72, 64, 72, 72, 8, 0, 72, 72, 0, 72] (.early 0 (.early 1 (.early 2 (.early 4 (.early 5 (.load 3 (.load 6 (.step 7 (.early 8 (.early 9 (.step 10 (.early 11 .done))))))))))))) .none) (sQ (.cond (.seq (.reg [(0, 2475880078570760549798248448, 1), (0, 4951760157141521099596496896, 128), (2, 9903520314283042199192993792, 4951760157141521099596496896), (4, 19807040628566084398385987584, 9903520314283042199192993792), (0, 39614081257132168796771975168, 128), (16, 79228162514264337593543950336, 39614081257132168796771975168), (32, 158456325028528675187087900672, 79228162514264337593543950336), (72, 316912650057057350374175801344, 178263365657094759585473888256), (128, 633825300114114700748351602688, 316912650057057350374175801344), (128, 1267650600228229401496703205376, 316912650057057350374175801344), (897, 2535301200456458802993406410752, 1903951780420914862794853056512), (2047, 16, 2535301200456458802993406410752)] [72, 72, 72, 64, 72, 72, 8, 0, 72, 72, 0, 72] (.early 0 (.early 1 (.early 2 (.early 4 (.early 5 (.load 3 (.load 6 (.step 7 (.early 8 (.early 9 (.step 10 (.early 11 .done))))))))))))) .none) (sQ (.cond (.seq (.reg [(0, 20282409603651670423947251286016, 1), (0, 40564819207303340847894502572032, 128), (2, 81129638414606681695789005144064, 40564819207303340847894502572032), (4, 162259276829213363391578010288128, 81129638414606681695789005144064), (0, 324518553658426726783156020576256, 128), (16, 649037107316853453566312041152512, 324518553658426726783156020576256), (32, 1298074214633706907132624082305024, 649037107316853453566312041152512), (72, 2596148429267413814265248164610048, 1460333491462920270524202092593152), (128, 5192296858534827628530496329220096, 2596148429267413814265248164610048), (128, 10384593717069655257060992658440192, 2596148429267413814265248164610048), (897, 20769187434139310514121985316880384, 15597172985208134556015436238946304), (2047, 16, 20769187434139310514121985316880384)] [72, 72, 72, 64, 72, 72, 8, 0, 72, 72, 0, 72] (.early 0 (.early 1 (.early 2 (.early 4 (.early 5 (.load 3 (.load 6 (.step 7 (.early 8 (.early 9 (.step 10 (.early 11 .done))))))))))))) .none) .none)))))))))))) (.seq (.reg [(0, 41538374868278621028243970633760768, 1), (0, 83076749736557242056487941267521536, 128), (2, 166153499473114484112975882535043072, 83076749736557242056487941267521536), (4, 332306998946228968225951765070086144, 166153499473114484112975882535043072), (0, 664613997892457936451903530140172288, 128), (16, 1329227995784915872903807060280344576, 664613997892457936451903530140172288), (32, 2658455991569831745807614120560689152, 1329227995784915872903807060280344576), (72, 5316911983139663491615228241121378304, 2990762990516060714033565885630775296), (128, 10633823966279326983230456482242756608, 5316911983139663491615228241121378304), (128, 21267647932558653966460912964485513216, 5316911983139663491615228241121378304), (897, 42535295865117307932921825928971026432, 31943010273706259570719613417362030592), (2047, 16, 42535295865117307932921825928971026432)] [72, 72, 72, 64, 72, 72, 8, 0, 72, 72, 0, 72] (.early 0 (.early 1 (.early 2 (.early 4 (.early 5 (.load 3 (.load 6 (.step 7 (.early 8 (.early 9 (.step 10 (.early 11 .done))))))))))))) .none))))))))
theorem e6t (x0 x1 : Value) (w : World) (R : RT) (E : Pan) : d8V x0 x1 w R E = callX Tryd.prog [.tmp 4] f8i f8j [x0, x1] w R E := by kernel_rfl
theorem e6u {x0 x1 : Value} (h : d8V x0 x1 w R E) : Cv Tryd.prog 132 #[x0, x1] w R E := by
 refine h9 (args := [x0, x1]) (c := f8i) (h := f8j) (rs := [.tmp 4]) Tryd.func132 (by kernel_rfl) (by kernel_rfl) (nB (by kernel_rfl)) (by kernel_rfl) (by kernel_rfl) (by kernel_rfl) ?_
 rw [← e6t]
 exact h
def c8q (x2 x7 : Value) (w : World) (R : RT) (E : Pan) : Prop :=
 ∀ _τ : Fr, (oP E (iA 45 x7 x2) w fun f8k o8 =>
 R f8k o8)
def d8W (x0 x1 x2 : Value) (w : World) (R : RT) (E : Pan) : Prop :=
 oP E (xCall (fC 131) [x0]) w fun _t9_1 w_2 =>
 oP E (xNil x0) w_2 fun a1f w_4 =>
 oP E (fA 90 a1f 5) w_4 fun a5S w_6 =>
 oP E (lA 88 a5S) w_6 fun a5T w_8 =>
 oP E (xV (Instr.lookup 88 a5T x1 false)) w_8 fun a4U o0 =>
 xcut (fun _ p5 => c8q x2 a4U p5 R E) fun j1 =>
 oP E (xBin .lss 2 (.tmp 16) (.const (vI 0)) x2 (vI 0)) o0 fun a2K p9 =>
 oP E (gsem (asB a2K) false (xBuiltin .len #[45] 3 [false] [(gval (asB a2K) false a4U)])) p9 fun b1e r7 =>
 oP E (gsem (asB a2K) false (xBin .geq 2 (.tmp 19) (.tmp 21) (gval (asB a2K) false x2) b1e)) r7 fun c6c q7 =>
 oP E (xPick a2K (vB true) c6c) q7 fun c6d s7 =>
 xcond c6d
 (oP E (xCall (fC 136) [x0, (vI 3)]) s7 fun _t25_23 u9 =>
 j1 [] u9)
 (j1 [] s7)
noncomputable def f8l : Code := Tryd.f133.body.getD .skip
def f8m : Hint := (sQ (sQ (sQ (.cut [] (sQ (.cond .none .none)) (sQ .none)))))
theorem e6v (x0 x1 x2 : Value) (w : World) (R : RT) (E : Pan) : d8W x0 x1 x2 w R E = callX Tryd.prog [.tmp 6] f8l f8m [x0, x1, x2] w R E := by kernel_rfl
theorem e6w {x0 x1 x2 : Value} (h : d8W x0 x1 x2 w R E) : Cv Tryd.prog 133 #[x0, x1, x2] w R E := by
 refine h9 (args := [x0, x1, x2]) (c := f8l) (h := f8m) (rs := [.tmp 6]) Tryd.func133 (by kernel_rfl) (by kernel_rfl) (nB (by kernel_rfl)) (by kernel_rfl) (by kernel_rfl) (by kernel_rfl) ?_
 rw [← e6v]
 exact h
def d8X (x0 x1 : Value) (w : World) (R : RT) (E : Pan) : Prop :=
 oP E (xV (Instr.box 27 x1)) w fun K2 w_2 =>
 oP E (fA 27 K2 0) w_2 fun a8B w_4 =>
 oP E (lA 3 a8B) w_4 fun c0G w_6 =>
 oP E (xBin .eql 3 (.tmp 8) (.const (vI 4)) c0G (vI 4)) w_6 fun g2F w_8 =>
 xcond g2F
 (oP E (fA 27 K2 3) w_8 fun b5x o0 =>
 oP E (lA 25 b5x) o0 fun f8n o8 =>
 oP E (iA 25 f8n (vI 0)) o8 fun f8o p5 =>
 oP E (lA 27 f8o) p5 fun c6f p9 =>
 oP E (xCall (fC 134) [x0, c6f]) p9 fun f8p r7 =>
 oP E (xV (Op.unary .not f8p)) r7 fun f8q q7 =>
 R f8q q7)
 (oP E (xBin .eql 3 (.tmp 8) (.const (vI 5)) c0G (vI 5)) w_8 fun a5Q s7 =>
 xcond a5Q
 (oP E (fA 27 K2 3) s7 fun c6g u9 =>
 oP E (lA 25 c6g) u9 fun b3L A6 =>
 oP E (iA 25 b3L (vI 0)) A6 fun b4A C8 =>
 oP E (lA 27 b4A) C8 fun c6k E0 =>
 oP E (xCall (fC 134) [x0, c6k]) E0 fun a9K C3 =>
 oP E (gsem (asB a9K) true (fA 27 K2 3)) C3 fun c3f D3 =>
 oP E (gsem (asB a9K) true (lA 25 c3f)) D3 fun f8r G6 =>
 oP E (gsem (asB a9K) true (iA 25 f8r (vI 1))) G6 fun f8s E1 =>
 oP E (gsem (asB a9K) true (lA 27 f8s)) E1 fun f8t E3 =>
 oP E (gsem (asB a9K) true (xCall (fC 134) [(gval (asB a9K) true x0), f8t])) E3 fun f8u I0 =>
 oP E (xPick a9K f8u (vB false)) I0 fun f8v G7 =>
 R f8v G7)
 (oP E (xBin .eql 3 (.tmp 8) (.const (vI 6)) c0G (vI 6)) s7 fun f8w K1 =>
 xcond f8w
 (oP E (fA 27 K2 3) K1 fun c3g K4 =>
 oP E (lA 25 c3g) K4 fun f8x D5 =>
 oP E (iA 25 f8x (vI 0)) D5 fun f8y F0 =>
 oP E (lA 27 f8y) F0 fun f8z M0 =>
 oP E (xCall (fC 134) [x0, f8z]) M0 fun a9L N2 =>
 oP E (gsem (asB a9L) false (fA 27 K2 3)) N2 fun c5v M1 =>
 oP E (gsem (asB a9L) false (lA 25 c5v)) M1 fun c6l O8 =>
 oP E (gsem (asB a9L) false (iA 25 c6l (vI 1))) O8 fun f8A N3 =>
 oP E (gsem (asB a9L) false (lA 27 f8A)) N3 fun f8B N6 =>
 oP E (gsem (asB a9L) false (xCall (fC 134) [(gval (asB a9L) false x0), f8B])) N6 fun c5w O9 =>
 oP E (xPick a9L (vB true) c5w) O9 fun c5x P0 =>
 R c5x P0)
 (oP E (xBin .eql 3 (.tmp 8) (.const (vI 3)) c0G (vI 3)) K1 fun f8C M2 =>
 xcond f8C
 (oP E (fA 27 K2 2) M2 fun f8D P5 =>
 oP E (lA 22 f8D) P5 fun c6m P6 =>
 oP E (iA 22 c6m (vI 0)) P6 fun f8E S4 =>
 oP E (lA 24 f8E) S4 fun c6n N8 =>
 oP E (xCall (fC 132) [x0, c6n]) N8 fun f8F S7 =>
 oP E (fA 27 K2 2) S7 fun f8G R1 =>
 oP E (lA 22 f8G) R1 fun f8H P1 =>
 oP E (iA 22 f8H (vI 1)) P1 fun c5y S8 =>
 oP E (lA 24 c5y) S8 fun c5z N9 =>
 oP E (xCall (fC 132) [x0, c5z]) N9 fun a3V X4 =>
 oP E (xCall (fC 131) [x0]) X4 fun _t65_91 a0P =>
 oP E (fA 27 K2 1) a0P fun c5A a0l =>
 oP E (lA 3 c5A) a0l fun f8I a0L =>
 oP E (xCall (fC 75) [f8I, f8F, a3V]) a0L fun b3P a1g =>
 R b3P a1g)
 (oP E (xCall (fC 131) [x0]) M2 fun _t72_99 V6 =>
 oP E (fA 27 K2 0) V6 fun b9P P8 =>
 oP E (lA 3 b9P) P8 fun b9Q Q6 =>
 oP E (xBin .eql 3 (.tmp 74) (.const (vI 1)) b9Q (vI 1)) Q6 fun e6x X5 =>
 R e6x X5))))
noncomputable def f8J : Code := Tryd.f134.body.getD .skip
def f8K : Hint := (sQ (.seq (sQ (.block (sQ (.cond (sQ .none) (sQ (.cond (sQ .none) (sQ (.cond (sQ .none) (sQ (.cond (sQ (sQ (sQ (sQ .none)))) .none)))))))))) (sQ (sQ .none))))
theorem e6y (x0 x1 : Value) (w : World) (R : RT) (E : Pan) : d8X x0 x1 w R E = callX Tryd.prog [.tmp 4] f8J f8K [x0, x1] w R E := by kernel_rfl
theorem e6z {x0 x1 : Value} (h : d8X x0 x1 w R E) : Cv Tryd.prog 134 #[x0, x1] w R E := by
 refine h9 (args := [x0, x1]) (c := f8J) (h := f8K) (rs := [.tmp 4]) Tryd.func134 (by kernel_rfl) (by kernel_rfl) (nB (by kernel_rfl)) (by kernel_rfl) (by kernel_rfl) (by kernel_rfl) ?_
 rw [← e6y]
 exact h
def d8Y (_x0 x1 x2 : Value) (w : World) (R : RT) (E : Pan) : Prop :=
 oP E (xV (Instr.build 93 #[(0, x1), (1, x2)])) w fun b0I w_2 =>
 oP E (xV (Instr.makeInterface 93 b0I)) w_2 fun a1D w_4 =>
 oP E (xV (Instr.panic a1D)) w_4 fun _z_5 w_6 =>
 R (Value.tuple #[]) w_6
noncomputable def f8L : Code := Tryd.f135.body.getD .skip
def f8M : Hint := .none
theorem e6A (x0 x1 x2 : Value) (w : World) (R : RT) (E : Pan) : d8Y x0 x1 x2 w R E = callX Tryd.prog [] f8L f8M [x0, x1, x2] w R E := by kernel_rfl
theorem e6B {x0 x1 x2 : Value} (h : d8Y x0 x1 x2 w R E) : Cv Tryd.prog 135 #[x0, x1, x2] w R E := by
 refine h9 (args := [x0, x1, x2]) (c := f8L) (h := f8M) (rs := []) Tryd.func135 (by kernel_rfl) (by kernel_rfl) (nB (by kernel_rfl)) (by kernel_rfl) (by kernel_rfl) (by kernel_rfl) ?_
 rw [← e6A]
 exact h
def d8Z (x0 x1 : Value) (w : World) (R : RT) (E : Pan) : Prop :=
 oP E (xBin .neq 3 (.tmp 4) (.const (vI 0)) x1 (vI 0)) w fun b2j w_2 =>
 xcond b2j
 (oP E (xCall (fC 135) [x0, (vI 3), x1]) w_2 fun _t8_3 w_4 =>
 R (Value.tuple #[]) w_4)
 (R (Value.tuple #[]) w_2)
noncomputable def f8N : Code := Tryd.f136.body.getD .skip
def f8O : Hint := (sQ (.cond .none .none))
theorem e6C (x0 x1 : Value) (w : World) (R : RT) (E : Pan) : d8Z x0 x1 w R E = callX Tryd.prog [] f8N f8O [x0, x1] w R E := by kernel_rfl
theorem e6D {x0 x1 : Value} (h : d8Z x0 x1 w R E) : Cv Tryd.prog 136 #[x0, x1] w R E := by
 refine h9 (args := [x0, x1]) (c := f8N) (h := f8O) (rs := []) Tryd.func136 (by kernel_rfl) (by kernel_rfl) (nB (by kernel_rfl)) (by kernel_rfl) (by kernel_rfl) (by kernel_rfl) ?_
 rw [← e6C]
 exact h
def d0Q (x0 : Value) (w : World) (R : RT) (E : Pan) : Prop :=
 oP E (xV (Instr.box 24 x0)) w fun v7 w_2 =>
 oP E (fA 24 v7 0) w_2 fun b9W w_4 =>
 oP E (lA 3 b9W) w_4 fun b3I w_6 =>
 oP E (xBin .eql 3 (.tmp 6) (.const (vI 1)) b3I (vI 1)) w_6 fun b9N w_8 =>
 xcond b9N
 (oP E (fA 24 v7 1) w_8 fun b3W o0 =>
 oP E (lA 2 b3W) o0 fun b5s o8 =>
 R (Value.tuple #[b5s, (vB true)]) o8)
 (oP E (fA 24 v7 0) w_8 fun a4M p5 =>
 oP E (lA 3 a4M) p5 fun c3K p9 =>
 oP E (xBin .eql 3 (.tmp 12) (.const (vI 5)) c3K (vI 5)) p9 fun a6a r7 =>
 oP E (gsem (asB a6a) true (fA 24 v7 3)) r7 fun a5Y q7 =>
 oP E (gsem (asB a6a) true (lA 22 a5Y)) q7 fun a8H s7 =>
 oP E (gsem (asB a6a) true (iA 22 a8H (vI 0))) s7 fun b4a u9 =>
 oP E (gsem (asB a6a) true (fA 24 b4a 0)) u9 fun a4L A6 =>
 oP E (gsem (asB a6a) true (lA 3 a4L)) A6 fun a8I C8 =>
 oP E (gsem (asB a6a) true (xBin .eql 3 (.tmp 19) (.const (vI 1)) a8I (vI 1))) C8 fun f8P E0 =>
 oP E (xPick a6a f8P (vB false)) E0 fun b8k C3 =>
 xcond b8k
 (oP E (fA 24 v7 3) C3 fun c3o D3 =>
 oP E (lA 22 c3o) D3 fun f8Q G6 =>
 oP E (iA 22 f8Q (vI 0)) G6 fun f8R E1 =>
 oP E (fA 24 f8R 1) E1 fun f8S E3 =>
 oP E (lA 2 f8S) E3 fun f8T I0 =>
 oP E (xV (Op.unary .neg f8T)) I0 fun f8U G7 =>
 R (Value.tuple #[f8U, (vB true)]) G7)
 (R (Value.tuple #[(vI 0), (vB false)]) C3))
noncomputable def f8V : Code := Tryd.f146.body.getD .skip
def f8W : Hint := (sQ (.seq (.block (sQ (.cond (sQ .none) (sQ (.cond (sQ .none) .none))))) (sQ .none)))
theorem e6E (x0 : Value) (w : World) (R : RT) (E : Pan) : d0Q x0 w R E = callX Tryd.prog [.tmp 2, .tmp 3] f8V f8W [x0] w R E := by kernel_rfl
theorem e6F {x0 : Value} (h : d0Q x0 w R E) : Cv Tryd.prog 146 #[x0] w R E := by
 refine h9 (args := [x0]) (c := f8V) (h := f8W) (rs := [.tmp 2, .tmp 3]) Tryd.func146 (by kernel_rfl) (by kernel_rfl) (nB (by kernel_rfl)) (by kernel_rfl) (by kernel_rfl) (by kernel_rfl) ?_
 rw [← e6E]
 exact h
def c8r (x0 : Value) (w : World) (R : RT) (E : Pan) : Prop :=
 ∀ _τ : Fr, (oP E (xCall (fC 131) [x0]) w fun _t13_1 w_2 =>
 oP E (xNil x0) w_2 fun g2G w_4 =>
 oP E (fA 90 g2G 2) w_4 fun g2H w_6 =>
 oP E (lA 45 g2H) w_6 fun g2I w_8 =>
 oP E (iA 45 g2I (vI 0)) w_8 fun d0R o0 =>
 oP E (lA 2 d0R) o0 fun a7m o8 =>
 oP E (xNil x0) o8 fun f8X p5 =>
 oP E (fA 90 f8X 2) p5 fun a9I p9 =>
 oP E (lA 45 a9I) p9 fun b4S r7 =>
 oP E (xV (Instr.sliceAt 45 b4S (some (vI 1)) none none)) r7 fun f8Y q7 =>
 oP E (xNil x0) q7 fun f8Z s7 =>
 oP E (fA 90 f8Z 2) s7 fun f9a u9 =>
 oP E (sA 45 f9a f8Y) u9 fun _z_25 A6 =>
 oP E (xNil x0) A6 fun f9b C8 =>
 oP E (fA 90 f9b 3) C8 fun f9c E0 =>
 oP E (lA 46 f9c) E0 fun f9d C3 =>
 oP E (xV (Instr.build 55 #[(0, (vB true)), (1, a7m)])) C3 fun b3X D3 =>
 oP E (xV (Instr.buildSlice 46 1 #[(0, b3X)])) D3 fun b1x G6 =>
 oP E (xBuiltin .append #[46, 46] 46 [false, false] [f9d, b1x]) G6 fun b4F E1 =>
 oP E (xNil x0) E1 fun b9j E3 =>
 oP E (fA 90 b9j 3) E3 fun c6o I0 =>
 oP E (sA 46 c6o b4F) I0 fun _z_43 G7 =>
 R a7m G7)
def d9a (x0 : Value) (w : World) (R : RT) (E : Pan) : Prop :=
 xcut (fun _ K1 => c8r x0 K1 R E) fun j1 =>
 oP E (xNil x0) w fun c2f K4 =>
 oP E (fA 90 c2f 2) K4 fun g2J D5 =>
 oP E (lA 45 g2J) D5 fun g2K F0 =>
 oP E (xBuiltin .len #[45] 3 [false] [g2K]) F0 fun g2L M0 =>
 oP E (xBin .eql 3 (.tmp 8) (.const (vI 0)) g2L (vI 0)) M0 fun g2M N2 =>
 xcond g2M
 (oP E (xCall (fC 135) [x0, (vI 2), (vI 0)]) N2 fun _t11_57 M1 =>
 j1 [] M1)
 (j1 [] N2)
noncomputable def f9e : Code := Tryd.f147.body.getD .skip
def f9f : Hint := (sQ (.cut [] (sQ (.cond .none .none)) (sQ (sQ (sQ (sQ (sQ .none)))))))
theorem e6G (x0 : Value) (w : World) (R : RT) (E : Pan) : d9a x0 w R E = callX Tryd.prog [.tmp 2] f9e f9f [x0] w R E := by kernel_rfl
theorem e6H {x0 : Value} (h : d9a x0 w R E) : Cv Tryd.prog 147 #[x0] w R E := by
 refine h9 (args := [x0]) (c := f9e) (h := f9f) (rs := [.tmp 2]) Tryd.func147 (by kernel_rfl) (by kernel_rfl) (nB (by kernel_rfl)) (by kernel_rfl) (by kernel_rfl) (by kernel_rfl) ?_
 rw [← e6G]
 exact h
def d9b (x0 x1 x2 : Value) (w : World) (R : RT) (E : Pan) : Prop :=
 oP E (xCall (fC 136) [x0, x2]) w fun _t9_1 w_2 =>
 R x1 w_2
noncomputable def f9g : Code := Tryd.f148.body.getD .skip
def f9h : Hint := (sQ (sQ (sQ .none)))
theorem e6I (x0 x1 x2 : Value) (w : World) (R : RT) (E : Pan) : d9b x0 x1 x2 w R E = callX Tryd.prog [.tmp 6] f9g f9h [x0, x1, x2] w R E := by kernel_rfl
theorem e6J {x0 x1 x2 : Value} (h : d9b x0 x1 x2 w R E) : Cv Tryd.prog 148 #[x0, x1, x2] w R E := by
 refine h9 (args := [x0, x1, x2]) (c := f9g) (h := f9h) (rs := [.tmp 6]) Tryd.func148 (by kernel_rfl) (by kernel_rfl) (nB (by kernel_rfl)) (by kernel_rfl) (by kernel_rfl) (by kernel_rfl) ?_
 rw [← e6I]
 exact h
end Go.Proofs.YtnhkdkcgdcgmdaaDoor
