/- The second reading of some of the program's functions, printed by gen2.py off the code; each is held against the code by the kernel. -/
import Derived.Test.YtnhkdkcgdcgmdaaDoorProg
import Derived.Test.YtnhkdkcgdcgmdaaDoorzLK0
import Derived.KernelRfl
import Derived.Test.YtnhkdkcgdcgmdaaDoorzLGz
namespace Go.Proofs.YtnhkdkcgdcgmdaaDoor
open Go.RowKit
set_option maxRecDepth 100000
variable {w : World} {R : RT} {E : Pan}
def f8O (x1 x2 x3 x4 x9 x13 : Value) (w : World) (R : RT) (E : Pan) : Prop :=
 ∀ _τ : Fr, (oP E (xBuiltin .len #[45] 3 [false] [x1]) w fun d5c b1z =>
 oP E (xBin .eql 3 (.tmp 141) (.tmp 143) x13 d5c) b1z fun d5d a9A =>
 xcond d5d
 (R (vB true) a9A)
 (oP E (xBuiltin .append #[45, 45] 45 [true, false] [(nS), x1]) a9A fun b6L b1A =>
 oP E (xBuiltin .len #[45] 3 [false] [b6L]) b1A fun d5e b7H =>
 oP E (xBin .sub 3 (.tmp 149) (.const (vI 1)) d5e (vI 1)) b7H fun d5f b7M =>
 oP E (iA 45 b6L d5f) b7M fun d5g b4H =>
 oP E (sA 2 d5g x3) b4H fun _z_157 b7N =>
 oP E (lA 44 x4) b7N fun d5h c8B =>
 oP E (xCall (fC 18) [d5h, b6L, x2]) c8B fun c3V c8C =>
 oP E (eX c3V 0) c8C fun d5i c8D =>
 oP E (eX c3V 1) c8D fun d5j c8E =>
 oP E (xV (Instr.alloc 49 true (.tuple #[]))) c8E fun c6h a7t =>
 oP E (sA 49 c6h d5i) a7t fun _z_169 c8F =>
 oP E (xBin .eql 29 (.tmp 160) (.const (vI 0)) d5j (vI 0)) c8F fun b2m c1h =>
 oP E (gsem (asB b2m) true (lA 49 x9)) c1h fun d5k c8G =>
 oP E (gsem (asB b2m) true (lA 49 c6h)) c8G fun d5l c8H =>
 oP E (gsem (asB b2m) true (xCall (fC 20) [d5k, d5l])) c8H fun d5m f8P =>
 oP E (xPick b2m d5m (vB false)) f8P fun d5n b5d =>
 R d5n b5d))
def f8Q (_x1 _x2 _x3 _x4 _x9 x13 x14 : Value) (w : World) (next2 : NT) (_R : RT) (E : Pan) : Prop :=
 ∀ _τ : Fr, (oP E (xBin .add 3 (.tmp 114) (.const (vI 1)) x14 (vI 1)) w fun d5o f8R =>
 next2 [x13, d5o] f8R)
def f8S (x1 x2 x3 x4 x9 x13 x14 : Value) (w : World) (next2 : NT) (j1 : NT) (R : RT) (E : Pan) : Prop :=
 oP E (fA 49 x9 3) w fun d5p f8T =>
 oP E (lA 46 d5p) f8T fun d5q f8U =>
 oP E (xBuiltin .len #[46] 3 [false] [d5q]) f8U fun d5r f8V =>
 oP E (xBin .lss 3 (.tmp 109) (.tmp 112) x14 d5r) f8V fun d5s d7W =>
 xcond d5s
 (xcut (fun f8W f8X => f8Q x1 x2 x3 x4 x9 (nth f8W 0) x14 f8X next2 R E) fun j3 =>
 oP E (fA 49 x9 3) d7W fun d5t f8Y =>
 oP E (lA 46 d5t) f8Y fun d5u f8Z =>
 oP E (iA 46 d5u x14) f8Z fun d5v f9a =>
 oP E (fA 55 d5v 0) f9a fun d5w f9b =>
 oP E (lA 4 d5w) f9b fun d5x d7X =>
 xcond d5x
 (dX d7X fun b8s =>
 qP Tryd.prog (xBuiltin .len #[45] 3 [false] [x1]) fun d5y =>
 qP Tryd.prog (xBin .geq 3 (.tmp 122) (.tmp 124) x13 d5y) fun a0x =>
 qP Tryd.prog (gsem (asB a0x) false (fA 49 x9 3)) fun c3W =>
 qP Tryd.prog (gsem (asB a0x) false (iA 45 (gval (asB a0x) false x1) (gval (asB a0x) false x13))) fun c3X =>
 qL Tryd.prog b8s (blk c3W) (gsem (asB a0x) false (lA 46 c3W)) fun d5z =>
 qP Tryd.prog (gsem (asB a0x) false (iA 46 d5z (gval (asB a0x) false x14))) fun d5A =>
 qP Tryd.prog (gsem (asB a0x) false (fA 55 d5A 1)) fun c3Y =>
 qL Tryd.prog b8s (blk c3Y) (gsem (asB a0x) false (lA 2 c3Y)) fun d5B =>
 qL Tryd.prog b8s (blk c3X) (gsem (asB a0x) false (lA 2 c3X)) fun d5C =>
 qP Tryd.prog (gsem (asB a0x) false (xBin .neq 2 (.tmp 132) (.tmp 136) d5B d5C)) fun d5D =>
 qP Tryd.prog (xPick a0x (vB true) d5D) fun d5E =>
 xcond d5E
 (R (vB false) b8s)
 (oP E (xBin .add 3 (.tmp 139) (.const (vI 1)) x13 (vI 1)) b8s fun d5F f9c =>
 j3 [d5F] f9c))
 (j3 [x13] d7X))
 (j1 [x13] d7W)
def F4 (x0 x1 x2 x3 : Value) (w : World) (R : RT) (E : Pan) : Prop :=
 oP E (xV (Instr.box 44 x0)) w fun a6R w_2 =>
 oP E (xCall (fC 17) []) w_2 fun c1c w_4 =>
 oP E (xV (Op.unary .not c1c)) w_4 fun c8I w_6 =>
 xcond c8I
 (R (vB false) w_6)
 (oP E (xBin .lss 3 (.tmp 19) (.const (vI 0)) x2 (vI 0)) w_6 fun c8J w_8 =>
 oP E (gsem (asB c8J) false (xBin .gtr 3 (.tmp 22) (.const (vI 2000)) (gval (asB c8J) false x2) (vI 2000))) w_8 fun b4X m8 =>
 oP E (xPick c8J (vB true) b4X) m8 fun a6J o4 =>
 oP E (gsem (asB a6J) false (xBuiltin .len #[45] 3 [false] [(gval (asB a6J) false x1)])) o4 fun f1i o2 =>
 oP E (gsem (asB a6J) false (xBin .gtr 3 (.tmp 27) (.const (vI 2000)) f1i (vI 2000))) o2 fun f1j p5 =>
 oP E (xPick a6J (vB true) f1j) p5 fun f1k q7 =>
 xcond f1k
 (R (vB true) q7)
 (oP E (lA 44 a6R) q7 fun f1l q9 =>
 oP E (xCall (fC 18) [f1l, x1, x2]) q9 fun d1p t1 =>
 oP E (eX d1p 0) t1 fun f1m u5 =>
 oP E (eX d1p 1) u5 fun d1q A7 =>
 oP E (xV (Instr.alloc 49 true (.tuple #[]))) A7 fun a2e C3 =>
 oP E (sA 49 a2e f1m) C3 fun _z_29 D8 =>
 oP E (lA 44 a6R) D8 fun f1n B9 =>
 oP E (xBin .add 3 (.tmp 40) (.const (vI 1)) x2 (vI 1)) B9 fun f1o D2 =>
 oP E (xCall (fC 18) [f1n, x1, f1o]) D2 fun d1r F7 =>
 oP E (eX d1r 0) F7 fun f1p D9 =>
 oP E (eX d1r 1) D9 fun d1s E1 =>
 oP E (xV (Instr.alloc 49 true (.tuple #[]))) E1 fun b3V G6 =>
 oP E (sA 49 b3V f1p) G6 fun _z_43 G1 =>
 oP E (xBin .neq 29 (.tmp 45) (.const (vI 0)) d1q (vI 0)) G1 fun f1q L5 =>
 xcond f1q
 (oP E (xBin .eql 29 (.tmp 47) (.tmp 48) d1q d1s) L5 fun f1r K4 =>
 R f1r K4)
 (oP E (xBin .neq 29 (.tmp 50) (.const (vI 0)) d1s (vI 0)) L5 fun a8W G5 =>
 oP E (gsem (asB a8W) false (fA 49 b3V 3)) G5 fun f1s E3 =>
 oP E (gsem (asB a8W) false (lA 46 f1s)) E3 fun f1t M3 =>
 oP E (gsem (asB a8W) false (fA 49 a2e 3)) M3 fun f1u M4 =>
 oP E (gsem (asB a8W) false (lA 46 f1u)) M4 fun f1v M1 =>
 oP E (gsem (asB a8W) false (xCall (fC 19) [f1t, f1v])) M1 fun f1w O3 =>
 oP E (gsem (asB a8W) false (xV (Op.unary .not f1w))) O3 fun f1x M5 =>
 oP E (xPick a8W (vB true) f1x) M5 fun b0P N0 =>
 oP E (gsem (asB b0P) false (fA 49 b3V 2)) N0 fun f1y O4 =>
 oP E (gsem (asB b0P) false (lA 3 f1y)) O4 fun f1z O5 =>
 oP E (gsem (asB b0P) false (fA 49 a2e 2)) O5 fun f1A L6 =>
 oP E (gsem (asB b0P) false (lA 3 f1A)) L6 fun f1B P1 =>
 oP E (gsem (asB b0P) false (xBin .lss 3 (.tmp 62) (.tmp 64) f1z f1B)) P1 fun f1C Q3 =>
 oP E (xPick b0P (vB true) f1C) Q3 fun a8X R8 =>
 oP E (gsem (asB a8X) false (fA 49 b3V 2)) R8 fun f1D N4 =>
 oP E (gsem (asB a8X) false (lA 3 f1D)) N4 fun f1E S4 =>
 oP E (gsem (asB a8X) false (fA 49 a2e 2)) S4 fun f1F Q6 =>
 oP E (gsem (asB a8X) false (lA 3 f1F)) Q6 fun f1G P2 =>
 oP E (gsem (asB a8X) false (xBin .add 3 (.tmp 71) (.const (vI 1)) f1G (vI 1))) P2 fun f1H S5 =>
 oP E (gsem (asB a8X) false (xBin .gtr 3 (.tmp 69) (.tmp 72) f1E f1H)) S5 fun f1I N5 =>
 oP E (xPick a8X (vB true) f1I) N5 fun b3W W5 =>
 oP E (gsem (asB b3W) false (fA 49 a2e 2)) W5 fun f1J a1g =>
 oP E (gsem (asB b3W) false (lA 3 f1J)) a1g fun f1K a0K =>
 oP E (gsem (asB b3W) false (xBin .gtr 3 (.tmp 77) (.tmp 78) f1K (gval (asB b3W) false x2))) a0K fun f1L a0q =>
 oP E (xPick b3W (vB true) f1L) a0q fun f1M a0L =>
 xcond f1M
 (R (vB false) a0L)
 (oP E (fA 49 a2e 0) a0L fun f1N T5 =>
 oP E (lA 3 f1N) T5 fun e1F N7 =>
 oP E (xBin .neq 3 (.tmp 82) (.const (vI 1)) e1F (vI 1)) N7 fun b0Q O8 =>
 oP E (gsem (asB b0Q) true (lA 49 a2e)) O8 fun e1G U8 =>
 oP E (gsem (asB b0Q) true (lA 49 b3V)) U8 fun e1H a1E =>
 oP E (gsem (asB b0Q) true (xCall (fC 20) [e1G, e1H])) a1E fun e1I a3q =>
 oP E (gsem (asB b0Q) true (xV (Op.unary .not e1I))) a3q fun e1J a1F =>
 oP E (xPick b0Q e1J (vB false)) a1F fun e1K R9 =>
 xcond e1K
 (R (vB false) R9)
 (oP E (fA 49 a2e 0) R9 fun e1L T6 =>
 oP E (lA 3 e1L) T6 fun e1M a2A =>
 oP E (xBin .eql 3 (.tmp 91) (.const (vI 1)) e1M (vI 1)) a2A fun b0R Q7 =>
 oP E (gsem (asB b0R) true (fA 49 a2e 2)) Q7 fun e1N a1Q =>
 oP E (gsem (asB b0R) true (lA 3 e1N)) a1Q fun e1O a4y =>
 oP E (gsem (asB b0R) true (xBin .neq 3 (.tmp 95) (.tmp 96) e1O (gval (asB b0R) true x2))) a4y fun e1P a5z =>
 oP E (xPick b0R e1P (vB false)) a5z fun a3V a4z =>
 oP E (gsem (asB a3V) false (fA 49 a2e 0)) a4z fun d5G a4A =>
 oP E (gsem (asB a3V) false (lA 3 d5G)) a4A fun d5H a2D =>
 oP E (gsem (asB a3V) false (xBin .neq 3 (.tmp 101) (.const (vI 3)) d5H (vI 3))) a2D fun b2n a2E =>
 oP E (gsem (asB (gval (asB a3V) false b2n)) true (fA 49 a2e 1)) a2E fun d5I a3O =>
 oP E (gsem (asB (gval (asB a3V) false b2n)) true (lA 3 d5I)) a3O fun d5J a5w =>
 oP E (gsem (asB (gval (asB a3V) false b2n)) true (xBin .neq 3 (.tmp 105) (.const (vI 0)) d5J (vI 0))) a5w fun d5K a5x =>
 oP E (gsem (asB a3V) false (xPick (gval (asB a3V) false b2n) d5K (vB false))) a5x fun d5L a7o =>
 oP E (xPick a3V (vB true) d5L) a7o fun d5M a6t =>
 xcond d5M
 (R (vB false) a6t)
 (xcut (fun f9d f9e => f8O x1 x2 x3 a6R a2e (nth f9d 0) f9e R E) fun j1 =>
 xloop [13, 14] [(vI 0), (vI 0)] a6t fun τ_219 f9f next2 =>
 f8S x1 x2 x3 a6R a2e (τ_219 13) (τ_219 14) f9f next2 j1 R E))))))
noncomputable def c4 : Code := Tryd.f4.body.getD .skip
def h4 : Hint := (sQ (.seq (sQ (.cond (sQ .none) .none)) (.seq (sQ (.cond (sQ .none) .none)) (sQ (sQ (.seq (sQ (.cond (sQ .none) .none)) (.seq (sQ (.cond (sQ .none) .none)) (.seq (sQ (.cond (sQ .none) .none)) (.seq (sQ (.cond (sQ .none) .none)) (sQ (.cut [13] (sQ (.block (.loop [13, 14] (.seq (sQ (.cond .none .none)) (.cut [13] (.block (sQ (.cond (.seq (.seq (.reg [(0, 5316911983139663491615228241121378304, 8192), (0, 10633823966279326983230456482242756608, 2), (2, 21267647932558653966460912964485513216, 10633823966279326983230456482242756608), (5, 42535295865117307932921825928971026432, 26584559915698317458076141205606891520), (8, 85070591730234615865843651857942052864, 42535295865117307932921825928971026432), (16, 170141183460469231731687303715884105728, 85070591730234615865843651857942053376), (48, 340282366920938463463374607431768211456, 255211775190703847597530955573826158592), (16, 680564733841876926926749214863536422912, 85070591730234615865843651857942069248), (208, 1361129467683753853853498429727072845824, 1105917692493050006255967474153246687232), (272, 2722258935367507707706996859454145691648, 1446200059413988469719342081585014898688), (528, 5444517870735015415413993718908291383296, 2807329527097742323572840511312087744512), (16, 10889035741470030830827987437816582766592, 85070591730234615865843651857942052866), (16, 21778071482940061661655974875633165533184, 85070591730234615865843651857942061056), (6160, 43556142965880123323311949751266331066368, 32752177816140327108349805965307690352640), (8208, 87112285931760246646623899502532662132736, 43641213557610357939177793403124273119232), (17424, 174224571863520493293247799005065324265472, 92641874394225496677903736873298895568896), (32784, 348449143727040986586495598010130648530944, 174309642455250727909113642656923266318336)] [17472, 17472, 17472, 17472, 17472, 17472, 17408, 17472, 17472, 17472, 16448, 17472, 17472, 17472, 1088, 17472, 17472] (.early 0 (.early 1 (.early 2 (.early 3 (.early 4 (.early 5 (.early 7 (.early 11 (.early 12 (.early 13 (.load 6 (.early 8 (.early 9 (.load 10 (.load 14 (.early 15 (.early 16 .done)))))))))))))))))) (.cond (sQ .none) .none)) .none) .none))) .none))))) (.seq (sQ (.cond (sQ .none) .none)) (sQ (sQ (sQ (sQ .none))))))))))))))))
def F5 (x0 x1 : Value) (w : World) (R : RT) (E : Pan) : Prop :=
 oP E (xCall (fC 17) []) w fun a9W w_2 =>
 oP E (xV (Op.unary .not a9W)) w_2 fun a2y w_4 =>
 xcond a2y
 (R (vB false) w_4)
 (oP E (xBin .lss 3 (.tmp 10) (.const (vI 0)) x0 (vI 0)) w_4 fun a5n w_6 =>
 oP E (gsem (asB a5n) false (xBin .gtr 3 (.tmp 13) (.const (vI 500)) (gval (asB a5n) false x0) (vI 500))) w_6 fun S8 w_8 =>
 oP E (xPick a5n (vB true) S8) w_8 fun a4x m8 =>
 oP E (gsem (asB a4x) false (xBin .lss 3 (.tmp 17) (.const (vI 0)) (gval (asB a4x) false x1) (vI 0))) m8 fun b3J o4 =>
 oP E (xPick a4x (vB true) b3J) o4 fun a7W o2 =>
 oP E (gsem (asB a7W) false (xBin .gtr 3 (.tmp 21) (.const (vI 2000)) (gval (asB a7W) false x1) (vI 2000))) o2 fun f1O p5 =>
 oP E (xPick a7W (vB true) f1O) p5 fun f1P q7 =>
 xcond f1P
 (R (vB true) q7)
 (oP E (xV (Instr.build 58 #[(0, (Value.string ⟨#[120]⟩))])) q7 fun c2l q9 =>
 oP E (xV (Instr.buildSlice 41 1 #[(0, c2l)])) q9 fun b3b t1 =>
 oP E (xCall (fC 22) [(Value.string ⟨#[120]⟩)]) t1 fun f1Q u5 =>
 oP E (xCall (fC 23) [x0]) u5 fun f1R A7 =>
 oP E (xCall (fC 21) [(vI 1), f1Q, f1R]) A7 fun f1S C3 =>
 oP E (xV (Instr.buildSlice 25 1 #[(0, f1S)])) C3 fun f1T D8 =>
 oP E (xCall (fC 22) [(Value.string ⟨#[120]⟩)]) D8 fun f1U B9 =>
 oP E (xCall (fC 23) [(vI 1)]) B9 fun f1V D2 =>
 oP E (xCall (fC 25) [(vI 6), f1U, f1V]) D2 fun f1W F7 =>
 oP E (xCall (fC 24) [(Value.string ⟨#[120]⟩), f1W]) F7 fun f1X D9 =>
 oP E (xV (Instr.buildSlice 42 1 #[(0, f1X)])) D9 fun f1Y E1 =>
 oP E (xV (Instr.build 63 #[(0, (vI 4)), (3, f1T), (4, f1Y)])) E1 fun f1Z G6 =>
 oP E (xV (Instr.buildSlice 42 1 #[(0, f1Z)])) G6 fun f2a G1 =>
 oP E (xV (Instr.build 44 #[(0, b3b), (1, f2a)])) G1 fun f2b L5 =>
 oP E (xV (Instr.alloc 44 true (.tuple #[]))) L5 fun c1i K4 =>
 oP E (sA 44 c1i f2b) K4 fun _z_49 G5 =>
 oP E (lA 44 c1i) G5 fun c2f E3 =>
 oP E (xCall (fC 18) [c2f, (nS), x1]) E3 fun b8t M3 =>
 oP E (eX b8t 0) M3 fun c3Z M4 =>
 oP E (eX b8t 1) M4 fun c4a M1 =>
 oP E (xV (Instr.alloc 49 true (.tuple #[]))) M1 fun b5e O3 =>
 oP E (sA 49 b5e c3Z) O3 fun _z_61 M5 =>
 oP E (xBin .neq 29 (.tmp 45) (.const (vI 0)) c4a (vI 0)) M5 fun b3X N0 =>
 oP E (gsem (asB b3X) false (fA 49 b5e 4)) N0 fun c4b O4 =>
 oP E (gsem (asB b3X) false (lA 45 c4b)) O4 fun c4c O5 =>
 oP E (gsem (asB b3X) false (xBuiltin .len #[45] 3 [false] [c4c])) O5 fun f2c L6 =>
 oP E (gsem (asB b3X) false (xBin .neq 3 (.tmp 50) (.const (vI 1)) f2c (vI 1))) L6 fun f2d P1 =>
 oP E (xPick b3X (vB true) f2d) P1 fun a4u Q3 =>
 oP E (gsem (asB a4u) false (fA 49 b5e 4)) Q3 fun c2g R8 =>
 oP E (gsem (asB a4u) false (lA 45 c2g)) R8 fun c3B N4 =>
 oP E (gsem (asB a4u) false (iA 45 c3B (vI 0))) N4 fun c3C S4 =>
 oP E (gsem (asB a4u) false (lA 2 c3C)) S4 fun a8R Q6 =>
 oP E (gsem (asB a4u) false (xBin .quo 3 (.tmp 58) (.const (vI 2)) (gval (asB a4u) false x1) (vI 2))) Q6 fun c3D P2 =>
 oP E (gsem (asB a4u) false (xBuiltin .min #[3, 3] 3 [false, false] [c3D, (gval (asB a4u) false x0)])) P2 fun c4d S5 =>
 oP E (gsem (asB a4u) false (xBin .neq 2 (.tmp 57) (.tmp 61) a8R c4d)) S5 fun c4e N5 =>
 oP E (xPick a4u (vB true) c4e) N5 fun a3A W5 =>
 oP E (gsem (asB a3A) false (fA 49 b5e 2)) W5 fun f2e a1g =>
 oP E (gsem (asB a3A) false (lA 3 f2e)) a1g fun c4f a0K =>
 oP E (gsem (asB a3A) false (xBin .mul 3 (.const (vI 2)) (.tmp 68) (vI 2) (gval (asB a3A) false x0))) a0K fun c2h a0q =>
 oP E (gsem (asB a3A) false (xBin .add 3 (.tmp 69) (.const (vI 1)) c2h (vI 1))) a0q fun b3a a0L =>
 oP E (gsem (asB a3A) false (xBuiltin .min #[3, 3] 3 [false, false] [(gval (asB a3A) false x1), b3a])) a0L fun c2i T5 =>
 oP E (gsem (asB a3A) false (xBin .neq 3 (.tmp 66) (.tmp 71) c4f c2i)) T5 fun e1Q N7 =>
 oP E (xPick a3A (vB true) e1Q) N7 fun e1R O8 =>
 xcond e1R
 (R (vB false) O8)
 (oP E (xBin .mul 3 (.const (vI 2)) (.tmp 75) (vI 2) x0) O8 fun e1S U8 =>
 oP E (xBin .add 3 (.tmp 76) (.const (vI 1)) e1S (vI 1)) U8 fun e1T a1E =>
 oP E (xBin .geq 3 (.tmp 74) (.tmp 77) x1 e1T) a1E fun e1U a3q =>
 xcond e1U
 (oP E (fA 49 b5e 0) a3q fun e1V a1F =>
 oP E (lA 3 e1V) a1F fun e1W R9 =>
 oP E (xBin .eql 3 (.tmp 80) (.const (vI 2)) e1W (vI 2)) R9 fun e1X T6 =>
 R e1X T6)
 (oP E (fA 49 b5e 0) a3q fun b9L a2A =>
 oP E (lA 3 b9L) a2A fun b9M Q7 =>
 oP E (xBin .eql 3 (.tmp 83) (.const (vI 1)) b9M (vI 1)) Q7 fun b9N a1Q =>
 R b9N a1Q))))
noncomputable def c5 : Code := Tryd.f5.body.getD .skip
def h5 : Hint := (sQ (.seq (sQ (.cond (sQ .none) .none)) (.seq (sQ (.cond (sQ .none) .none)) (sQ (sQ (.seq (sQ (.cond (sQ .none) .none)) (.seq (sQ (.cond (sQ .none) .none)) (sQ .none))))))))
theorem f9g (x0 x1 : Value) (w : World) (R : RT) (E : Pan) : F5 x0 x1 w R E = callX Tryd.prog [.tmp 4] c5 h5 [x0, x1] w R E := by kernel_rfl
theorem f9h {x0 x1 : Value} (h : F5 x0 x1 w R E) : Cv Tryd.prog 5 #[x0, x1] w R E := by
 refine i2 (args := [x0, x1]) (c := c5) (h := h5) (rs := [.tmp 4]) Tryd.func5 (by kernel_rfl) (by kernel_rfl) (nB (by kernel_rfl)) (by kernel_rfl) (by kernel_rfl) (by kernel_rfl) ?_
 rw [← f9g]
 exact h
def f9i (x0 x1 x2 x7 x8 : Value) (w : World) (R : RT) (E : Pan) : Prop :=
 ∀ _τ : Fr, (oP E (xV (Instr.build 58 #[(0, (Value.string ⟨#[120]⟩))])) w fun f2f o4 =>
 oP E (xV (Instr.buildSlice 41 1 #[(0, f2f)])) o4 fun f2g o2 =>
 oP E (xCall (fC 23) [x1]) o2 fun f2h p5 =>
 oP E (xCall (fC 23) [x2]) p5 fun f2i q7 =>
 oP E (xCall (fC 25) [x0, f2h, f2i]) q7 fun f2j q9 =>
 oP E (xCall (fC 24) [(Value.string ⟨#[120]⟩), f2j]) q9 fun f2k t1 =>
 oP E (xV (Instr.buildSlice 42 1 #[(0, f2k)])) t1 fun f2l u5 =>
 oP E (xV (Instr.build 44 #[(0, f2g), (1, f2l)])) u5 fun f2m A7 =>
 oP E (xV (Instr.alloc 44 true (.tuple #[]))) A7 fun a2e C3 =>
 oP E (sA 44 a2e f2m) C3 fun _z_29 D8 =>
 oP E (lA 44 a2e) D8 fun f2n B9 =>
 oP E (xCall (fC 18) [f2n, (nS), (vI 10)]) B9 fun d1t D2 =>
 oP E (eX d1t 0) D2 fun f2o F7 =>
 oP E (eX d1t 1) F7 fun f2p D9 =>
 oP E (xV (Instr.alloc 49 true (.tuple #[]))) D9 fun a6K E1 =>
 oP E (sA 49 a6K f2o) E1 fun _z_41 G6 =>
 oP E (xBin .neq 29 (.tmp 77) (.const (vI 0)) f2p (vI 0)) G6 fun b8u G1 =>
 oP E (gsem (asB b8u) false (fA 49 a6K 2)) G1 fun f2q L5 =>
 oP E (gsem (asB b8u) false (lA 3 f2q)) L5 fun f2r K4 =>
 oP E (gsem (asB b8u) false (xBin .neq 3 (.tmp 81) (.const (vI 1)) f2r (vI 1))) K4 fun f2s G5 =>
 oP E (xPick b8u (vB true) f2s) G5 fun b3Y E3 =>
 oP E (gsem (asB b3Y) false (fA 49 a6K 4)) E3 fun f2t M3 =>
 oP E (gsem (asB b3Y) false (lA 45 f2t)) M3 fun f2u M4 =>
 oP E (gsem (asB b3Y) false (xBuiltin .len #[45] 3 [false] [f2u])) M4 fun f2v M1 =>
 oP E (gsem (asB b3Y) false (xBin .neq 3 (.tmp 87) (.const (vI 1)) f2v (vI 1))) M1 fun f2w O3 =>
 oP E (xPick b3Y (vB true) f2w) O3 fun b3Z M5 =>
 oP E (gsem (asB b3Z) false (fA 49 a6K 1)) M5 fun f2x N0 =>
 oP E (gsem (asB b3Z) false (lA 3 f2x)) N0 fun f2y O4 =>
 oP E (gsem (asB b3Z) false (xBin .neq 3 (.tmp 92) (.tmp 93) f2y (gval (asB b3Z) false x8))) O4 fun f2z O5 =>
 oP E (xPick b3Z (vB true) f2z) O5 fun f2A L6 =>
 xcond f2A
 (R (vB false) L6)
 (oP E (xBin .neq 3 (.tmp 96) (.const (vI 0)) x8 (vI 0)) L6 fun f2B P1 =>
 xcond f2B
 (oP E (fA 49 a6K 0) P1 fun f2C Q3 =>
 oP E (lA 3 f2C) Q3 fun f2D R8 =>
 oP E (xBin .eql 3 (.tmp 99) (.const (vI 3)) f2D (vI 3)) R8 fun a7K N4 =>
 oP E (gsem (asB a7K) true (fA 49 a6K 4)) N4 fun e1Y S4 =>
 oP E (gsem (asB a7K) true (lA 45 e1Y)) S4 fun e1Z Q6 =>
 oP E (gsem (asB a7K) true (iA 45 e1Z (vI 0))) Q6 fun e2a P2 =>
 oP E (gsem (asB a7K) true (lA 2 e2a)) P2 fun e2b S5 =>
 oP E (gsem (asB a7K) true (xBin .eql 2 (.tmp 105) (.const (vI 0)) e2b (vI 0))) S5 fun e2c N5 =>
 oP E (xPick a7K e2c (vB false)) N5 fun e2d W5 =>
 R e2d W5)
 (oP E (fA 49 a6K 0) P1 fun e2e a1g =>
 oP E (lA 3 e2e) a1g fun b5f a0K =>
 oP E (xBin .eql 3 (.tmp 109) (.const (vI 2)) b5f (vI 2)) a0K fun a3W a0q =>
 oP E (gsem (asB a3W) true (fA 49 a6K 4)) a0q fun e2f a0L =>
 oP E (gsem (asB a3W) true (lA 45 e2f)) a0L fun b9V T5 =>
 oP E (gsem (asB a3W) true (iA 45 b9V (vI 0))) T5 fun d5N N7 =>
 oP E (gsem (asB a3W) true (lA 2 d5N)) N7 fun d5O O8 =>
 oP E (gsem (asB a3W) true (xBin .eql 2 (.tmp 115) (.tmp 116) d5O (gval (asB a3W) true x7))) O8 fun d5P U8 =>
 oP E (xPick a3W d5P (vB false)) U8 fun d5Q a1E =>
 R d5Q a1E)))
def F6 (x0 x1 x2 : Value) (w : World) (R : RT) (E : Pan) : Prop :=
 oP E (xCall (fC 17) []) w fun f9j w_2 =>
 oP E (xV (Op.unary .not f9j)) w_2 fun b7Z w_4 =>
 xcond b7Z
 (R (vB false) w_4)
 (oP E (xBin .eql 2 (.tmp 14) (.const (vI (-9223372036854775808))) x1 (vI (-9223372036854775808))) w_4 fun b2i w_6 =>
 oP E (gsem (asB b2i) false (xBin .eql 2 (.tmp 17) (.const (vI (-9223372036854775808))) (gval (asB b2i) false x2) (vI (-9223372036854775808)))) w_6 fun f9k w_8 =>
 oP E (xPick b2i (vB true) f9k) w_8 fun f9l m8 =>
 xcond f9l
 (R (vB true) m8)
 (xcut (fun d7Y a3q => f9i x0 x1 x2 (nth d7Y 0) (nth d7Y.tail 0) a3q R E) fun j1 =>
 oP E (xBin .eql 3 (.tmp 20) (.const (vI 6)) x0 (vI 6)) m8 fun e2g a1F =>
 xcond e2g
 (oP E (xCall (fC 26) [x1, x2]) a1F fun c6i R9 =>
 oP E (eX c6i 0) R9 fun e2h T6 =>
 oP E (eX c6i 1) T6 fun e2i a2A =>
 j1 [e2h, e2i] a2A)
 (oP E (xBin .eql 3 (.tmp 20) (.const (vI 7)) x0 (vI 7)) a1F fun e2j Q7 =>
 xcond e2j
 (oP E (xCall (fC 27) [x1, x2]) Q7 fun c6j a1Q =>
 oP E (eX c6j 0) a1Q fun e2k a4y =>
 oP E (eX c6j 1) a4y fun e2l a5z =>
 j1 [e2k, e2l] a5z)
 (oP E (xBin .eql 3 (.tmp 20) (.const (vI 8)) x0 (vI 8)) Q7 fun e2m a4z =>
 xcond e2m
 (oP E (xCall (fC 28) [x1, x2]) a4z fun c6k a4A =>
 oP E (eX c6k 0) a4A fun e2n a2D =>
 oP E (eX c6k 1) a2D fun e2o a2E =>
 j1 [e2n, e2o] a2E)
 (oP E (xBin .eql 3 (.tmp 20) (.const (vI 9)) x0 (vI 9)) a4z fun e2p a3O =>
 xcond e2p
 (oP E (xCall (fC 29) [x1, x2]) a3O fun c6l a5w =>
 oP E (eX c6l 0) a5w fun e2q a5x =>
 oP E (eX c6l 1) a5x fun e2r a7o =>
 j1 [e2q, e2r] a7o)
 (oP E (xBin .eql 3 (.tmp 20) (.const (vI 10)) x0 (vI 10)) a3O fun e2s a6t =>
 xcond e2s
 (oP E (xCall (fC 30) [x1, x2]) a6t fun c6m b1z =>
 oP E (eX c6m 0) b1z fun e2t a9A =>
 oP E (eX c6m 1) a9A fun e2u b1A =>
 j1 [e2t, e2u] b1A)
 (R (vB true) a6t)))))))
noncomputable def c6 : Code := Tryd.f6.body.getD .skip
def h6 : Hint := (sQ (.seq (sQ (.cond (sQ .none) .none)) (.seq (sQ (.cond (sQ .none) .none)) (sQ (.cut [7, 8] (sQ (.block (sQ (.cond .none (sQ (.cond .none (sQ (.cond .none (sQ (.cond .none (sQ (.cond .none (sQ .none))))))))))))) (sQ (sQ (.seq (sQ (.cond (sQ .none) .none)) (.seq (sQ (.cond (sQ .none) .none)) (sQ .none))))))))))
noncomputable def c7 : Code := Tryd.f7.body.getD .skip
def h7 : Hint := (sQ (.seq (sQ (.cond (sQ .none) .none)) (.seq (sQ (.cond (sQ .none) .none)) (sQ (sQ (.seq (sQ (.cond (sQ .none) .none)) (sQ (.seq (sQ (.cond (sQ .none) .none)) (.seq (sQ (.cond (sQ .none) .none)) (.seq (sQ (.cond (sQ .none) .none)) (sQ (.cut [13] (sQ (.cond .none .none)) (sQ .none)))))))))))))
def F17 (w : World) (R : RT) (E : Pan) : Prop :=
 oP E (xV (Instr.build 24 #[(0, (vI 2)), (2, (Value.string ⟨#[120]⟩))])) w fun b1x w_2 =>
 oP E (xV (Instr.build 24 #[(0, (vI 1)), (1, (vI 2))])) w_2 fun a3k w_4 =>
 oP E (xV (Instr.buildSlice 22 2 #[(0, b1x), (1, a3k)])) w_4 fun a7Z w_6 =>
 oP E (xV (Instr.build 24 #[(0, (vI 6)), (3, a7Z)])) w_6 fun a2C w_8 =>
 oP E (xV (Instr.alloc 24 true (.tuple #[]))) w_8 fun f2E m8 =>
 oP E (sA 24 f2E a2C) m8 fun _z_11 o4 =>
 oP E (xV (Instr.build 58 #[(0, (Value.string ⟨#[120]⟩))])) o4 fun b1y o2 =>
 oP E (xV (Instr.buildSlice 41 1 #[(0, b1y)])) o2 fun b3i p5 =>
 oP E (xV (Instr.build 24 #[(0, (vI 1)), (1, (vI 1))])) p5 fun b3j q7 =>
 oP E (xV (Instr.buildSlice 22 1 #[(0, b3j)])) q7 fun b3k q9 =>
 oP E (xV (Instr.build 63 #[(0, (vI 1)), (1, (Value.string ⟨#[120]⟩)), (2, b3k)])) q9 fun f2F t1 =>
 oP E (lA 24 f2E) t1 fun c1Q u5 =>
 oP E (xV (Instr.buildSlice 22 1 #[(0, c1Q)])) u5 fun f2G A7 =>
 oP E (xV (Instr.build 63 #[(0, (vI 1)), (1, (Value.string ⟨#[120]⟩)), (2, f2G)])) A7 fun f2H C3 =>
 oP E (xV (Instr.buildSlice 42 2 #[(0, f2F), (1, f2H)])) C3 fun f2I D8 =>
 oP E (xV (Instr.build 44 #[(0, b3i), (1, f2I)])) D8 fun f2J B9 =>
 oP E (xV (Instr.alloc 44 true (.tuple #[]))) B9 fun d7Z D2 =>
 oP E (sA 44 d7Z f2J) D2 fun _z_35 F7 =>
 oP E (lA 44 d7Z) F7 fun c1V D9 =>
 oP E (xCall (fC 18) [c1V, (nS), (vI 9)]) D9 fun b7v E1 =>
 oP E (eX b7v 0) E1 fun c2B G6 =>
 oP E (eX b7v 1) G6 fun c2C G1 =>
 oP E (xV (Instr.alloc 49 true (.tuple #[]))) G1 fun b8v L5 =>
 oP E (sA 49 b8v c2B) L5 fun _z_47 K4 =>
 oP E (xBin .eql 29 (.tmp 24) (.const (vI 0)) c2C (vI 0)) K4 fun b8w G5 =>
 oP E (gsem (asB b8w) true (fA 49 b8v 0)) G5 fun f2K E3 =>
 oP E (gsem (asB b8w) true (lA 3 f2K)) E3 fun f2L M3 =>
 oP E (gsem (asB b8w) true (xBin .eql 3 (.tmp 28) (.const (vI 2)) f2L (vI 2))) M3 fun b8x M4 =>
 oP E (xPick b8w b8x (vB false)) M4 fun b0S M1 =>
 oP E (gsem (asB b0S) true (fA 49 b8v 2)) M1 fun b3n O3 =>
 oP E (gsem (asB b0S) true (lA 3 b3n)) O3 fun b3o M5 =>
 oP E (gsem (asB b0S) true (xBin .eql 3 (.tmp 33) (.const (vI 2)) b3o (vI 2))) M5 fun b3p N0 =>
 oP E (xPick b0S b3p (vB false)) N0 fun a8b O4 =>
 oP E (gsem (asB a8b) true (fA 49 b8v 4)) O4 fun f2M O5 =>
 oP E (gsem (asB a8b) true (lA 45 f2M)) O5 fun f2N L6 =>
 oP E (gsem (asB a8b) true (xBuiltin .len #[45] 3 [false] [f2N])) L6 fun f2O P1 =>
 oP E (gsem (asB a8b) true (xBin .eql 3 (.tmp 39) (.const (vI 1)) f2O (vI 1))) P1 fun f2P Q3 =>
 oP E (xPick a8b f2P (vB false)) Q3 fun b0T R8 =>
 oP E (gsem (asB b0T) true (fA 49 b8v 4)) R8 fun f2Q N4 =>
 oP E (gsem (asB b0T) true (lA 45 f2Q)) N4 fun f2R S4 =>
 oP E (gsem (asB b0T) true (iA 45 f2R (vI 0))) S4 fun f2S Q6 =>
 oP E (gsem (asB b0T) true (lA 2 f2S)) Q6 fun f2T P2 =>
 oP E (gsem (asB b0T) true (xBin .eql 2 (.tmp 46) (.const (vI 3)) f2T (vI 3))) P2 fun f2U S5 =>
 oP E (xPick b0T f2U (vB false)) S5 fun f2V N5 =>
 R f2V N5
noncomputable def c17 : Code := Tryd.f17.body.getD .skip
def h17 : Hint := (sQ (sQ (sQ (sQ (sQ .none)))))
theorem f2W (w : World) (R : RT) (E : Pan) : F17  w R E = callX Tryd.prog [.tmp 0] c17 h17 [] w R E := by kernel_rfl
theorem f2X (h : F17  w R E) : Cv Tryd.prog 17 #[] w R E := by
 refine i2 (args := []) (c := c17) (h := h17) (rs := [.tmp 0]) Tryd.func17 (by kernel_rfl) (by kernel_rfl) (Nat.zero_le _) (by kernel_rfl) (by kernel_rfl) (by kernel_rfl) ?_
 rw [← f2W]
 exact h
def c4g (x6 x14 : Value) (w : World) (R : RT) (E : Pan) : Prop :=
 ∀ _τ : Fr, (oP E (lA 49 x14) w fun e2v P1 =>
 oP E (sA 49 x6 e2v) P1 fun _z_73 Q3 =>
 xcell Tryd.prog 49 x6 Q3 fun g3x =>
 R (Value.tuple #[g3x, (vI 0)]) Q3)
def d1u (_x6 _x10 _x14 _x89 _x90 x91 : Value) (w : World) (next3 : NT) (_R : RT) (E : Pan) : Prop :=
 ∀ _τ : Fr, (oP E (xBin .add 3 (.tmp 91) (.const (vI 1)) x91 (vI 1)) w fun e2w g3y =>
 next3 [e2w] g3y)
def c4h (x6 x10 x14 x89 x90 x91 : Value) (w : World) (next3 : NT) (j2 : NT) (R : RT) (E : Pan) : Prop :=
 oP E (xBin .lss 3 (.tmp 91) (.tmp 90) x91 x90) w fun f2Y f2Z =>
 xcond f2Y
 (xcut (fun _ b9W => d1u x6 x10 x14 x89 x90 x91 b9W next3 R E) fun j4 =>
 oP E (iA 41 x89 x91) f2Z fun f3a b4a =>
 oP E (lA 58 f3a) b4a fun f3b g3z =>
 oP E (xV (Instr.alloc 58 true (.tuple #[]))) g3z fun b8y g3A =>
 oP E (sA 58 b8y f3b) g3A fun _z_96 b2o =>
 oP E (fA 58 b8y 1) b2o fun f3c c4i =>
 oP E (lA 3 f3c) c4i fun e2x c1j =>
 oP E (xBin .gtr 3 (.tmp 96) (.const (vI 0)) e2x (vI 0)) c1j fun e2y b8z =>
 xcond e2y
 (dX b8z fun O8 =>
 qP Tryd.prog (fA 49 x14 5) fun b9X =>
 qP Tryd.prog (xNil x10) fun d5R =>
 qP Tryd.prog (fA 90 d5R 5) fun c4j =>
 qP Tryd.prog (fA 58 b8y 0) fun c4k =>
 qL Tryd.prog O8 (blk b9X) (lA 47 b9X) fun e2z =>
 qL Tryd.prog O8 (blk c4j) (lA 88 c4j) fun c4l =>
 qL Tryd.prog O8 (blk c4k) (lA 9 c4k) fun d5S =>
 qL Tryd.prog O8 (blk c4l) (xV (Instr.lookup 88 c4l d5S false)) fun d5T =>
 oP E (xV (Instr.buildSlice 47 1 #[(0, d5T)])) O8 fun d5U R9 =>
 keepX [(blk b9X)] O8 R9 (opK Tryd.prog E (xBuiltin .append #[47, 47] 47 [false, false] [e2z, d5U]) R9 fun d5V T6 =>
 keepX [] R9 T6 (qP Tryd.prog (fA 49 x14 5) fun d5W =>
 oP E (sA 47 d5W d5V) T6 fun _z_118 d8a =>
 keepX [] T6 d8a (j4 [] d8a))))
 (dX b8z fun Q7 =>
 qP Tryd.prog (fA 49 x14 4) fun b6M =>
 qP Tryd.prog (xNil x10) fun d5X =>
 qP Tryd.prog (fA 90 d5X 4) fun c4m =>
 qP Tryd.prog (fA 58 b8y 0) fun c4n =>
 qL Tryd.prog Q7 (blk b6M) (lA 45 b6M) fun d5Y =>
 qL Tryd.prog Q7 (blk c4m) (lA 87 c4m) fun c4o =>
 qL Tryd.prog Q7 (blk c4n) (lA 9 c4n) fun d5Z =>
 qL Tryd.prog Q7 (blk c4o) (xV (Instr.lookup 87 c4o d5Z false)) fun d6a =>
 qP Tryd.prog (xNil d6a) fun c4p =>
 qL Tryd.prog Q7 (blk c4p) (lA 2 c4p) fun d6b =>
 oP E (xV (Instr.buildSlice 45 1 #[(0, d6b)])) Q7 fun d6c a2D =>
 keepX [(blk b6M)] Q7 a2D (opK Tryd.prog E (xBuiltin .append #[45, 45] 45 [false, false] [d5Y, d6c]) a2D fun d6d a2E =>
 keepX [] a2D a2E (qP Tryd.prog (fA 49 x14 4) fun d6e =>
 oP E (sA 45 d6e d6d) a2E fun _z_136 d8b =>
 keepX [] a2E d8b (j4 [] d8b)))))
 (j2 [] f2Z)
def d1v (x3 x6 x10 : Value) (w : World) (R : RT) (E : Pan) : Prop :=
 ∀ _τ : Fr, (oP E (fA 44 x3 1) w fun f3d L5 =>
 oP E (lA 42 f3d) L5 fun f3e K4 =>
 oP E (xCall (fC 45) [x10, f3e]) K4 fun f3f G5 =>
 oP E (xV (Instr.alloc 93 true (.tuple #[]))) G5 fun c4q E3 =>
 oP E (sA 93 c4q f3f) E3 fun _z_53 M3 =>
 dX M3 fun b1U =>
 qP Tryd.prog (fA 93 c4q 0) fun c4r =>
 qP Tryd.prog (fA 93 c4q 1) fun c4s =>
 qP Tryd.prog (xNil x10) fun f3g =>
 qP Tryd.prog (fA 90 f3g 1) fun c4t =>
 qP Tryd.prog (xNil x10) fun f3h =>
 qP Tryd.prog (fA 90 f3h 3) fun c4u =>
 qL Tryd.prog b1U (blk c4r) (lA 3 c4r) fun f3i =>
 qL Tryd.prog b1U (blk c4s) (lA 3 c4s) fun f3j =>
 qL Tryd.prog b1U (blk c4t) (lA 3 c4t) fun f3k =>
 qL Tryd.prog b1U (blk c4u) (lA 46 c4u) fun f3l =>
 qP Tryd.prog (xV (Instr.build 49 #[(0, f3i), (1, f3j), (2, f3k), (3, f3l)])) fun f3m =>
 oP E (xV (Instr.alloc 49 true (.tuple #[]))) b1U fun c4v O5 =>
 keepX [(blk c4u), (blk c4t), (blk c4s), (blk c4r)] b1U O5 (opK Tryd.prog E (sA 49 c4v f3m) O5 fun _z_69 L6 =>
 keepX [] O5 L6 (xcut (fun _ b9Y => c4g x6 c4v b9Y R E) fun j2 =>
 oP E (fA 44 x3 0) L6 fun c4w b0c =>
 oP E (lA 41 c4w) b0c fun b4b d6f =>
 oP E (xBuiltin .len #[41] 3 [false] [b4b]) d6f fun c4x d6g =>
 xloop [91] [(vI 0)] d6g fun τ_138 c8K next3 =>
 c4h x6 x10 c4v b4b c4x (τ_138 91) c8K next3 j2 R E)))
def d1w (_x3 _x6 _x10 _x45 _x46 x47 : Value) (w : World) (next5 : NT) (_R : RT) (E : Pan) : Prop :=
 ∀ _τ : Fr, (oP E (xBin .add 3 (.tmp 47) (.const (vI 1)) x47 (vI 1)) w fun e2A f9m =>
 next5 [e2A] f9m)
def d1x (x3 x6 x10 x45 x46 x47 : Value) (w : World) (next5 : NT) (j1 : NT) (R : RT) (E : Pan) : Prop :=
 oP E (xBin .lss 3 (.tmp 47) (.tmp 46) x47 x46) w fun e2B d8c =>
 xcond e2B
 (xcut (fun _ f9n => d1w x3 x6 x10 x45 x46 x47 f9n next5 R E) fun j6 =>
 oP E (iA 41 x45 x47) d8c fun e2C f9o =>
 oP E (lA 58 e2C) f9o fun e2D f9p =>
 oP E (xV (Instr.alloc 58 true (.tuple #[]))) f9p fun b0U f9q =>
 oP E (sA 58 b0U e2D) f9q fun _z_160 f9r =>
 oP E (fA 58 b0U 1) f9r fun e2E f9s =>
 oP E (lA 3 e2E) f9s fun e2F f9t =>
 oP E (xBin .gtr 3 (.tmp 52) (.const (vI 0)) e2F (vI 0)) f9t fun e2G d8d =>
 xcond e2G
 (dX d8d fun a7t =>
 qP Tryd.prog (xNil x10) fun e2H =>
 qP Tryd.prog (fA 90 e2H 5) fun b9Z =>
 qP Tryd.prog (fA 58 b0U 0) fun c0a =>
 qP Tryd.prog (fA 58 b0U 1) fun c6n =>
 qL Tryd.prog a7t (blk b9Z) (lA 88 b9Z) fun e2I =>
 qL Tryd.prog a7t (blk c0a) (lA 9 c0a) fun e2J =>
 qL Tryd.prog a7t (blk c6n) (lA 3 c6n) fun c6o =>
 oP E (xV (Instr.makeSlice 45 c6o c6o)) a7t fun e2K c8L =>
 keepX [(blk c0a), (blk b9Z)] a7t c8L (opK Tryd.prog E (xU (Instr.mapUpdate 88 e2I e2J e2K)) c8L fun _z_178 d8e =>
 keepX [] c8L d8e (j6 [] d8e)))
 (dX d8d fun b5d =>
 qP Tryd.prog (xNil x10) fun e2L =>
 qP Tryd.prog (fA 90 e2L 4) fun c0b =>
 qP Tryd.prog (fA 58 b0U 0) fun c0c =>
 qL Tryd.prog b5d (blk c0b) (lA 87 c0b) fun e2M =>
 qL Tryd.prog b5d (blk c0c) (lA 9 c0c) fun e2N =>
 oP E (xV (Instr.alloc 2 true (.tuple #[]))) b5d fun e2O c8M =>
 keepX [(blk c0c), (blk c0b)] b5d c8M (opK Tryd.prog E (xU (Instr.mapUpdate 87 e2M e2N e2O)) c8M fun _z_188 d8f =>
 keepX [] c8M d8f (j6 [] d8f))))
 (j1 [] d8c)
def F18 (x0 x1 x2 : Value) (w : World) (R : RT) (E : Pan) : Prop :=
 oP E (xV (Instr.box 44 x0)) w fun G2 w_2 =>
 oP E (xV (Instr.alloc 49 true (.tuple #[]))) w_2 fun a3k w_4 =>
 oP E (lA 44 G2) w_4 fun c8I w_6 =>
 oP E (xCall (fC 34) [c8I]) w_6 fun d8g w_8 =>
 oP E (eX d8g 0) w_8 fun _t20_9 m8 =>
 oP E (eX d8g 1) m8 fun d1y o4 =>
 oP E (xBin .neq 29 (.tmp 22) (.const (vI 0)) d1y (vI 0)) o4 fun f3n o2 =>
 xcond f3n
 (oP E (xV (Instr.build 49 #[])) o2 fun f3o p5 =>
 oP E (sA 49 a3k f3o) p5 fun _z_17 q7 =>
 xcell Tryd.prog 49 a3k q7 fun g3B =>
 R (Value.tuple #[g3B, d1y]) q7)
 (oP E (xBin .lss 3 (.tmp 26) (.const (vI 0)) x2 (vI 0)) o2 fun c4y a1N =>
 oP E (gsem (asB c4y) false (xBin .gtr 3 (.tmp 29) (.const (vI 65536)) (gval (asB c4y) false x2) (vI 65536))) a1N fun f3p a3l =>
 oP E (xPick c4y (vB true) f3p) a3l fun b8A b1t =>
 oP E (gsem (asB b8A) false (xBuiltin .len #[45] 3 [false] [(gval (asB b8A) false x1)])) b1t fun f3q a3j =>
 oP E (gsem (asB b8A) false (xBin .gtr 3 (.tmp 34) (.const (vI 65536)) f3q (vI 65536))) a3j fun f3r d3q =>
 oP E (xPick b8A (vB true) f3r) d3q fun f3s c4z =>
 xcond f3s
 (oP E (xV (Instr.build 49 #[])) c4z fun f3t d6h =>
 oP E (sA 49 a3k f3t) d6h fun _z_34 b0f =>
 xcell Tryd.prog 49 a3k b0f fun g3C =>
 R (Value.tuple #[g3C, (vI 80)]) b0f)
 (oP E (xV (Instr.makeMap 87 none)) c4z fun f3u D9 =>
 oP E (xV (Instr.makeMap 88 none)) D9 fun f3v E1 =>
 oP E (xV (Instr.build 90 #[(0, x2), (2, x1), (4, f3u), (5, f3v)])) E1 fun f3w G6 =>
 oP E (xV (Instr.box 90 f3w)) G6 fun d1z G1 =>
 xcut (fun _ f9u => d1v G2 a3k d1z f9u R E) fun j1 =>
 oP E (fA 44 G2 0) G1 fun e2P d8h =>
 oP E (lA 41 e2P) d8h fun c6p f9v =>
 oP E (xBuiltin .len #[41] 3 [false] [c6p]) f9v fun e2Q f9w =>
 xloop [47] [(vI 0)] f9w fun τ_190 f9x next5 =>
 d1x G2 a3k d1z c6p e2Q (τ_190 47) f9x next5 j1 R E))
noncomputable def c18 : Code := Tryd.f18.body.getD .skip
def h18 : Hint := (sQ (.seq (sQ (sQ (.cond (sQ .none) .none))) (.seq (sQ (.cond (sQ .none) .none)) (sQ (.cut [] (sQ (.block (.loop [47] (sQ (.seq (.cond .none .none) (.cut [] (.block (sQ (sQ (.cond (.reg [(0, 18014398509481984, 1024), (1, 36028797018963968, 18014398509481984), (2, 72057594037927936, 36028797018963968), (4, 144115188075855872, 72057594037927936), (0, 288230376151711744, 4096), (16, 576460752303423488, 288230376151711744), (0, 1152921504606846976, 4096), (64, 2305843009213693952, 1152921504606846976), (128, 4611686018427387904, 2305843009213693952), (511, 0, 5332261958806667264)] [168, 168, 168, 160, 168, 136, 168, 40, 40, 0] (.early 0 (.early 1 (.early 2 (.early 4 (.early 6 (.load 3 (.load 5 (.load 7 (.step 8 (.step 9 .done))))))))))) (.reg [(0, 9223372036854775808, 1024), (1, 18446744073709551616, 9223372036854775808), (2, 36893488147419103232, 18446744073709551616), (4, 73786976294838206464, 36893488147419103232), (0, 147573952589676412928, 4096), (16, 295147905179352825856, 147573952589676412928), (0, 590295810358705651712, 0), (127, 0, 959230691832896684032)] [40, 40, 40, 32, 40, 8, 40, 0] (.early 0 (.early 1 (.early 2 (.early 4 (.load 3 (.load 5 (.step 6 (.step 7 .done))))))))))))) .none)))))) (sQ (.seq (.reg [(0, 37778931862957161709568, 8192), (1, 75557863725914323419136, 37778931862957161709568), (0, 151115727451828646838272, 8192), (4, 302231454903657293676544, 151115727451828646838272), (0, 604462909807314587353088, 1024), (16, 1208925819614629174706176, 604462909807314587353088), (32, 2417851639229258349412352, 1208925819614629174706176), (64, 4835703278458516698824704, 2417851639229258349412352), (0, 9671406556917033397649408, 1024), (256, 19342813113834066795298816, 9671406556917033397649408), (512, 38685626227668133590597632, 19342813113834066795298816), (1024, 77371252455336267181195264, 38685626227668133590597632), (2186, 154742504910672534362390528, 82584745052424355497115648), (0, 16384, 0), (16383, 0, 154742504910672534362406912)] [2186, 2184, 2186, 2178, 2186, 2186, 2186, 2058, 2186, 2186, 2186, 138, 2186, 2186, 0] (.early 0 (.early 2 (.early 4 (.early 5 (.early 6 (.early 8 (.early 9 (.early 10 (.load 1 (.load 3 (.load 7 (.load 11 (.early 12 (.step 13 (.step 14 .done)))))))))))))))) (.cut [] (sQ (.block (.loop [91] (sQ (.seq (.cond .none .none) (.cut [] (.block (sQ (sQ (.cond (.reg [(0, 316912650057057350374175801344, 16384), (1, 633825300114114700748351602688, 316912650057057350374175801344), (0, 1267650600228229401496703205376, 1024), (4, 2535301200456458802993406410752, 1267650600228229401496703205376), (8, 5070602400912917605986812821504, 2535301200456458802993406410752), (16, 10141204801825835211973625643008, 5070602400912917605986812821504), (0, 20282409603651670423947251286016, 65536), (64, 40564819207303340847894502572032, 20282409603651670423947251286016), (160, 81129638414606681695789005144064, 50706024009129176059868128215040), (256, 162259276829213363391578010288128, 81129638414606681695789005144064), (514, 324518553658426726783156020576256, 162893102129327478092326361890816), (2047, 649037107316853453566312041152512, 16384), (4095, 0, 973555660975280180349468061728768)] [418, 416, 418, 418, 418, 386, 418, 290, 162, 2, 0, 418, 0] (.early 0 (.early 2 (.early 3 (.early 4 (.early 6 (.load 1 (.load 5 (.load 7 (.load 8 (.step 9 (.step 10 (.early 11 (.step 12 .done)))))))))))))) (.reg [(0, 1298074214633706907132624082305024, 16384), (1, 2596148429267413814265248164610048, 1298074214633706907132624082305024), (0, 5192296858534827628530496329220096, 1024), (4, 10384593717069655257060992658440192, 5192296858534827628530496329220096), (8, 20769187434139310514121985316880384, 10384593717069655257060992658440192), (16, 41538374868278621028243970633760768, 20769187434139310514121985316880384), (0, 83076749736557242056487941267521536, 65536), (64, 166153499473114484112975882535043072, 83076749736557242056487941267521536), (160, 332306998946228968225951765070086144, 207691874341393105141219853168803840), (256, 664613997892457936451903530140172288, 332306998946228968225951765070086144), (512, 1329227995784915872903807060280344576, 664613997892457936451903530140172288), (1024, 2658455991569831745807614120560689152, 1329227995784915872903807060280344576), (2050, 5316911983139663491615228241121378304, 2661052139999099159621879368725299200), (8191, 10633823966279326983230456482242756608, 16384), (16383, 0, 15950735949418990474845684723364134912)] [1442, 1440, 1442, 1442, 1442, 1410, 1442, 1314, 1186, 1442, 418, 2, 0, 1442, 0] (.early 0 (.early 2 (.early 3 (.early 4 (.early 6 (.load 1 (.load 5 (.load 7 (.load 8 (.early 9 (.load 10 (.step 11 (.step 12 (.early 13 (.step 14 .done)))))))))))))))))))) .none)))))) (sQ .none)))))))))
theorem f3x (x0 x1 x2 : Value) (w : World) (R : RT) (E : Pan) : F18 x0 x1 x2 w R E = callX Tryd.prog [.cell 6 49, .tmp 7] c18 h18 [x0, x1, x2] w R E := by kernel_rfl
theorem f3y {x0 x1 x2 : Value} (h : F18 x0 x1 x2 w R E) : Cv Tryd.prog 18 #[x0, x1, x2] w R E := by
 refine i2 (args := [x0, x1, x2]) (c := c18) (h := h18) (rs := [.cell 6 49, .tmp 7]) Tryd.func18 (by kernel_rfl) (by kernel_rfl) (nB (by kernel_rfl)) (by kernel_rfl) (by kernel_rfl) (by kernel_rfl) ?_
 rw [← f3x]
 exact h
def F21 (x0 x1 x2 : Value) (w : World) (R : RT) (E : Pan) : Prop :=
 oP E (xV (Instr.box 24 x1)) w fun a6R w_2 =>
 oP E (xV (Instr.box 24 x2)) w_2 fun a9Y w_4 =>
 oP E (xV (Instr.alloc 27 true (.tuple #[]))) w_4 fun a3g w_6 =>
 oP E (lA 24 a6R) w_6 fun a2C w_8 =>
 oP E (lA 24 a9Y) w_8 fun a9Z m8 =>
 oP E (xV (Instr.buildSlice 22 2 #[(0, a2C), (1, a9Z)])) m8 fun b3q o4 =>
 oP E (xV (Instr.build 27 #[(0, (vI 3)), (1, x0), (2, b3q)])) o4 fun a8c o2 =>
 oP E (sA 27 a3g a8c) o2 fun _z_15 p5 =>
 xcell Tryd.prog 27 a3g p5 fun d6i =>
 R d6i p5
noncomputable def c21 : Code := Tryd.f21.body.getD .skip
def h21 : Hint := (sQ (sQ .none))
theorem f3z (x0 x1 x2 : Value) (w : World) (R : RT) (E : Pan) : F21 x0 x1 x2 w R E = callX Tryd.prog [.cell 6 27] c21 h21 [x0, x1, x2] w R E := by kernel_rfl
theorem f3A {x0 x1 x2 : Value} (h : F21 x0 x1 x2 w R E) : Cv Tryd.prog 21 #[x0, x1, x2] w R E := by
 refine i2 (args := [x0, x1, x2]) (c := c21) (h := h21) (rs := [.cell 6 27]) Tryd.func21 (by kernel_rfl) (by kernel_rfl) (nB (by kernel_rfl)) (by kernel_rfl) (by kernel_rfl) (by kernel_rfl) ?_
 rw [← f3z]
 exact h
def F22 (x0 : Value) (w : World) (R : RT) (E : Pan) : Prop :=
 oP E (xV (Instr.alloc 24 true (.tuple #[]))) w fun b0o w_2 =>
 oP E (xV (Instr.build 24 #[(0, (vI 2)), (2, x0)])) w_2 fun a4F w_4 =>
 oP E (sA 24 b0o a4F) w_4 fun _z_5 w_6 =>
 xcell Tryd.prog 24 b0o w_6 fun r_7 =>
 R r_7 w_6
noncomputable def c22 : Code := Tryd.f22.body.getD .skip
def h22 : Hint := (sQ (sQ .none))
theorem f3B (x0 : Value) (w : World) (R : RT) (E : Pan) : F22 x0 w R E = callX Tryd.prog [.cell 2 24] c22 h22 [x0] w R E := by kernel_rfl
theorem f3C {x0 : Value} (h : F22 x0 w R E) : Cv Tryd.prog 22 #[x0] w R E := by
 refine i2 (args := [x0]) (c := c22) (h := h22) (rs := [.cell 2 24]) Tryd.func22 (by kernel_rfl) (by kernel_rfl) (nB (by kernel_rfl)) (by kernel_rfl) (by kernel_rfl) (by kernel_rfl) ?_
 rw [← f3B]
 exact h
def F23 (x0 : Value) (w : World) (R : RT) (E : Pan) : Prop :=
 oP E (xV (Instr.alloc 24 true (.tuple #[]))) w fun b0o w_2 =>
 oP E (xBin .lss 2 (.tmp 3) (.const (vI 0)) x0 (vI 0)) w_2 fun a4F w_4 =>
 xcond a4F
 (oP E (xV (Op.unary .neg x0)) w_4 fun a3g w_6 =>
 oP E (xV (Instr.build 24 #[(0, (vI 1)), (1, a3g)])) w_6 fun a9V w_8 =>
 oP E (xV (Instr.buildSlice 22 1 #[(0, a9V)])) w_8 fun a6S m8 =>
 oP E (xV (Instr.build 24 #[(0, (vI 5)), (3, a6S)])) m8 fun a9z o4 =>
 oP E (sA 24 b0o a9z) o4 fun _z_13 o2 =>
 xcell Tryd.prog 24 b0o o2 fun d4R =>
 R d4R o2)
 (oP E (xV (Instr.build 24 #[(0, (vI 1)), (1, x0)])) w_4 fun b2T a2k =>
 oP E (sA 24 b0o b2T) a2k fun _z_18 a2z =>
 xcell Tryd.prog 24 b0o a2z fun g3D =>
 R g3D a2z)
noncomputable def c23 : Code := Tryd.f23.body.getD .skip
def h23 : Hint := (sQ (.seq (sQ (.cond (sQ .none) .none)) (sQ .none)))
theorem f3D (x0 : Value) (w : World) (R : RT) (E : Pan) : F23 x0 w R E = callX Tryd.prog [.cell 2 24] c23 h23 [x0] w R E := by kernel_rfl
theorem f3E {x0 : Value} (h : F23 x0 w R E) : Cv Tryd.prog 23 #[x0] w R E := by
 refine i2 (args := [x0]) (c := c23) (h := h23) (rs := [.cell 2 24]) Tryd.func23 (by kernel_rfl) (by kernel_rfl) (nB (by kernel_rfl)) (by kernel_rfl) (by kernel_rfl) (by kernel_rfl) ?_
 rw [← f3D]
 exact h
def F24 (x0 x1 : Value) (w : World) (R : RT) (E : Pan) : Prop :=
 oP E (xV (Instr.box 24 x1)) w fun G2 w_2 =>
 oP E (xV (Instr.alloc 63 true (.tuple #[]))) w_2 fun a4F w_4 =>
 oP E (lA 24 G2) w_4 fun a3g w_6 =>
 oP E (xV (Instr.buildSlice 22 1 #[(0, a3g)])) w_6 fun a9V w_8 =>
 oP E (xV (Instr.build 63 #[(0, (vI 1)), (1, x0), (2, a9V)])) w_8 fun a6S m8 =>
 oP E (sA 63 a4F a6S) m8 fun _z_11 o4 =>
 xcell Tryd.prog 63 a4F o4 fun g3E =>
 R g3E o4
noncomputable def c24 : Code := Tryd.f24.body.getD .skip
def h24 : Hint := (sQ (sQ .none))
theorem f3F (x0 x1 : Value) (w : World) (R : RT) (E : Pan) : F24 x0 x1 w R E = callX Tryd.prog [.cell 4 63] c24 h24 [x0, x1] w R E := by kernel_rfl
theorem f3G {x0 x1 : Value} (h : F24 x0 x1 w R E) : Cv Tryd.prog 24 #[x0, x1] w R E := by
 refine i2 (args := [x0, x1]) (c := c24) (h := h24) (rs := [.cell 4 63]) Tryd.func24 (by kernel_rfl) (by kernel_rfl) (nB (by kernel_rfl)) (by kernel_rfl) (by kernel_rfl) (by kernel_rfl) ?_
 rw [← f3F]
 exact h
def F25 (x0 x1 x2 : Value) (w : World) (R : RT) (E : Pan) : Prop :=
 oP E (xV (Instr.box 24 x1)) w fun a6R w_2 =>
 oP E (xV (Instr.box 24 x2)) w_2 fun a9Y w_4 =>
 oP E (xV (Instr.alloc 24 true (.tuple #[]))) w_4 fun a3g w_6 =>
 oP E (lA 24 a6R) w_6 fun a2C w_8 =>
 oP E (lA 24 a9Y) w_8 fun a9Z m8 =>
 oP E (xV (Instr.buildSlice 22 2 #[(0, a2C), (1, a9Z)])) m8 fun b3q o4 =>
 oP E (xV (Instr.build 24 #[(0, x0), (3, b3q)])) o4 fun a8c o2 =>
 oP E (sA 24 a3g a8c) o2 fun _z_15 p5 =>
 xcell Tryd.prog 24 a3g p5 fun d6i =>
 R d6i p5
noncomputable def c25 : Code := Tryd.f25.body.getD .skip
def h25 : Hint := (sQ (sQ .none))
theorem f3H (x0 x1 x2 : Value) (w : World) (R : RT) (E : Pan) : F25 x0 x1 x2 w R E = callX Tryd.prog [.cell 6 24] c25 h25 [x0, x1, x2] w R E := by kernel_rfl
theorem f3I {x0 x1 x2 : Value} (h : F25 x0 x1 x2 w R E) : Cv Tryd.prog 25 #[x0, x1, x2] w R E := by
 refine i2 (args := [x0, x1, x2]) (c := c25) (h := h25) (rs := [.cell 6 24]) Tryd.func25 (by kernel_rfl) (by kernel_rfl) (nB (by kernel_rfl)) (by kernel_rfl) (by kernel_rfl) (by kernel_rfl) ?_
 rw [← f3H]
 exact h
def d1A (x0 x6 x7 x8 : Value) (w : World) (next1 : NT) (R : RT) (E : Pan) : Prop :=
 oP E (xBin .lss 3 (.tmp 8) (.tmp 7) x8 x7) w fun a2y w_4 =>
 xcond a2y
 (oP E (iA 42 x6 x8) w_4 fun a1k w_6 =>
 oP E (lA 63 a1k) w_6 fun b1w w_8 =>
 oP E (xV (Instr.alloc 63 true (.tuple #[]))) w_8 fun f3J m8 =>
 oP E (sA 63 f3J b1w) m8 fun _z_11 o4 =>
 oP E (lA 63 f3J) o4 fun f3K o2 =>
 oP E (xCall (fC 111) [x0, f3K]) o2 fun _t14_15 p5 =>
 oP E (xBin .add 3 (.tmp 8) (.const (vI 1)) x8 (vI 1)) p5 fun f3L q7 =>
 next1 [f3L] q7)
 (R (Value.tuple #[]) w_4)
def F82 (x0 x1 : Value) (w : World) (R : RT) (E : Pan) : Prop :=
 oP E (xBuiltin .len #[42] 3 [false] [x1]) w fun a2B w_2 =>
 xloop [8] [(vI 0)] w_2 fun τ_19 q9 next1 =>
 d1A x0 x1 a2B (τ_19 8) q9 next1 R E
noncomputable def c82 : Code := Tryd.f82.body.getD .skip
def h82 : Hint := (sQ (.block (.loop [8] (sQ (.seq (.cond .none .none) (.seq (.block (sQ .none)) .none))))))
theorem f3M (x0 x1 : Value) (w : World) (R : RT) (E : Pan) : F82 x0 x1 w R E = callX Tryd.prog [] c82 h82 [x0, x1] w R E := by kernel_rfl
theorem f3N {x0 x1 : Value} (h : F82 x0 x1 w R E) : Cv Tryd.prog 82 #[x0, x1] w R E := by
 refine i2 (args := [x0, x1]) (c := c82) (h := h82) (rs := []) Tryd.func82 (by kernel_rfl) (by kernel_rfl) (nB (by kernel_rfl)) (by kernel_rfl) (by kernel_rfl) (by kernel_rfl) ?_
 rw [← f3M]
 exact h
def c0d (x0 x3 x4 : Value) (w : World) (R : RT) (E : Pan) : Prop :=
 ∀ _τ : Fr, (dX w fun a3l =>
 qP Tryd.prog (xNil x0) fun f3O =>
 qP Tryd.prog (fA 90 f3O 4) fun d1B =>
 qP Tryd.prog (fA 63 x3 1) fun d1C =>
 qL Tryd.prog a3l (blk d1B) (lA 87 d1B) fun d1D =>
 qL Tryd.prog a3l (blk d1C) (lA 9 d1C) fun f3P =>
 qL Tryd.prog a3l (blk d1D) (xV (Instr.lookup 87 d1D f3P false)) fun f3Q =>
 qP Tryd.prog (xNil f3Q) fun f3R =>
 oP E (sA 2 f3R x4) a3l fun _z_31 B9 =>
 keepX [] a3l B9 (R (Value.tuple #[]) B9))
def c6q (x0 x3 : Value) (w : World) (next2 : NT) (R : RT) (E : Pan) : Prop :=
 oP E (fA 63 x3 3) w fun e2R U8 =>
 oP E (lA 25 e2R) U8 fun e2S a1E =>
 oP E (iA 25 e2S (vI 0)) a1E fun e2T a3q =>
 oP E (lA 27 e2T) a3q fun e2U a1F =>
 oP E (xCall (fC 134) [x0, e2U]) a1F fun e2V R9 =>
 xcond e2V
 (oP E (fA 63 x3 4) R9 fun e2W T6 =>
 oP E (lA 42 e2W) T6 fun e2X a2A =>
 oP E (xCall (fC 82) [x0, e2X]) a2A fun _t90_119 Q7 =>
 next2 [] Q7)
 (R (Value.tuple #[]) R9)
def d6j (x0 x1 : Value) (w : World) (R : RT) (E : Pan) : Prop :=
 oP E (xV (Instr.box 63 x1)) w fun G2 w_2 =>
 oP E (fA 63 G2 0) w_2 fun a2y w_4 =>
 oP E (lA 3 a2y) w_4 fun a1k w_6 =>
 oP E (xBin .eql 3 (.tmp 10) (.const (vI 1)) a1k (vI 1)) w_6 fun S8 w_8 =>
 xcond S8
 (oP E (fA 63 G2 2) w_8 fun b7W m8 =>
 oP E (lA 22 b7W) m8 fun b3J o4 =>
 oP E (iA 22 b3J (vI 0)) o4 fun a7W o2 =>
 oP E (lA 24 a7W) o2 fun c2j p5 =>
 oP E (xCall (fC 130) [x0, c2j]) p5 fun b0y q7 =>
 oP E (eX b0y 0) q7 fun c4A q9 =>
 oP E (eX b0y 1) q9 fun c4B t1 =>
 xcut (fun b9I D2 => c0d x0 G2 (nth b9I 0) D2 R E) fun j1 =>
 xcond c4B
 (oP E (xCall (fC 131) [x0]) t1 fun _t26_35 F7 =>
 j1 [c4A] F7)
 (oP E (fA 63 G2 2) t1 fun c3z D9 =>
 oP E (lA 22 c3z) D9 fun b3e E1 =>
 oP E (iA 22 b3e (vI 0)) E1 fun c2t G6 =>
 oP E (lA 24 c2t) G6 fun c2u G1 =>
 oP E (xCall (fC 132) [x0, c2u]) G1 fun c2v L5 =>
 j1 [c2v] L5))
 (oP E (xBin .eql 3 (.tmp 10) (.const (vI 2)) a1k (vI 2)) w_8 fun f3S K4 =>
 xcond f3S
 (oP E (fA 63 G2 2) K4 fun f3T G5 =>
 oP E (lA 22 f3T) G5 fun f3U E3 =>
 oP E (iA 22 f3U (vI 0)) E3 fun f3V M3 =>
 oP E (lA 24 f3V) M3 fun f3W M4 =>
 oP E (xCall (fC 132) [x0, f3W]) M4 fun c3H M1 =>
 oP E (fA 63 G2 2) M1 fun f3X O3 =>
 oP E (lA 22 f3X) O3 fun f3Y M5 =>
 oP E (iA 22 f3Y (vI 1)) M5 fun f3Z N0 =>
 oP E (lA 24 f3Z) N0 fun c3J O4 =>
 oP E (xCall (fC 132) [x0, c3J]) O4 fun b8i O5 =>
 oP E (fA 63 G2 1) O5 fun f4a L6 =>
 oP E (lA 9 f4a) L6 fun f4b P1 =>
 oP E (xCall (fC 133) [x0, f4b, c3H]) P1 fun f4c Q3 =>
 oP E (xNil f4c) Q3 fun f4d R8 =>
 oP E (sA 2 f4d b8i) R8 fun _z_77 N4 =>
 R (Value.tuple #[]) N4)
 (oP E (xBin .eql 3 (.tmp 10) (.const (vI 3)) a1k (vI 3)) K4 fun f4e S4 =>
 xcond f4e
 (oP E (fA 63 G2 3) S4 fun b4c Q6 =>
 oP E (lA 25 b4c) Q6 fun b4d P2 =>
 oP E (iA 25 b4d (vI 0)) P2 fun b4e S5 =>
 oP E (lA 27 b4e) S5 fun b4f N5 =>
 oP E (xCall (fC 134) [x0, b4f]) N5 fun f4f W5 =>
 xcond f4f
 (oP E (fA 63 G2 4) W5 fun f4g a1g =>
 oP E (lA 42 f4g) a1g fun f4h a0K =>
 oP E (xCall (fC 82) [x0, f4h]) a0K fun _t74_95 a0q =>
 R (Value.tuple #[]) a0q)
 (oP E (fA 63 G2 5) W5 fun f4i a0L =>
 oP E (lA 42 f4i) a0L fun f4j T5 =>
 oP E (xCall (fC 82) [x0, f4j]) T5 fun _t78_101 N7 =>
 R (Value.tuple #[]) N7))
 (oP E (xBin .eql 3 (.tmp 10) (.const (vI 4)) a1k (vI 4)) S4 fun e2Y O8 =>
 xcond e2Y
 (xloop [] [] O8 fun _ a1Q next2 =>
 c6q x0 G2 a1Q next2 R E)
 (oP E (xBin .eql 3 (.tmp 10) (.const (vI 6)) a1k (vI 6)) O8 fun e2Z a4y =>
 xcond e2Z
 (oP E (fA 63 G2 3) a4y fun e3a a5z =>
 oP E (lA 25 e3a) a5z fun e3b a4z =>
 oP E (iA 25 e3b (vI 0)) a4z fun e3c a4A =>
 oP E (lA 27 e3c) a4A fun e3d a2D =>
 oP E (xCall (fC 134) [x0, e3d]) a2D fun e3e a2E =>
 oP E (xV (Op.unary .not e3e)) a2E fun e3f a3O =>
 xcond e3f
 (oP E (xCall (fC 135) [x0, (vI 2), (vI 0)]) a3O fun _t101_137 a5w =>
 R (Value.tuple #[]) a5w)
 (R (Value.tuple #[]) a3O))
 (oP E (xBin .eql 3 (.tmp 10) (.const (vI 5)) a1k (vI 5)) a4y fun d6k a5x =>
 xcond d6k
 (oP E (fA 63 G2 3) a5x fun d6l a7o =>
 oP E (lA 25 d6l) a7o fun d6m a6t =>
 oP E (iA 25 d6m (vI 0)) a6t fun d6n b1z =>
 oP E (lA 27 d6n) b1z fun d6o a9A =>
 oP E (xCall (fC 134) [x0, d6o]) a9A fun c4C b1A =>
 oP E (xCall (fC 131) [x0]) b1A fun _t111_151 b7H =>
 oP E (xNil x0) b7H fun d6p b7M =>
 oP E (fA 90 d6p 3) b7M fun d6q b4H =>
 oP E (lA 46 d6q) b4H fun d6r b7N =>
 oP E (xV (Instr.build 55 #[(2, c4C)])) b7N fun d6s c8B =>
 oP E (xV (Instr.buildSlice 46 1 #[(0, d6s)])) c8B fun d6t c8C =>
 oP E (xBuiltin .append #[46, 46] 46 [false, false] [d6r, d6t]) c8C fun d6u c8D =>
 oP E (xNil x0) c8D fun d6v c8E =>
 oP E (fA 90 d6v 3) c8E fun d6w a7t =>
 oP E (sA 46 d6w d6u) a7t fun _z_169 c8F =>
 oP E (xV (Op.unary .not c4C)) c8F fun d6x c1h =>
 xcond d6x
 (oP E (xCall (fC 136) [x0, (vI 4)]) c1h fun _t126_173 c8G =>
 R (Value.tuple #[]) c8G)
 (R (Value.tuple #[]) c1h))
 (oP E (xCall (fC 131) [x0]) a5x fun _t12_175 c8H =>
 R (Value.tuple #[]) c8H))))))
noncomputable def f4k : Code := Tryd.f111.body.getD .skip
def f4l : Hint := (sQ (sQ (.block (sQ (.cond (sQ (.cut [4] (sQ (.cond .none .none)) (.reg [(0, 8589934592, 1), (1, 17179869184, 8589934592), (2, 34359738368, 17179869184), (4, 68719476736, 34359738368), (0, 137438953472, 8), (16, 274877906944, 137438953472), (40, 549755813888, 343597383680), (0, 1099511627776, 16), (255, 2199023255552, 549755813888), (511, 0, 3298534883328)] [104, 104, 104, 96, 104, 72, 40, 104, 104, 0] (.early 0 (.early 1 (.early 2 (.early 4 (.early 7 (.load 3 (.load 5 (.load 6 (.early 8 (.step 9 .done))))))))))))) (sQ (.cond (sQ (sQ .none)) (sQ (.cond (sQ (.cond .none .none)) (sQ (.cond (.block (.loop [] (.seq (sQ (.cond .none .none)) (.block .none)))) (sQ (.cond (sQ (.cond .none .none)) (sQ (.cond (sQ (sQ (sQ (sQ (.cond .none .none))))) .none)))))))))))))))
theorem e3g (x0 x1 : Value) (w : World) (R : RT) (E : Pan) : d6j x0 x1 w R E = callX Tryd.prog [] f4k f4l [x0, x1] w R E := by kernel_rfl
theorem e3h {x0 x1 : Value} (h : d6j x0 x1 w R E) : Cv Tryd.prog 111 #[x0, x1] w R E := by
 refine i2 (args := [x0, x1]) (c := f4k) (h := f4l) (rs := []) Tryd.func111 (by kernel_rfl) (by kernel_rfl) (nB (by kernel_rfl)) (by kernel_rfl) (by kernel_rfl) (by kernel_rfl) ?_
 rw [← e3g]
 exact h
def d6y (x0 x1 : Value) (w : World) (R : RT) (E : Pan) : Prop :=
 oP E (xV (Instr.box 24 x1)) w fun G2 w_2 =>
 oP E (fA 24 G2 0) w_2 fun a3k w_4 =>
 oP E (lA 3 a3k) w_4 fun a7Z w_6 =>
 oP E (xBin .eql 3 (.tmp 7) (.const (vI 2)) a7Z (vI 2)) w_6 fun a2C w_8 =>
 xcond a2C
 (dX w_8 fun w_9 =>
 qP Tryd.prog (xNil x0) fun f4m =>
 qP Tryd.prog (fA 90 f4m 4) fun a6C =>
 qP Tryd.prog (fA 24 G2 2) fun d1E =>
 qL Tryd.prog w_9 (blk a6C) (lA 87 a6C) fun a6D =>
 qL Tryd.prog w_9 (blk d1E) (lA 9 d1E) fun f4n =>
 qL Tryd.prog w_9 (blk a6D) (xV (Instr.lookup 87 a6D f4n false)) fun c4D =>
 qP Tryd.prog (xNil c4D) fun d1F =>
 qL Tryd.prog w_9 (blk d1F) (lA 2 d1F) fun a5o =>
 R (Value.tuple #[a5o, (vB true)]) w_9)
 (oP E (lA 24 G2) w_8 fun f4o a2z =>
 oP E (xCall (fC 146) [f4o]) a2z fun d1G a1N =>
 oP E (eX d1G 0) a1N fun f4p a3l =>
 oP E (eX d1G 1) a3l fun f4q b1t =>
 R (Value.tuple #[f4p, f4q]) b1t)
noncomputable def f4r : Code := Tryd.f130.body.getD .skip
def f4s : Hint := (sQ (.seq (sQ (.cond (.seq (.reg [(0, 512, 1), (1, 1024, 512), (2, 2048, 1024), (4, 4096, 2048), (0, 8192, 8), (16, 16384, 8192), (40, 32768, 20480), (64, 65536, 32768), (128, 131072, 65536), (511, 16, 131072), (1023, 32, 0)] [360, 360, 360, 352, 360, 328, 296, 360, 104, 360, 360] (.early 0 (.early 1 (.early 2 (.early 4 (.load 3 (.load 5 (.load 6 (.early 7 (.load 8 (.early 9 (.early 10 .done)))))))))))) .none) .none)) (sQ .none)))
theorem e3i (x0 x1 : Value) (w : World) (R : RT) (E : Pan) : d6y x0 x1 w R E = callX Tryd.prog [.tmp 4, .tmp 5] f4r f4s [x0, x1] w R E := by kernel_rfl
theorem e3j {x0 x1 : Value} (h : d6y x0 x1 w R E) : Cv Tryd.prog 130 #[x0, x1] w R E := by
 refine i2 (args := [x0, x1]) (c := f4r) (h := f4s) (rs := [.tmp 4, .tmp 5]) Tryd.func130 (by kernel_rfl) (by kernel_rfl) (nB (by kernel_rfl)) (by kernel_rfl) (by kernel_rfl) (by kernel_rfl) ?_
 rw [← e3i]
 exact h
def c6r (x0 : Value) (w : World) (R : RT) (E : Pan) : Prop :=
 ∀ _τ : Fr, (oP E (xNil x0) w fun b4D w_2 =>
 oP E (fA 90 b4D 0) w_2 fun a0J w_4 =>
 oP E (lA 3 a0J) w_4 fun a5r w_6 =>
 oP E (xBin .sub 3 (.tmp 12) (.const (vI 1)) a5r (vI 1)) w_6 fun a5s w_8 =>
 oP E (xNil x0) w_8 fun a3N m8 =>
 oP E (fA 90 a3N 0) m8 fun a5t o4 =>
 oP E (sA 3 a5t a5s) o4 fun _z_13 o2 =>
 oP E (xNil x0) o2 fun a2l p5 =>
 oP E (fA 90 a2l 1) p5 fun b2Y q7 =>
 oP E (lA 3 b2Y) q7 fun c2a q9 =>
 oP E (xBin .add 3 (.tmp 19) (.const (vI 1)) c2a (vI 1)) q9 fun c2b t1 =>
 oP E (xNil x0) t1 fun c4E u5 =>
 oP E (fA 90 c4E 1) u5 fun b2W A7 =>
 oP E (sA 3 b2W c2b) A7 fun _z_27 C3 =>
 R (Value.tuple #[]) C3)
def d6z (x0 : Value) (w : World) (R : RT) (E : Pan) : Prop :=
 xcut (fun _ D8 => c6r x0 D8 R E) fun j1 =>
 oP E (xNil x0) w fun f9y B9 =>
 oP E (fA 90 f9y 0) B9 fun f9z D2 =>
 oP E (lA 3 f9z) D2 fun f9A F7 =>
 oP E (xBin .eql 3 (.tmp 5) (.const (vI 0)) f9A (vI 0)) F7 fun f9B D9 =>
 xcond f9B
 (oP E (xCall (fC 135) [x0, (vI 1), (vI 0)]) D9 fun _t8_39 E1 =>
 j1 [] E1)
 (j1 [] D9)
noncomputable def f4t : Code := Tryd.f131.body.getD .skip
def f4u : Hint := (.cut [] (sQ (.cond .none .none)) (sQ .none))
theorem e3k (x0 : Value) (w : World) (R : RT) (E : Pan) : d6z x0 w R E = callX Tryd.prog [] f4t f4u [x0] w R E := by kernel_rfl
theorem e3l {x0 : Value} (h : d6z x0 w R E) : Cv Tryd.prog 131 #[x0] w R E := by
 refine i2 (args := [x0]) (c := f4t) (h := f4u) (rs := []) Tryd.func131 (by kernel_rfl) (by kernel_rfl) (nB (by kernel_rfl)) (by kernel_rfl) (by kernel_rfl) (by kernel_rfl) ?_
 rw [← e3k]
 exact h
def c0e (x0 x3 x7 : Value) (w : World) (R : RT) (E : Pan) : Prop :=
 ∀ _τ : Fr, (oP E (fA 24 x3 0) w fun f4v o4 =>
 oP E (lA 3 f4v) o4 fun b7u o2 =>
 oP E (xBin .eql 3 (.tmp 33) (.const (vI 3)) b7u (vI 3)) o2 fun f4w p5 =>
 xcond f4w
 (oP E (xCall (fC 147) [x0]) p5 fun f4x q7 =>
 R f4x q7)
 (oP E (xBin .eql 3 (.tmp 33) (.const (vI 4)) b7u (vI 4)) p5 fun f4y q9 =>
 xcond f4y
 (dX q9 fun a1N =>
 qP Tryd.prog (fA 24 x3 2) fun d1H =>
 qP Tryd.prog (iA 45 x7 (vI 0)) fun d1I =>
 qL Tryd.prog a1N (blk d1H) (lA 9 d1H) fun f4z =>
 qL Tryd.prog a1N (blk d1I) (lA 2 d1I) fun f4A =>
 oP E (xCall (fC 133) [x0, f4z, f4A]) a1N fun f4B a3j =>
 keepX [] a1N a3j (qP Tryd.prog (xNil f4B) fun d1J =>
 qL Tryd.prog a3j (blk d1J) (lA 2 d1J) fun f4C =>
 R f4C a3j))
 (oP E (xCall (fC 131) [x0]) q9 fun _t50_30 c4z =>
 oP E (fA 24 x3 0) c4z fun f4D d6h =>
 oP E (lA 3 f4D) d6h fun b4g b0f =>
 oP E (xBin .eql 3 (.tmp 52) (.const (vI 5)) b4g (vI 5)) b0f fun f4E d3j =>
 xcond f4E
 (oP E (iA 45 x7 (vI 0)) d3j fun f4F d3t =>
 oP E (lA 2 f4F) d3t fun f4G b9c =>
 oP E (xCall (fC 101) [f4G]) b9c fun d1K b5S =>
 oP E (eX d1K 0) b5S fun f4H a9X =>
 oP E (eX d1K 1) a9X fun f4I b5T =>
 oP E (xCall (fC 148) [x0, f4H, f4I]) b5T fun f4J b1v =>
 R f4J b1v)
 (oP E (xBin .eql 3 (.tmp 52) (.const (vI 6)) b4g (vI 6)) d3j fun f4K c0f =>
 xcond f4K
 (dX c0f fun E3 =>
 qP Tryd.prog (iA 45 x7 (vI 0)) fun d1L =>
 qP Tryd.prog (iA 45 x7 (vI 1)) fun d1M =>
 qL Tryd.prog E3 (blk d1L) (lA 2 d1L) fun f4L =>
 qL Tryd.prog E3 (blk d1M) (lA 2 d1M) fun f4M =>
 oP E (xCall (fC 26) [f4L, f4M]) E3 fun d1N M1 =>
 keepX [] E3 M1 (qP Tryd.prog (eX d1N 0) fun f4N =>
 qP Tryd.prog (eX d1N 1) fun f4O =>
 oP E (xCall (fC 148) [x0, f4N, f4O]) M1 fun f4P M5 =>
 keepX [] M1 M5 (R f4P M5)))
 (oP E (xBin .eql 3 (.tmp 52) (.const (vI 7)) b4g (vI 7)) c0f fun f4Q N0 =>
 xcond f4Q
 (dX N0 fun b5Z =>
 qP Tryd.prog (iA 45 x7 (vI 0)) fun d1O =>
 qP Tryd.prog (iA 45 x7 (vI 1)) fun d1P =>
 qL Tryd.prog b5Z (blk d1O) (lA 2 d1O) fun f4R =>
 qL Tryd.prog b5Z (blk d1P) (lA 2 d1P) fun f4S =>
 oP E (xCall (fC 27) [f4R, f4S]) b5Z fun d1Q d6A =>
 keepX [] b5Z d6A (qP Tryd.prog (eX d1Q 0) fun f4T =>
 qP Tryd.prog (eX d1Q 1) fun f4U =>
 oP E (xCall (fC 148) [x0, f4T, f4U]) d6A fun f4V d6B =>
 keepX [] d6A d6B (R f4V d6B)))
 (oP E (xBin .eql 3 (.tmp 52) (.const (vI 8)) b4g (vI 8)) N0 fun f4W b9Y =>
 xcond f4W
 (dX b9Y fun N4 =>
 qP Tryd.prog (iA 45 x7 (vI 0)) fun d1R =>
 qP Tryd.prog (iA 45 x7 (vI 1)) fun d1S =>
 qL Tryd.prog N4 (blk d1R) (lA 2 d1R) fun f4X =>
 qL Tryd.prog N4 (blk d1S) (lA 2 d1S) fun f4Y =>
 oP E (xCall (fC 28) [f4X, f4Y]) N4 fun d1T P2 =>
 keepX [] N4 P2 (qP Tryd.prog (eX d1T 0) fun f4Z =>
 qP Tryd.prog (eX d1T 1) fun e3m =>
 oP E (xCall (fC 148) [x0, f4Z, e3m]) P2 fun e3n N5 =>
 keepX [] P2 N5 (R e3n N5)))
 (oP E (xBin .eql 3 (.tmp 52) (.const (vI 9)) b4g (vI 9)) b9Y fun e3o W5 =>
 xcond e3o
 (dX W5 fun b4a =>
 qP Tryd.prog (iA 45 x7 (vI 0)) fun c6s =>
 qP Tryd.prog (iA 45 x7 (vI 1)) fun b5f =>
 qL Tryd.prog b4a (blk c6s) (lA 2 c6s) fun e3p =>
 qL Tryd.prog b4a (blk b5f) (lA 2 b5f) fun a3W =>
 oP E (xCall (fC 29) [e3p, a3W]) b4a fun c6t b2o =>
 keepX [] b4a b2o (qP Tryd.prog (eX c6t 0) fun e3q =>
 qP Tryd.prog (eX c6t 1) fun b9V =>
 oP E (xCall (fC 148) [x0, e3q, b9V]) b2o fun d6C c1j =>
 keepX [] b2o c1j (R d6C c1j)))
 (dX W5 fun N7 =>
 qP Tryd.prog (iA 45 x7 (vI 0)) fun c4F =>
 qP Tryd.prog (iA 45 x7 (vI 1)) fun c4G =>
 qL Tryd.prog N7 (blk c4F) (lA 2 c4F) fun d6D =>
 qL Tryd.prog N7 (blk c4G) (lA 2 c4G) fun d6E =>
 oP E (xCall (fC 30) [d6D, d6E]) N7 fun c4H a1E =>
 keepX [] N7 a1E (qP Tryd.prog (eX c4H 0) fun d6F =>
 qP Tryd.prog (eX c4H 1) fun d6G =>
 oP E (xCall (fC 148) [x0, d6F, d6G]) a1E fun d6H a1F =>
 keepX [] a1E a1F (R d6H a1F))))))))))
def c6u (x0 _x3 x7 x19 x20 x21 : Value) (w : World) (next2 : NT) (j1 : NT) (_R : RT) (E : Pan) : Prop :=
 oP E (xBin .lss 3 (.tmp 21) (.tmp 20) x21 x20) w fun e3r a1Q =>
 xcond e3r
 (oP E (iA 22 x19 x21) a1Q fun e3s a4y =>
 oP E (lA 24 e3s) a4y fun e3t a5z =>
 oP E (xV (Instr.alloc 24 true (.tuple #[]))) a5z fun d1U a4z =>
 oP E (sA 24 d1U e3t) a4z fun _z_129 a4A =>
 oP E (lA 24 d1U) a4A fun e3u a2D =>
 oP E (xCall (fC 132) [x0, e3u]) a2D fun e3v a2E =>
 oP E (xV (Instr.buildSlice 45 1 #[(0, e3v)])) a2E fun e3w a3O =>
 oP E (xBuiltin .append #[45, 45] 45 [false, false] [x7, e3w]) a3O fun e3x a5w =>
 oP E (xBin .add 3 (.tmp 21) (.const (vI 1)) x21 (vI 1)) a5w fun e3y a5x =>
 next2 [e3x, e3y] a5x)
 (j1 [x7] a1Q)
def d6I (x0 x1 : Value) (w : World) (R : RT) (E : Pan) : Prop :=
 oP E (xV (Instr.box 24 x1)) w fun G2 w_2 =>
 oP E (lA 24 G2) w_2 fun c8N w_4 =>
 oP E (xCall (fC 130) [x0, c8N]) w_4 fun a3U w_6 =>
 oP E (eX a3U 0) w_6 fun S8 w_8 =>
 oP E (eX a3U 1) w_8 fun a4x m8 =>
 xcond a4x
 (R S8 m8)
 (xcut (fun f9C R9 => c0e x0 G2 (nth f9C 0) R9 R E) fun j1 =>
 oP E (fA 24 G2 3) m8 fun e3z T6 =>
 oP E (lA 22 e3z) T6 fun c6v a2A =>
 oP E (xBuiltin .len #[22] 3 [false] [c6v]) a2A fun e3A Q7 =>
 xloop [7, 21] [(nS), (vI 0)] Q7 fun τ_141 a7o next2 =>
 c6u x0 G2 (τ_141 7) c6v e3A (τ_141 21) a7o next2 j1 R E)
noncomputable def f5a : Code := Tryd.f132.body.getD .skip
def f5b : Hint := (sQ (.seq (sQ (sQ (.cond (sQ .none) .none))) (sQ (.cut [7] (sQ (.block (.loop [7, 21] (sQ (.seq (.cond .none .none) (.seq (.block (sQ .none)) .none)))))) (.seq (sQ (.block (sQ (.cond (sQ .none) (sQ (.cond (.seq (.reg [(0, 1099511627776, 1), (0, 2199023255552, 8), (2, 4398046511104, 2199023255552), (0, 8796093022208, 128), (8, 17592186044416, 8796093022208), (16, 35184372088832, 17592186044416), (37, 70368744177664, 40681930227712), (64, 140737488355328, 70368744177664), (128, 281474976710656, 140737488355328), (511, 16, 281474976710656)] [292, 292, 288, 292, 292, 260, 0, 292, 36, 292] (.early 0 (.early 1 (.early 3 (.early 4 (.load 2 (.load 5 (.step 6 (.early 7 (.load 8 (.early 9 .done))))))))))) .none) .none)))))) (sQ (.seq (sQ (.block (sQ (.cond (sQ .none) (sQ (.cond (.seq (.reg [(0, 36893488147419103232, 1), (0, 73786976294838206464, 128), (2, 147573952589676412928, 73786976294838206464), (4, 295147905179352825856, 147573952589676412928), (0, 590295810358705651712, 128), (16, 1180591620717411303424, 590295810358705651712), (32, 2361183241434822606848, 1180591620717411303424), (72, 4722366482869645213696, 2656331146614175432704), (128, 9444732965739290427392, 4722366482869645213696), (128, 18889465931478580854784, 4722366482869645213696), (897, 37778931862957161709568, 28371092385365290385408), (2047, 16, 37778931862957161709568)] [72, 72, 72, 64, 72, 72, 8, 0, 72, 72, 0, 72] (.early 0 (.early 1 (.early 2 (.early 4 (.early 5 (.load 3 (.load 6 (.step 7 (.early 8 (.early 9 (.step 10 (.early 11 .done))))))))))))) .none) (sQ (.cond (.seq (.reg [(0, 302231454903657293676544, 1), (0, 604462909807314587353088, 128), (2, 1208925819614629174706176, 604462909807314587353088), (4, 2417851639229258349412352, 1208925819614629174706176), (0, 4835703278458516698824704, 128), (16, 9671406556917033397649408, 4835703278458516698824704), (32, 19342813113834066795298816, 9671406556917033397649408), (72, 38685626227668133590597632, 21760664753063325144711168), (128, 77371252455336267181195264, 38685626227668133590597632), (128, 154742504910672534362390528, 38685626227668133590597632), (897, 309485009821345068724781056, 232415988820912458837262336), (2047, 16, 309485009821345068724781056)] [72, 72, 72, 64, 72, 72, 8, 0, 72, 72, 0, 72] (.early 0 (.early 1 (.early 2 (.early 4 (.early 5 (.load 3 (.load 6 (.step 7 (.early 8 (.early 9 (.step 10 (.early 11 .done))))))))))))) .none) (sQ (.cond (.seq (.reg [(0, 2475880078570760549798248448, 1), (0, 4951760157141521099596496896, 128), (2, 9903520314283042199192993792, 4951760157141521099596496896), (4, 19807040628566084398385987584, 9903520314283042199192993792), (0, 39614081257132168796771975168, 128), (16, 79228162514264337593543950336, 39614081257132168796771975168), (32, 158456325028528675187087900672, 79228162514264337593543950336), (72, 316912650057057350374175801344, 178263365657094759585473888256), (128, 633825300114114700748351602688, 316912650057057350374175801344), (128, 1267650600228229401496703205376, 316912650057057350374175801344), (897, 2535301200456458802993406410752, 1903951780420914862794853056512), (2047, 16, 2535301200456458802993406410752)] [72, 72, 72, 64, 72, 72, 8, 0, 72, 72, 0, 72] (.early 0 (.early 1 (.early 2 (.early 4 (.early 5 (.load 3 (.load 6 (.step 7 (.early 8 (.early 9 (.step 10 (.early 11 .done))))))))))))) .none) (sQ (.cond (.seq (.reg [(0, 20282409603651670423947251286016, 1), (0, 40564819207303340847894502572032, 128), (2, 81129638414606681695789005144064, 40564819207303340847894502572032), (4, 162259276829213363391578010288128, 81129638414606681695789005144064), (0, 324518553658426726783156020576256, 128), (16, 649037107316853453566312041152512, 324518553658426726783156020576256), (32, 1298074214633706907132624082305024, 649037107316853453566312041152512), (72, 2596148429267413814265248164610048, 1460333491462920270524202092593152), (128, 5192296858534827628530496329220096, 2596148429267413814265248164610048), (128, 10384593717069655257060992658440192, 2596148429267413814265248164610048), (897, 20769187434139310514121985316880384, 15597172985208134556015436238946304), (2047, 16, 20769187434139310514121985316880384)] [72, 72, 72, 64, 72, 72, 8, 0, 72, 72, 0, 72] (.early 0 (.early 1 (.early 2 (.early 4 (.early 5 (.load 3 (.load 6 (.step 7 (.early 8 (.early 9 (.step 10 (.early 11 .done))))))))))))) .none) .none)))))))))))) (.seq (.reg [(0, 41538374868278621028243970633760768, 1), (0, 83076749736557242056487941267521536, 128), (2, 166153499473114484112975882535043072, 83076749736557242056487941267521536), (4, 332306998946228968225951765070086144, 166153499473114484112975882535043072), (0, 664613997892457936451903530140172288, 128), (16, 1329227995784915872903807060280344576, 664613997892457936451903530140172288), (32, 2658455991569831745807614120560689152, 1329227995784915872903807060280344576), (72, 5316911983139663491615228241121378304, 2990762990516060714033565885630775296), (128, 10633823966279326983230456482242756608, 5316911983139663491615228241121378304), (128, 21267647932558653966460912964485513216, 5316911983139663491615228241121378304), (897, 42535295865117307932921825928971026432, 31943010273706259570719613417362030592), (2047, 16, 42535295865117307932921825928971026432)] [72, 72, 72, 64, 72, 72, 8, 0, 72, 72, 0, 72] (.early 0 (.early 1 (.early 2 (.early 4 (.early 5 (.load 3 (.load 6 (.step 7 (.early 8 (.early 9 (.step 10 (.early 11 .done))))))))))))) .none))))))))
theorem e3B (x0 x1 : Value) (w : World) (R : RT) (E : Pan) : d6I x0 x1 w R E = callX Tryd.prog [.tmp 4] f5a f5b [x0, x1] w R E := by kernel_rfl
theorem e3C {x0 x1 : Value} (h : d6I x0 x1 w R E) : Cv Tryd.prog 132 #[x0, x1] w R E := by
 refine i2 (args := [x0, x1]) (c := f5a) (h := f5b) (rs := [.tmp 4]) Tryd.func132 (by kernel_rfl) (by kernel_rfl) (nB (by kernel_rfl)) (by kernel_rfl) (by kernel_rfl) (by kernel_rfl) ?_
 rw [← e3B]
 exact h
def c6w (x2 x7 : Value) (w : World) (R : RT) (E : Pan) : Prop :=
 ∀ _τ : Fr, (oP E (iA 45 x7 x2) w fun f5c o4 =>
 R f5c o4)
def d6J (x0 x1 x2 : Value) (w : World) (R : RT) (E : Pan) : Prop :=
 oP E (xCall (fC 131) [x0]) w fun _t9_1 w_2 =>
 oP E (xNil x0) w_2 fun a0J w_4 =>
 oP E (fA 90 a0J 5) w_4 fun a5r w_6 =>
 oP E (lA 88 a5r) w_6 fun a5s w_8 =>
 oP E (xV (Instr.lookup 88 a5s x1 false)) w_8 fun a4x m8 =>
 xcut (fun _ o2 => c6w x2 a4x o2 R E) fun j1 =>
 oP E (xBin .lss 2 (.tmp 16) (.const (vI 0)) x2 (vI 0)) m8 fun a2l p5 =>
 oP E (gsem (asB a2l) false (xBuiltin .len #[45] 3 [false] [(gval (asB a2l) false a4x)])) p5 fun b0y q7 =>
 oP E (gsem (asB a2l) false (xBin .geq 2 (.tmp 19) (.tmp 21) (gval (asB a2l) false x2) b0y)) q7 fun c4A q9 =>
 oP E (xPick a2l (vB true) c4A) q9 fun c4B t1 =>
 xcond c4B
 (oP E (xCall (fC 136) [x0, (vI 3)]) t1 fun _t25_23 u5 =>
 j1 [] u5)
 (j1 [] t1)
noncomputable def f5d : Code := Tryd.f133.body.getD .skip
def f5e : Hint := (sQ (sQ (sQ (.cut [] (sQ (.cond .none .none)) (sQ .none)))))
theorem e3D (x0 x1 x2 : Value) (w : World) (R : RT) (E : Pan) : d6J x0 x1 x2 w R E = callX Tryd.prog [.tmp 6] f5d f5e [x0, x1, x2] w R E := by kernel_rfl
theorem e3E {x0 x1 x2 : Value} (h : d6J x0 x1 x2 w R E) : Cv Tryd.prog 133 #[x0, x1, x2] w R E := by
 refine i2 (args := [x0, x1, x2]) (c := f5d) (h := f5e) (rs := [.tmp 6]) Tryd.func133 (by kernel_rfl) (by kernel_rfl) (nB (by kernel_rfl)) (by kernel_rfl) (by kernel_rfl) (by kernel_rfl) ?_
 rw [← e3D]
 exact h
def d6K (x0 x1 : Value) (w : World) (R : RT) (E : Pan) : Prop :=
 oP E (xV (Instr.box 27 x1)) w fun G2 w_2 =>
 oP E (fA 27 G2 0) w_2 fun a7R w_4 =>
 oP E (lA 3 a7R) w_4 fun b9O w_6 =>
 oP E (xBin .eql 3 (.tmp 8) (.const (vI 4)) b9O (vI 4)) w_6 fun f9D w_8 =>
 xcond f9D
 (oP E (fA 27 G2 3) w_8 fun b4I m8 =>
 oP E (lA 25 b4I) m8 fun f5f o4 =>
 oP E (iA 25 f5f (vI 0)) o4 fun f5g o2 =>
 oP E (lA 27 f5g) o2 fun c4D p5 =>
 oP E (xCall (fC 134) [x0, c4D]) p5 fun f5h q7 =>
 oP E (xV (Op.unary .not f5h)) q7 fun f5i q9 =>
 R f5i q9)
 (oP E (xBin .eql 3 (.tmp 8) (.const (vI 5)) b9O (vI 5)) w_8 fun a5p t1 =>
 xcond a5p
 (oP E (fA 27 G2 3) t1 fun c4E u5 =>
 oP E (lA 25 c4E) u5 fun b2W A7 =>
 oP E (iA 25 b2W (vI 0)) A7 fun b3I C3 =>
 oP E (lA 27 b3I) C3 fun c4I D8 =>
 oP E (xCall (fC 134) [x0, c4I]) D8 fun a8Y B9 =>
 oP E (gsem (asB a8Y) true (fA 27 G2 3)) B9 fun c2d D2 =>
 oP E (gsem (asB a8Y) true (lA 25 c2d)) D2 fun f5j F7 =>
 oP E (gsem (asB a8Y) true (iA 25 f5j (vI 1))) F7 fun f5k D9 =>
 oP E (gsem (asB a8Y) true (lA 27 f5k)) D9 fun f5l E1 =>
 oP E (gsem (asB a8Y) true (xCall (fC 134) [(gval (asB a8Y) true x0), f5l])) E1 fun f5m G6 =>
 oP E (xPick a8Y f5m (vB false)) G6 fun f5n G1 =>
 R f5n G1)
 (oP E (xBin .eql 3 (.tmp 8) (.const (vI 6)) b9O (vI 6)) t1 fun f5o L5 =>
 xcond f5o
 (oP E (fA 27 G2 3) L5 fun c2e K4 =>
 oP E (lA 25 c2e) K4 fun f5p G5 =>
 oP E (iA 25 f5p (vI 0)) G5 fun f5q E3 =>
 oP E (lA 27 f5q) E3 fun f5r M3 =>
 oP E (xCall (fC 134) [x0, f5r]) M3 fun a8Z M4 =>
 oP E (gsem (asB a8Z) false (fA 27 G2 3)) M4 fun c4a M1 =>
 oP E (gsem (asB a8Z) false (lA 25 c4a)) M1 fun c4J O3 =>
 oP E (gsem (asB a8Z) false (iA 25 c4J (vI 1))) O3 fun f5s M5 =>
 oP E (gsem (asB a8Z) false (lA 27 f5s)) M5 fun f5t N0 =>
 oP E (gsem (asB a8Z) false (xCall (fC 134) [(gval (asB a8Z) false x0), f5t])) N0 fun c4b O4 =>
 oP E (xPick a8Z (vB true) c4b) O4 fun c4c O5 =>
 R c4c O5)
 (oP E (xBin .eql 3 (.tmp 8) (.const (vI 3)) b9O (vI 3)) L5 fun f5u L6 =>
 xcond f5u
 (oP E (fA 27 G2 2) L6 fun f5v P1 =>
 oP E (lA 22 f5v) P1 fun c4K Q3 =>
 oP E (iA 22 c4K (vI 0)) Q3 fun f5w R8 =>
 oP E (lA 24 f5w) R8 fun c4L N4 =>
 oP E (xCall (fC 132) [x0, c4L]) N4 fun f5x S4 =>
 oP E (fA 27 G2 2) S4 fun f5y Q6 =>
 oP E (lA 22 f5y) Q6 fun f5z P2 =>
 oP E (iA 22 f5z (vI 1)) P2 fun c4d S5 =>
 oP E (lA 24 c4d) S5 fun c4e N5 =>
 oP E (xCall (fC 132) [x0, c4e]) N5 fun a3A W5 =>
 oP E (xCall (fC 131) [x0]) W5 fun _t65_91 a1g =>
 oP E (fA 27 G2 1) a1g fun c4f a0K =>
 oP E (lA 3 c4f) a0K fun f5A a0q =>
 oP E (xCall (fC 75) [f5A, f5x, a3A]) a0q fun b3a a0L =>
 R b3a a0L)
 (oP E (xCall (fC 131) [x0]) L6 fun _t72_99 T5 =>
 oP E (fA 27 G2 0) T5 fun b8Z N7 =>
 oP E (lA 3 b8Z) N7 fun b9a O8 =>
 oP E (xBin .eql 3 (.tmp 74) (.const (vI 1)) b9a (vI 1)) O8 fun e3F U8 =>
 R e3F U8))))
noncomputable def f5B : Code := Tryd.f134.body.getD .skip
def f5C : Hint := (sQ (.seq (sQ (.block (sQ (.cond (sQ .none) (sQ (.cond (sQ .none) (sQ (.cond (sQ .none) (sQ (.cond (sQ (sQ (sQ (sQ .none)))) .none)))))))))) (sQ (sQ .none))))
theorem e3G (x0 x1 : Value) (w : World) (R : RT) (E : Pan) : d6K x0 x1 w R E = callX Tryd.prog [.tmp 4] f5B f5C [x0, x1] w R E := by kernel_rfl
theorem e3H {x0 x1 : Value} (h : d6K x0 x1 w R E) : Cv Tryd.prog 134 #[x0, x1] w R E := by
 refine i2 (args := [x0, x1]) (c := f5B) (h := f5C) (rs := [.tmp 4]) Tryd.func134 (by kernel_rfl) (by kernel_rfl) (nB (by kernel_rfl)) (by kernel_rfl) (by kernel_rfl) (by kernel_rfl) ?_
 rw [← e3G]
 exact h
def d6L (_x0 x1 x2 : Value) (w : World) (R : RT) (E : Pan) : Prop :=
 oP E (xV (Instr.build 93 #[(0, x1), (1, x2)])) w fun a9W w_2 =>
 oP E (xV (Instr.makeInterface 93 a9W)) w_2 fun a2y w_4 =>
 oP E (xV (Instr.panic a2y)) w_4 fun _z_5 w_6 =>
 R (Value.tuple #[]) w_6
noncomputable def f5D : Code := Tryd.f135.body.getD .skip
def f5E : Hint := .none
theorem e3I (x0 x1 x2 : Value) (w : World) (R : RT) (E : Pan) : d6L x0 x1 x2 w R E = callX Tryd.prog [] f5D f5E [x0, x1, x2] w R E := by kernel_rfl
theorem e3J {x0 x1 x2 : Value} (h : d6L x0 x1 x2 w R E) : Cv Tryd.prog 135 #[x0, x1, x2] w R E := by
 refine i2 (args := [x0, x1, x2]) (c := f5D) (h := f5E) (rs := []) Tryd.func135 (by kernel_rfl) (by kernel_rfl) (nB (by kernel_rfl)) (by kernel_rfl) (by kernel_rfl) (by kernel_rfl) ?_
 rw [← e3I]
 exact h
def d6M (x0 x1 : Value) (w : World) (R : RT) (E : Pan) : Prop :=
 oP E (xBin .neq 3 (.tmp 4) (.const (vI 0)) x1 (vI 0)) w fun b1x w_2 =>
 xcond b1x
 (oP E (xCall (fC 135) [x0, (vI 3), x1]) w_2 fun _t8_3 w_4 =>
 R (Value.tuple #[]) w_4)
 (R (Value.tuple #[]) w_2)
noncomputable def f5F : Code := Tryd.f136.body.getD .skip
def f5G : Hint := (sQ (.cond .none .none))
theorem e3K (x0 x1 : Value) (w : World) (R : RT) (E : Pan) : d6M x0 x1 w R E = callX Tryd.prog [] f5F f5G [x0, x1] w R E := by kernel_rfl
theorem e3L {x0 x1 : Value} (h : d6M x0 x1 w R E) : Cv Tryd.prog 136 #[x0, x1] w R E := by
 refine i2 (args := [x0, x1]) (c := f5F) (h := f5G) (rs := []) Tryd.func136 (by kernel_rfl) (by kernel_rfl) (nB (by kernel_rfl)) (by kernel_rfl) (by kernel_rfl) (by kernel_rfl) ?_
 rw [← e3K]
 exact h
def c8O (x0 : Value) (w : World) (R : RT) (E : Pan) : Prop :=
 oP E (xV (Instr.box 24 x0)) w fun u1 w_2 =>
 oP E (fA 24 u1 0) w_2 fun a9Y w_4 =>
 oP E (lA 3 a9Y) w_4 fun a3g w_6 =>
 oP E (xBin .eql 3 (.tmp 6) (.const (vI 1)) a3g (vI 1)) w_6 fun a9V w_8 =>
 xcond a9V
 (oP E (fA 24 u1 1) w_8 fun a6S m8 =>
 oP E (lA 2 a6S) m8 fun a9z o4 =>
 R (Value.tuple #[a9z, (vB true)]) o4)
 (oP E (fA 24 u1 0) w_8 fun a8c o2 =>
 oP E (lA 3 a8c) o2 fun c2E p5 =>
 oP E (xBin .eql 3 (.tmp 12) (.const (vI 5)) c2E (vI 5)) p5 fun a5y q7 =>
 oP E (gsem (asB a5y) true (fA 24 u1 3)) q7 fun a7Y q9 =>
 oP E (gsem (asB a5y) true (lA 22 a7Y)) q9 fun b3c t1 =>
 oP E (gsem (asB a5y) true (iA 22 b3c (vI 0))) t1 fun c2r u5 =>
 oP E (gsem (asB a5y) true (fA 24 c2r 0)) u5 fun c2s A7 =>
 oP E (gsem (asB a5y) true (lA 3 c2s)) A7 fun a8a C3 =>
 oP E (gsem (asB a5y) true (xBin .eql 3 (.tmp 19) (.const (vI 1)) a8a (vI 1))) C3 fun f5H D8 =>
 oP E (xPick a5y f5H (vB false)) D8 fun b7z B9 =>
 xcond b7z
 (oP E (fA 24 u1 3) B9 fun c2m D2 =>
 oP E (lA 22 c2m) D2 fun f5I F7 =>
 oP E (iA 22 f5I (vI 0)) F7 fun f5J D9 =>
 oP E (fA 24 f5J 1) D9 fun f5K E1 =>
 oP E (lA 2 f5K) E1 fun f5L G6 =>
 oP E (xV (Op.unary .neg f5L)) G6 fun f5M G1 =>
 R (Value.tuple #[f5M, (vB true)]) G1)
 (R (Value.tuple #[(vI 0), (vB false)]) B9))
noncomputable def f5N : Code := Tryd.f146.body.getD .skip
def f5O : Hint := (sQ (.seq (.block (sQ (.cond (sQ .none) (sQ (.cond (sQ .none) .none))))) (sQ .none)))
theorem e3M (x0 : Value) (w : World) (R : RT) (E : Pan) : c8O x0 w R E = callX Tryd.prog [.tmp 2, .tmp 3] f5N f5O [x0] w R E := by kernel_rfl
theorem e3N {x0 : Value} (h : c8O x0 w R E) : Cv Tryd.prog 146 #[x0] w R E := by
 refine i2 (args := [x0]) (c := f5N) (h := f5O) (rs := [.tmp 2, .tmp 3]) Tryd.func146 (by kernel_rfl) (by kernel_rfl) (nB (by kernel_rfl)) (by kernel_rfl) (by kernel_rfl) (by kernel_rfl) ?_
 rw [← e3M]
 exact h
def c6x (x0 : Value) (w : World) (R : RT) (E : Pan) : Prop :=
 ∀ _τ : Fr, (oP E (xCall (fC 131) [x0]) w fun _t13_1 w_2 =>
 oP E (xNil x0) w_2 fun f9E w_4 =>
 oP E (fA 90 f9E 2) w_4 fun f9F w_6 =>
 oP E (lA 45 f9F) w_6 fun f9G w_8 =>
 oP E (iA 45 f9G (vI 0)) w_8 fun c8P m8 =>
 oP E (lA 2 c8P) m8 fun a6I o4 =>
 oP E (xNil x0) o4 fun f5P o2 =>
 oP E (fA 90 f5P 2) o2 fun f5Q p5 =>
 oP E (lA 45 f5Q) p5 fun f5R q7 =>
 oP E (xV (Instr.sliceAt 45 f5R (some (vI 1)) none none)) q7 fun f5S q9 =>
 oP E (xNil x0) q9 fun f5T t1 =>
 oP E (fA 90 f5T 2) t1 fun f5U u5 =>
 oP E (sA 45 f5U f5S) u5 fun _z_25 A7 =>
 oP E (xNil x0) A7 fun f5V C3 =>
 oP E (fA 90 f5V 3) C3 fun f5W D8 =>
 oP E (lA 46 f5W) D8 fun f5X B9 =>
 oP E (xV (Instr.build 55 #[(0, (vB true)), (1, a6I)])) B9 fun b3g D2 =>
 oP E (xV (Instr.buildSlice 46 1 #[(0, b3g)])) D2 fun b0M F7 =>
 oP E (xBuiltin .append #[46, 46] 46 [false, false] [f5X, b0M]) F7 fun b3N D9 =>
 oP E (xNil x0) D9 fun b8B E1 =>
 oP E (fA 90 b8B 3) E1 fun c4M G6 =>
 oP E (sA 46 c4M b3N) G6 fun _z_43 G1 =>
 R a6I G1)
def d6N (x0 : Value) (w : World) (R : RT) (E : Pan) : Prop :=
 xcut (fun _ L5 => c6x x0 L5 R E) fun j1 =>
 oP E (xNil x0) w fun c1i K4 =>
 oP E (fA 90 c1i 2) K4 fun f9H G5 =>
 oP E (lA 45 f9H) G5 fun f9I E3 =>
 oP E (xBuiltin .len #[45] 3 [false] [f9I]) E3 fun f9J M3 =>
 oP E (xBin .eql 3 (.tmp 8) (.const (vI 0)) f9J (vI 0)) M3 fun f9K M4 =>
 xcond f9K
 (oP E (xCall (fC 135) [x0, (vI 2), (vI 0)]) M4 fun _t11_57 M1 =>
 j1 [] M1)
 (j1 [] M4)
noncomputable def f5Y : Code := Tryd.f147.body.getD .skip
def f5Z : Hint := (sQ (.cut [] (sQ (.cond .none .none)) (sQ (sQ (sQ (sQ (sQ .none)))))))
theorem e3O (x0 : Value) (w : World) (R : RT) (E : Pan) : d6N x0 w R E = callX Tryd.prog [.tmp 2] f5Y f5Z [x0] w R E := by kernel_rfl
theorem e3P {x0 : Value} (h : d6N x0 w R E) : Cv Tryd.prog 147 #[x0] w R E := by
 refine i2 (args := [x0]) (c := f5Y) (h := f5Z) (rs := [.tmp 2]) Tryd.func147 (by kernel_rfl) (by kernel_rfl) (nB (by kernel_rfl)) (by kernel_rfl) (by kernel_rfl) (by kernel_rfl) ?_
 rw [← e3O]
 exact h
def d6O (x0 x1 x2 : Value) (w : World) (R : RT) (E : Pan) : Prop :=
 oP E (xCall (fC 136) [x0, x2]) w fun _t9_1 w_2 =>
 R x1 w_2
noncomputable def f6a : Code := Tryd.f148.body.getD .skip
def f6b : Hint := (sQ (sQ (sQ .none)))
theorem e3Q (x0 x1 x2 : Value) (w : World) (R : RT) (E : Pan) : d6O x0 x1 x2 w R E = callX Tryd.prog [.tmp 6] f6a f6b [x0, x1, x2] w R E := by kernel_rfl
theorem e3R {x0 x1 x2 : Value} (h : d6O x0 x1 x2 w R E) : Cv Tryd.prog 148 #[x0, x1, x2] w R E := by
 refine i2 (args := [x0, x1, x2]) (c := f6a) (h := f6b) (rs := [.tmp 6]) Tryd.func148 (by kernel_rfl) (by kernel_rfl) (nB (by kernel_rfl)) (by kernel_rfl) (by kernel_rfl) (by kernel_rfl) ?_
 rw [← e3Q]
 exact h
end Go.Proofs.YtnhkdkcgdcgmdaaDoor
