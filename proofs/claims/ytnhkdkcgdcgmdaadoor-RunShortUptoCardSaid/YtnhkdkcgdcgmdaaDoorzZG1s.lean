/- The second reading of some of the program's functions, printed by gen2.py off the code; each is held against the code by the kernel. -/
import Derived.Test.YtnhkdkcgdcgmdaaDoorProg
import Derived.Test.YtnhkdkcgdcgmdaaDoorzZK0
import Derived.KernelRfl
import Derived.Test.YtnhkdkcgdcgmdaaDoorzZGz
namespace Go.Proofs.YtnhkdkcgdcgmdaaDoor
open Go.RowKit
set_option maxRecDepth 100000
variable {w : World} {R : RT} {E : Pan}
def g0R (x1 x2 x3 x4 x9 x13 : Value) (w : World) (R : RT) (E : Pan) : Prop :=
 ∀ _τ : Fr, (oP E (xBuiltin .len #[45] 3 [false] [x1]) w fun d6m b1X =>
 oP E (xBin .eql 3 (.tmp 141) (.tmp 143) x13 d6m) b1X fun d6n a9X =>
 xcond d6n
 (R (vB true) a9X)
 (oP E (xBuiltin .append #[45, 45] 45 [true, false] [(nS), x1]) a9X fun b7n b1Y =>
 oP E (xBuiltin .len #[45] 3 [false] [b7n]) b1Y fun d6o b8i =>
 oP E (xBin .sub 3 (.tmp 149) (.const (vI 1)) d6o (vI 1)) b8i fun d6p b8n =>
 oP E (iA 45 b7n d6p) b8n fun d6q b5h =>
 oP E (sA 2 d6q x3) b5h fun _z_157 b8o =>
 oP E (lA 44 x4) b8o fun d6r c9D =>
 oP E (xCall (fC 18) [d6r, b7n, x2]) c9D fun c4W c9E =>
 oP E (eX c4W 0) c9E fun d6s c9F =>
 oP E (eX c4W 1) c9F fun d6t c9G =>
 oP E (xV (Instr.alloc 49 true (.tuple #[]))) c9G fun c7i a7P =>
 oP E (sA 49 c7i d6s) a7P fun _z_169 c9H =>
 oP E (xBin .eql 29 (.tmp 160) (.const (vI 0)) d6t (vI 0)) c9H fun b2M c1O =>
 oP E (gsem (asB b2M) true (lA 49 x9)) c1O fun d6u c9I =>
 oP E (gsem (asB b2M) true (lA 49 c7i)) c9I fun d6v c9J =>
 oP E (gsem (asB b2M) true (xCall (fC 20) [d6u, d6v])) c9J fun d6w g0S =>
 oP E (xPick b2M d6w (vB false)) g0S fun d6x b5E =>
 R d6x b5E))
def g0T (_x1 _x2 _x3 _x4 _x9 x13 x14 : Value) (w : World) (next2 : NT) (_R : RT) (E : Pan) : Prop :=
 ∀ _τ : Fr, (oP E (xBin .add 3 (.tmp 114) (.const (vI 1)) x14 (vI 1)) w fun d6y g0U =>
 next2 [x13, d6y] g0U)
def g0V (x1 x2 x3 x4 x9 x13 x14 : Value) (w : World) (next2 : NT) (j1 : NT) (R : RT) (E : Pan) : Prop :=
 oP E (fA 49 x9 3) w fun d6z g0W =>
 oP E (lA 46 d6z) g0W fun d6A g0X =>
 oP E (xBuiltin .len #[46] 3 [false] [d6A]) g0X fun d6B g0Y =>
 oP E (xBin .lss 3 (.tmp 109) (.tmp 112) x14 d6B) g0Y fun d6C d9r =>
 xcond d6C
 (xcut (fun g0Z g1a => g0T x1 x2 x3 x4 x9 (nth g0Z 0) x14 g1a next2 R E) fun j3 =>
 oP E (fA 49 x9 3) d9r fun d6D g1b =>
 oP E (lA 46 d6D) g1b fun d6E g1c =>
 oP E (iA 46 d6E x14) g1c fun d6F g1d =>
 oP E (fA 55 d6F 0) g1d fun d6G g1e =>
 oP E (lA 4 d6G) g1e fun d6H d9s =>
 xcond d6H
 (dX d9s fun b2N =>
 qP Tryd.prog (xBuiltin .len #[45] 3 [false] [x1]) fun d6I =>
 qP Tryd.prog (xBin .geq 3 (.tmp 122) (.tmp 124) x13 d6I) fun a0W =>
 qP Tryd.prog (gsem (asB a0W) false (fA 49 x9 3)) fun c4X =>
 qP Tryd.prog (gsem (asB a0W) false (iA 45 (gval (asB a0W) false x1) (gval (asB a0W) false x13))) fun c4Y =>
 qL Tryd.prog b2N (blk c4X) (gsem (asB a0W) false (lA 46 c4X)) fun d6J =>
 qP Tryd.prog (gsem (asB a0W) false (iA 46 d6J (gval (asB a0W) false x14))) fun d6K =>
 qP Tryd.prog (gsem (asB a0W) false (fA 55 d6K 1)) fun c4Z =>
 qL Tryd.prog b2N (blk c4Z) (gsem (asB a0W) false (lA 2 c4Z)) fun d6L =>
 qL Tryd.prog b2N (blk c4Y) (gsem (asB a0W) false (lA 2 c4Y)) fun d6M =>
 qP Tryd.prog (gsem (asB a0W) false (xBin .neq 2 (.tmp 132) (.tmp 136) d6L d6M)) fun d6N =>
 qP Tryd.prog (xPick a0W (vB true) d6N) fun d6O =>
 xcond d6O
 (R (vB false) b2N)
 (oP E (xBin .add 3 (.tmp 139) (.const (vI 1)) x13 (vI 1)) b2N fun d6P g1f =>
 j3 [d6P] g1f))
 (j3 [x13] d9s))
 (j1 [x13] d9r)
def F4 (x0 x1 x2 x3 : Value) (w : World) (R : RT) (E : Pan) : Prop :=
 oP E (xV (Instr.box 44 x0)) w fun a7m w_2 =>
 oP E (xCall (fC 17) []) w_2 fun b5t w_4 =>
 oP E (xV (Op.unary .not b5t)) w_4 fun c9K w_6 =>
 xcond c9K
 (R (vB false) w_6)
 (oP E (xBin .lss 3 (.tmp 19) (.const (vI 0)) x2 (vI 0)) w_6 fun c9L w_8 =>
 oP E (gsem (asB c9L) false (xBin .gtr 3 (.tmp 22) (.const (vI 2000)) (gval (asB c9L) false x2) (vI 2000))) w_8 fun b0d o3 =>
 oP E (xPick c9L (vB true) b0d) o3 fun a7d p8 =>
 oP E (gsem (asB a7d) false (xBuiltin .len #[45] 3 [false] [(gval (asB a7d) false x1)])) p8 fun c5a o9 =>
 oP E (gsem (asB a7d) false (xBin .gtr 3 (.tmp 27) (.const (vI 2000)) c5a (vI 2000))) o9 fun c5b q8 =>
 oP E (xPick a7d (vB true) c5b) q8 fun f3h r7 =>
 xcond f3h
 (R (vB true) r7)
 (oP E (lA 44 a7m) r7 fun f3i r9 =>
 oP E (xCall (fC 18) [f3i, x1, x2]) r9 fun d2D t8 =>
 oP E (eX d2D 0) t8 fun f3j v6 =>
 oP E (eX d2D 1) v6 fun d2E A9 =>
 oP E (xV (Instr.alloc 49 true (.tuple #[]))) A9 fun a2A C7 =>
 oP E (sA 49 a2A f3j) C7 fun _z_29 D8 =>
 oP E (lA 44 a7m) D8 fun f3k C3 =>
 oP E (xBin .add 3 (.tmp 40) (.const (vI 1)) x2 (vI 1)) C3 fun f3l D1 =>
 oP E (xCall (fC 18) [f3k, x1, f3l]) D1 fun d2F G3 =>
 oP E (eX d2F 0) G3 fun f3m D9 =>
 oP E (eX d2F 1) D9 fun d2G E2 =>
 oP E (xV (Instr.alloc 49 true (.tuple #[]))) E2 fun b4v G9 =>
 oP E (sA 49 b4v f3m) G9 fun _z_43 G4 =>
 oP E (xBin .neq 29 (.tmp 45) (.const (vI 0)) d2E (vI 0)) G4 fun f3n K5 =>
 xcond f3n
 (oP E (xBin .eql 29 (.tmp 47) (.tmp 48) d2E d2G) K5 fun f3o L3 =>
 R f3o L3)
 (oP E (xBin .neq 29 (.tmp 50) (.const (vI 0)) d2G (vI 0)) K5 fun a9r J9 =>
 oP E (gsem (asB a9r) false (fA 49 b4v 3)) J9 fun f3p E6 =>
 oP E (gsem (asB a9r) false (lA 46 f3p)) E6 fun f3q N1 =>
 oP E (gsem (asB a9r) false (fA 49 a2A 3)) N1 fun f3r N2 =>
 oP E (gsem (asB a9r) false (lA 46 f3r)) N2 fun f3s L6 =>
 oP E (gsem (asB a9r) false (xCall (fC 19) [f3q, f3s])) L6 fun f3t P2 =>
 oP E (gsem (asB a9r) false (xV (Op.unary .not f3t))) P2 fun f3u L8 =>
 oP E (xPick a9r (vB true) f3u) L8 fun b1n N9 =>
 oP E (gsem (asB b1n) false (fA 49 b4v 2)) N9 fun f3v P3 =>
 oP E (gsem (asB b1n) false (lA 3 f3v)) P3 fun f3w O0 =>
 oP E (gsem (asB b1n) false (fA 49 a2A 2)) O0 fun f3x M9 =>
 oP E (gsem (asB b1n) false (lA 3 f3x)) M9 fun f3y O1 =>
 oP E (gsem (asB b1n) false (xBin .lss 3 (.tmp 62) (.tmp 64) f3w f3y)) O1 fun f3z R5 =>
 oP E (xPick b1n (vB true) f3z) R5 fun a9s T1 =>
 oP E (gsem (asB a9s) false (fA 49 b4v 2)) T1 fun f3A N3 =>
 oP E (gsem (asB a9s) false (lA 3 f3A)) N3 fun f3B T7 =>
 oP E (gsem (asB a9s) false (fA 49 a2A 2)) T7 fun f3C P4 =>
 oP E (gsem (asB a9s) false (lA 3 f3C)) P4 fun f3D Q2 =>
 oP E (gsem (asB a9s) false (xBin .add 3 (.tmp 71) (.const (vI 1)) f3D (vI 1))) Q2 fun f3E T8 =>
 oP E (gsem (asB a9s) false (xBin .gtr 3 (.tmp 69) (.tmp 72) f3B f3E)) T8 fun f3F N4 =>
 oP E (xPick a9s (vB true) f3F) N4 fun b4w a0d =>
 oP E (gsem (asB b4w) false (fA 49 a2A 2)) a0d fun f3G a0J =>
 oP E (gsem (asB b4w) false (lA 3 f3G)) a0J fun f3H a1k =>
 oP E (gsem (asB b4w) false (xBin .gtr 3 (.tmp 77) (.tmp 78) f3H (gval (asB b4w) false x2))) a1k fun f3I a0K =>
 oP E (xPick b4w (vB true) f3I) a0K fun f3J a0L =>
 xcond f3J
 (R (vB false) a0L)
 (oP E (fA 49 a2A 0) a0L fun f3K U9 =>
 oP E (lA 3 f3K) U9 fun e2X M6 =>
 oP E (xBin .neq 3 (.tmp 82) (.const (vI 1)) e2X (vI 1)) M6 fun b1o P8 =>
 oP E (gsem (asB b1o) true (lA 49 a2A)) P8 fun e2Y W2 =>
 oP E (gsem (asB b1o) true (lA 49 b4v)) W2 fun e2Z a1l =>
 oP E (gsem (asB b1o) true (xCall (fC 20) [e2Y, e2Z])) a1l fun e3a a3K =>
 oP E (gsem (asB b1o) true (xV (Op.unary .not e3a))) a3K fun e3b a0O =>
 oP E (xPick b1o e3b (vB false)) a0O fun e3c T2 =>
 xcond e3c
 (R (vB false) T2)
 (oP E (fA 49 a2A 0) T2 fun e3d W3 =>
 oP E (lA 3 e3d) W3 fun e3e a2b =>
 oP E (xBin .eql 3 (.tmp 91) (.const (vI 1)) e3e (vI 1)) a2b fun b1p S0 =>
 oP E (gsem (asB b1p) true (fA 49 a2A 2)) S0 fun e3f a1m =>
 oP E (gsem (asB b1p) true (lA 3 e3f)) a1m fun e3g a4V =>
 oP E (gsem (asB b1p) true (xBin .neq 3 (.tmp 95) (.tmp 96) e3g (gval (asB b1p) true x2))) a4V fun e3h a5V =>
 oP E (xPick b1p e3h (vB false)) a5V fun a4s a4W =>
 oP E (gsem (asB a4s) false (fA 49 a2A 0)) a4W fun d6Q a5W =>
 oP E (gsem (asB a4s) false (lA 3 d6Q)) a5W fun d6R a2X =>
 oP E (gsem (asB a4s) false (xBin .neq 3 (.tmp 101) (.const (vI 3)) d6R (vI 3))) a2X fun b2O a2Y =>
 oP E (gsem (asB (gval (asB a4s) false b2O)) true (fA 49 a2A 1)) a2Y fun d6S a4m =>
 oP E (gsem (asB (gval (asB a4s) false b2O)) true (lA 3 d6S)) a4m fun d6T a5T =>
 oP E (gsem (asB (gval (asB a4s) false b2O)) true (xBin .neq 3 (.tmp 105) (.const (vI 0)) d6T (vI 0))) a5T fun d6U a6P =>
 oP E (gsem (asB a4s) false (xPick (gval (asB a4s) false b2O) d6U (vB false))) a6P fun d6V a7J =>
 oP E (xPick a4s (vB true) d6V) a7J fun d6W a6Q =>
 xcond d6W
 (R (vB false) a6Q)
 (xcut (fun g1g g1h => g0R x1 x2 x3 a7m a2A (nth g1g 0) g1h R E) fun j1 =>
 xloop [13, 14] [(vI 0), (vI 0)] a6Q fun τ_219 g1i next2 =>
 g0V x1 x2 x3 a7m a2A (τ_219 13) (τ_219 14) g1i next2 j1 R E))))))
noncomputable def c4 : Code := Tryd.f4.body.getD .skip
def h4 : Hint := (sQ (.seq (sQ (.cond (sQ .none) .none)) (.seq (sQ (.cond (sQ .none) .none)) (sQ (sQ (.seq (sQ (.cond (sQ .none) .none)) (.seq (sQ (.cond (sQ .none) .none)) (.seq (sQ (.cond (sQ .none) .none)) (.seq (sQ (.cond (sQ .none) .none)) (sQ (.cut [13] (sQ (.block (.loop [13, 14] (.seq (sQ (.cond .none .none)) (.cut [13] (.block (sQ (.cond (.seq (.seq (.reg [(0, 5316911983139663491615228241121378304, 8192), (0, 10633823966279326983230456482242756608, 2), (2, 21267647932558653966460912964485513216, 10633823966279326983230456482242756608), (5, 42535295865117307932921825928971026432, 26584559915698317458076141205606891520), (8, 85070591730234615865843651857942052864, 42535295865117307932921825928971026432), (16, 170141183460469231731687303715884105728, 85070591730234615865843651857942053376), (48, 340282366920938463463374607431768211456, 255211775190703847597530955573826158592), (16, 680564733841876926926749214863536422912, 85070591730234615865843651857942069248), (208, 1361129467683753853853498429727072845824, 1105917692493050006255967474153246687232), (272, 2722258935367507707706996859454145691648, 1446200059413988469719342081585014898688), (528, 5444517870735015415413993718908291383296, 2807329527097742323572840511312087744512), (16, 10889035741470030830827987437816582766592, 85070591730234615865843651857942052866), (16, 21778071482940061661655974875633165533184, 85070591730234615865843651857942061056), (6160, 43556142965880123323311949751266331066368, 32752177816140327108349805965307690352640), (8208, 87112285931760246646623899502532662132736, 43641213557610357939177793403124273119232), (17424, 174224571863520493293247799005065324265472, 92641874394225496677903736873298895568896), (32784, 348449143727040986586495598010130648530944, 174309642455250727909113642656923266318336)] [17472, 17472, 17472, 17472, 17472, 17472, 17408, 17472, 17472, 17472, 16448, 17472, 17472, 17472, 1088, 17472, 17472] (.early 0 (.early 1 (.early 2 (.early 3 (.early 4 (.early 5 (.early 7 (.early 11 (.early 12 (.early 13 (.load 6 (.early 8 (.early 9 (.load 10 (.load 14 (.early 15 (.early 16 .done)))))))))))))))))) (.cond (sQ .none) .none)) .none) .none))) .none))))) (.seq (sQ (.cond (sQ .none) .none)) (sQ (sQ (sQ (sQ .none))))))))))))))))
def F5 (x0 x1 : Value) (w : World) (R : RT) (E : Pan) : Prop :=
 oP E (xCall (fC 17) []) w fun b0u w_2 =>
 oP E (xV (Op.unary .not b0u)) w_2 fun a2T w_4 =>
 xcond a2T
 (R (vB false) w_4)
 (oP E (xBin .lss 3 (.tmp 10) (.const (vI 0)) x0 (vI 0)) w_4 fun a5K w_6 =>
 oP E (gsem (asB a5K) false (xBin .gtr 3 (.tmp 13) (.const (vI 500)) (gval (asB a5K) false x0) (vI 500))) w_6 fun U2 w_8 =>
 oP E (xPick a5K (vB true) U2) w_8 fun a4U o3 =>
 oP E (gsem (asB a4U) false (xBin .lss 3 (.tmp 17) (.const (vI 0)) (gval (asB a4U) false x1) (vI 0))) o3 fun b4k p8 =>
 oP E (xPick a4U (vB true) b4k) p8 fun a8s o9 =>
 oP E (gsem (asB a8s) false (xBin .gtr 3 (.tmp 21) (.const (vI 2000)) (gval (asB a8s) false x1) (vI 2000))) o9 fun f3L q8 =>
 oP E (xPick a8s (vB true) f3L) q8 fun f3M r7 =>
 xcond f3M
 (R (vB true) r7)
 (oP E (xV (Instr.build 58 #[(0, (Value.string ⟨#[120]⟩))])) r7 fun c3c r9 =>
 oP E (xV (Instr.buildSlice 41 1 #[(0, c3c)])) r9 fun b3E t8 =>
 oP E (xCall (fC 22) [(Value.string ⟨#[120]⟩)]) t8 fun f3N v6 =>
 oP E (xCall (fC 23) [x0]) v6 fun f3O A9 =>
 oP E (xCall (fC 21) [(vI 1), f3N, f3O]) A9 fun f3P C7 =>
 oP E (xV (Instr.buildSlice 25 1 #[(0, f3P)])) C7 fun f3Q D8 =>
 oP E (xCall (fC 22) [(Value.string ⟨#[120]⟩)]) D8 fun f3R C3 =>
 oP E (xCall (fC 23) [(vI 1)]) C3 fun f3S D1 =>
 oP E (xCall (fC 25) [(vI 6), f3R, f3S]) D1 fun f3T G3 =>
 oP E (xCall (fC 24) [(Value.string ⟨#[120]⟩), f3T]) G3 fun f3U D9 =>
 oP E (xV (Instr.buildSlice 42 1 #[(0, f3U)])) D9 fun f3V E2 =>
 oP E (xV (Instr.build 63 #[(0, (vI 4)), (3, f3Q), (4, f3V)])) E2 fun f3W G9 =>
 oP E (xV (Instr.buildSlice 42 1 #[(0, f3W)])) G9 fun f3X G4 =>
 oP E (xV (Instr.build 44 #[(0, b3E), (1, f3X)])) G4 fun f3Y K5 =>
 oP E (xV (Instr.alloc 44 true (.tuple #[]))) K5 fun c1P L3 =>
 oP E (sA 44 c1P f3Y) L3 fun _z_49 J9 =>
 oP E (lA 44 c1P) J9 fun c2W E6 =>
 oP E (xCall (fC 18) [c2W, (nS), x1]) E6 fun b8W N1 =>
 oP E (eX b8W 0) N1 fun c5c N2 =>
 oP E (eX b8W 1) N2 fun c5d L6 =>
 oP E (xV (Instr.alloc 49 true (.tuple #[]))) L6 fun b5F P2 =>
 oP E (sA 49 b5F c5c) P2 fun _z_61 L8 =>
 oP E (xBin .neq 29 (.tmp 45) (.const (vI 0)) c5d (vI 0)) L8 fun b4x N9 =>
 oP E (gsem (asB b4x) false (fA 49 b5F 4)) N9 fun c5e P3 =>
 oP E (gsem (asB b4x) false (lA 45 c5e)) P3 fun c5f O0 =>
 oP E (gsem (asB b4x) false (xBuiltin .len #[45] 3 [false] [c5f])) O0 fun f3Z M9 =>
 oP E (gsem (asB b4x) false (xBin .neq 3 (.tmp 50) (.const (vI 1)) f3Z (vI 1))) M9 fun f4a O1 =>
 oP E (xPick b4x (vB true) f4a) O1 fun a4R R5 =>
 oP E (gsem (asB a4R) false (fA 49 b5F 4)) R5 fun c2X T1 =>
 oP E (gsem (asB a4R) false (lA 45 c2X)) T1 fun c4B N3 =>
 oP E (gsem (asB a4R) false (iA 45 c4B (vI 0))) N3 fun c4C T7 =>
 oP E (gsem (asB a4R) false (lA 2 c4C)) T7 fun a9m P4 =>
 oP E (gsem (asB a4R) false (xBin .quo 3 (.tmp 58) (.const (vI 2)) (gval (asB a4R) false x1) (vI 2))) P4 fun c4D Q2 =>
 oP E (gsem (asB a4R) false (xBuiltin .min #[3, 3] 3 [false, false] [c4D, (gval (asB a4R) false x0)])) Q2 fun c5g T8 =>
 oP E (gsem (asB a4R) false (xBin .neq 2 (.tmp 57) (.tmp 61) a9m c5g)) T8 fun c5h N4 =>
 oP E (xPick a4R (vB true) c5h) N4 fun a3X a0d =>
 oP E (gsem (asB a3X) false (fA 49 b5F 2)) a0d fun f4b a0J =>
 oP E (gsem (asB a3X) false (lA 3 f4b)) a0J fun c5i a1k =>
 oP E (gsem (asB a3X) false (xBin .mul 3 (.const (vI 2)) (.tmp 68) (vI 2) (gval (asB a3X) false x0))) a1k fun c2Y a0K =>
 oP E (gsem (asB a3X) false (xBin .add 3 (.tmp 69) (.const (vI 1)) c2Y (vI 1))) a0K fun b3D a0L =>
 oP E (gsem (asB a3X) false (xBuiltin .min #[3, 3] 3 [false, false] [(gval (asB a3X) false x1), b3D])) a0L fun c2Z U9 =>
 oP E (gsem (asB a3X) false (xBin .neq 3 (.tmp 66) (.tmp 71) c5i c2Z)) U9 fun e3i M6 =>
 oP E (xPick a3X (vB true) e3i) M6 fun e3j P8 =>
 xcond e3j
 (R (vB false) P8)
 (oP E (xBin .mul 3 (.const (vI 2)) (.tmp 75) (vI 2) x0) P8 fun e3k W2 =>
 oP E (xBin .add 3 (.tmp 76) (.const (vI 1)) e3k (vI 1)) W2 fun e3l a1l =>
 oP E (xBin .geq 3 (.tmp 74) (.tmp 77) x1 e3l) a1l fun e3m a3K =>
 xcond e3m
 (oP E (fA 49 b5F 0) a3K fun e3n a0O =>
 oP E (lA 3 e3n) a0O fun e3o T2 =>
 oP E (xBin .eql 3 (.tmp 80) (.const (vI 2)) e3o (vI 2)) T2 fun e3p W3 =>
 R e3p W3)
 (oP E (fA 49 b5F 0) a3K fun c0t a2b =>
 oP E (lA 3 c0t) a2b fun c0u S0 =>
 oP E (xBin .eql 3 (.tmp 83) (.const (vI 1)) c0u (vI 1)) S0 fun c0v a1m =>
 R c0v a1m))))
noncomputable def c5 : Code := Tryd.f5.body.getD .skip
def h5 : Hint := (sQ (.seq (sQ (.cond (sQ .none) .none)) (.seq (sQ (.cond (sQ .none) .none)) (sQ (sQ (.seq (sQ (.cond (sQ .none) .none)) (.seq (sQ (.cond (sQ .none) .none)) (sQ .none))))))))
def g1j (x0 x1 x2 x7 x8 : Value) (w : World) (R : RT) (E : Pan) : Prop :=
 ∀ _τ : Fr, (oP E (xV (Instr.build 58 #[(0, (Value.string ⟨#[120]⟩))])) w fun f4c p8 =>
 oP E (xV (Instr.buildSlice 41 1 #[(0, f4c)])) p8 fun f4d o9 =>
 oP E (xCall (fC 23) [x1]) o9 fun f4e q8 =>
 oP E (xCall (fC 23) [x2]) q8 fun f4f r7 =>
 oP E (xCall (fC 25) [x0, f4e, f4f]) r7 fun f4g r9 =>
 oP E (xCall (fC 24) [(Value.string ⟨#[120]⟩), f4g]) r9 fun f4h t8 =>
 oP E (xV (Instr.buildSlice 42 1 #[(0, f4h)])) t8 fun f4i v6 =>
 oP E (xV (Instr.build 44 #[(0, f4d), (1, f4i)])) v6 fun f4j A9 =>
 oP E (xV (Instr.alloc 44 true (.tuple #[]))) A9 fun a2A C7 =>
 oP E (sA 44 a2A f4j) C7 fun _z_29 D8 =>
 oP E (lA 44 a2A) D8 fun f4k C3 =>
 oP E (xCall (fC 18) [f4k, (nS), (vI 10)]) C3 fun d2H D1 =>
 oP E (eX d2H 0) D1 fun f4l G3 =>
 oP E (eX d2H 1) G3 fun f4m D9 =>
 oP E (xV (Instr.alloc 49 true (.tuple #[]))) D9 fun a7e E2 =>
 oP E (sA 49 a7e f4l) E2 fun _z_41 G9 =>
 oP E (xBin .neq 29 (.tmp 77) (.const (vI 0)) f4m (vI 0)) G9 fun b8X G4 =>
 oP E (gsem (asB b8X) false (fA 49 a7e 2)) G4 fun f4n K5 =>
 oP E (gsem (asB b8X) false (lA 3 f4n)) K5 fun f4o L3 =>
 oP E (gsem (asB b8X) false (xBin .neq 3 (.tmp 81) (.const (vI 1)) f4o (vI 1))) L3 fun f4p J9 =>
 oP E (xPick b8X (vB true) f4p) J9 fun b4y E6 =>
 oP E (gsem (asB b4y) false (fA 49 a7e 4)) E6 fun f4q N1 =>
 oP E (gsem (asB b4y) false (lA 45 f4q)) N1 fun f4r N2 =>
 oP E (gsem (asB b4y) false (xBuiltin .len #[45] 3 [false] [f4r])) N2 fun f4s L6 =>
 oP E (gsem (asB b4y) false (xBin .neq 3 (.tmp 87) (.const (vI 1)) f4s (vI 1))) L6 fun f4t P2 =>
 oP E (xPick b4y (vB true) f4t) P2 fun b4z L8 =>
 oP E (gsem (asB b4z) false (fA 49 a7e 1)) L8 fun f4u N9 =>
 oP E (gsem (asB b4z) false (lA 3 f4u)) N9 fun f4v P3 =>
 oP E (gsem (asB b4z) false (xBin .neq 3 (.tmp 92) (.tmp 93) f4v (gval (asB b4z) false x8))) P3 fun f4w O0 =>
 oP E (xPick b4z (vB true) f4w) O0 fun f4x M9 =>
 xcond f4x
 (R (vB false) M9)
 (oP E (xBin .neq 3 (.tmp 96) (.const (vI 0)) x8 (vI 0)) M9 fun f4y O1 =>
 xcond f4y
 (oP E (fA 49 a7e 0) O1 fun f4z R5 =>
 oP E (lA 3 f4z) R5 fun f4A T1 =>
 oP E (xBin .eql 3 (.tmp 99) (.const (vI 3)) f4A (vI 3)) T1 fun a8e N3 =>
 oP E (gsem (asB a8e) true (fA 49 a7e 4)) N3 fun e3q T7 =>
 oP E (gsem (asB a8e) true (lA 45 e3q)) T7 fun e3r P4 =>
 oP E (gsem (asB a8e) true (iA 45 e3r (vI 0))) P4 fun e3s Q2 =>
 oP E (gsem (asB a8e) true (lA 2 e3s)) Q2 fun e3t T8 =>
 oP E (gsem (asB a8e) true (xBin .eql 2 (.tmp 105) (.const (vI 0)) e3t (vI 0))) T8 fun e3u N4 =>
 oP E (xPick a8e e3u (vB false)) N4 fun e3v a0d =>
 R e3v a0d)
 (oP E (fA 49 a7e 0) O1 fun e3w a0J =>
 oP E (lA 3 e3w) a0J fun b5G a1k =>
 oP E (xBin .eql 3 (.tmp 109) (.const (vI 2)) b5G (vI 2)) a1k fun a4t a0K =>
 oP E (gsem (asB a4t) true (fA 49 a7e 4)) a0K fun e3x a0L =>
 oP E (gsem (asB a4t) true (lA 45 e3x)) a0L fun c0C U9 =>
 oP E (gsem (asB a4t) true (iA 45 c0C (vI 0))) U9 fun d6X M6 =>
 oP E (gsem (asB a4t) true (lA 2 d6X)) M6 fun d6Y P8 =>
 oP E (gsem (asB a4t) true (xBin .eql 2 (.tmp 115) (.tmp 116) d6Y (gval (asB a4t) true x7))) P8 fun d6Z W2 =>
 oP E (xPick a4t d6Z (vB false)) W2 fun d7a a1l =>
 R d7a a1l)))
def F6 (x0 x1 x2 : Value) (w : World) (R : RT) (E : Pan) : Prop :=
 oP E (xCall (fC 17) []) w fun g1k w_2 =>
 oP E (xV (Op.unary .not g1k)) w_2 fun b8z w_4 =>
 xcond b8z
 (R (vB false) w_4)
 (oP E (xBin .eql 2 (.tmp 14) (.const (vI (-9223372036854775808))) x1 (vI (-9223372036854775808))) w_4 fun b2I w_6 =>
 oP E (gsem (asB b2I) false (xBin .eql 2 (.tmp 17) (.const (vI (-9223372036854775808))) (gval (asB b2I) false x2) (vI (-9223372036854775808)))) w_6 fun g1l w_8 =>
 oP E (xPick b2I (vB true) g1l) w_8 fun g1m o3 =>
 xcond g1m
 (R (vB true) o3)
 (xcut (fun d9t a3K => g1j x0 x1 x2 (nth d9t 0) (nth d9t.tail 0) a3K R E) fun j1 =>
 oP E (xBin .eql 3 (.tmp 20) (.const (vI 6)) x0 (vI 6)) o3 fun e3y a0O =>
 xcond e3y
 (oP E (xCall (fC 26) [x1, x2]) a0O fun c7j T2 =>
 oP E (eX c7j 0) T2 fun e3z W3 =>
 oP E (eX c7j 1) W3 fun e3A a2b =>
 j1 [e3z, e3A] a2b)
 (oP E (xBin .eql 3 (.tmp 20) (.const (vI 7)) x0 (vI 7)) a0O fun e3B S0 =>
 xcond e3B
 (oP E (xCall (fC 27) [x1, x2]) S0 fun c7k a1m =>
 oP E (eX c7k 0) a1m fun e3C a4V =>
 oP E (eX c7k 1) a4V fun e3D a5V =>
 j1 [e3C, e3D] a5V)
 (oP E (xBin .eql 3 (.tmp 20) (.const (vI 8)) x0 (vI 8)) S0 fun e3E a4W =>
 xcond e3E
 (oP E (xCall (fC 28) [x1, x2]) a4W fun c7l a5W =>
 oP E (eX c7l 0) a5W fun e3F a2X =>
 oP E (eX c7l 1) a2X fun e3G a2Y =>
 j1 [e3F, e3G] a2Y)
 (oP E (xBin .eql 3 (.tmp 20) (.const (vI 9)) x0 (vI 9)) a4W fun e3H a4m =>
 xcond e3H
 (oP E (xCall (fC 29) [x1, x2]) a4m fun c7m a5T =>
 oP E (eX c7m 0) a5T fun e3I a6P =>
 oP E (eX c7m 1) a6P fun e3J a7J =>
 j1 [e3I, e3J] a7J)
 (oP E (xBin .eql 3 (.tmp 20) (.const (vI 10)) x0 (vI 10)) a4m fun e3K a6Q =>
 xcond e3K
 (oP E (xCall (fC 30) [x1, x2]) a6Q fun c7n b1X =>
 oP E (eX c7n 0) b1X fun e3L a9X =>
 oP E (eX c7n 1) a9X fun e3M b1Y =>
 j1 [e3L, e3M] b1Y)
 (R (vB true) a6Q)))))))
noncomputable def c6 : Code := Tryd.f6.body.getD .skip
def h6 : Hint := (sQ (.seq (sQ (.cond (sQ .none) .none)) (.seq (sQ (.cond (sQ .none) .none)) (sQ (.cut [7, 8] (sQ (.block (sQ (.cond .none (sQ (.cond .none (sQ (.cond .none (sQ (.cond .none (sQ (.cond .none (sQ .none))))))))))))) (sQ (sQ (.seq (sQ (.cond (sQ .none) .none)) (.seq (sQ (.cond (sQ .none) .none)) (sQ .none))))))))))
noncomputable def c7 : Code := Tryd.f7.body.getD .skip
def h7 : Hint := (sQ (.seq (sQ (.cond (sQ .none) .none)) (.seq (sQ (.cond (sQ .none) .none)) (sQ (sQ (.seq (sQ (.cond (sQ .none) .none)) (sQ (.seq (sQ (.cond (sQ .none) .none)) (.seq (sQ (.cond (sQ .none) .none)) (.seq (sQ (.cond (sQ .none) .none)) (sQ (.cut [13] (sQ (.cond .none .none)) (sQ .none)))))))))))))
def d9u (x13 x15 : Value) (w : World) (R : RT) (E : Pan) : Prop :=
 ∀ _τ : Fr, (oP E (fA 49 x13 0) w fun e3N c1Q =>
 oP E (lA 3 e3N) c1Q fun e3O g1n =>
 oP E (xBin .eql 3 (.tmp 92) (.const (vI 2)) e3O (vI 2)) g1n fun b5H g1o =>
 oP E (gsem (asB b5H) true (fA 49 x13 2)) g1o fun e3P g1p =>
 oP E (gsem (asB b5H) true (lA 3 e3P)) g1p fun e3Q b8Y =>
 oP E (gsem (asB b5H) true (xBin .eql 3 (.tmp 96) (.const (vI 2)) e3Q (vI 2))) b8Y fun e3R c1R =>
 oP E (xPick b5H e3R (vB false)) c1R fun a6E c9M =>
 oP E (gsem (asB a6E) true (fA 49 x13 4)) c9M fun d7b g1q =>
 oP E (gsem (asB a6E) true (lA 45 d7b)) g1q fun d7c g1r =>
 oP E (gsem (asB a6E) true (iA 45 d7c (vI 0))) g1r fun d7d g1s =>
 oP E (gsem (asB a6E) true (lA 2 d7d)) g1s fun d7e g1t =>
 oP E (gsem (asB a6E) true (xBin .eql 2 (.tmp 103) (.tmp 104) d7e (gval (asB a6E) true x15))) g1t fun d7f g1u =>
 oP E (xPick a6E d7f (vB false)) g1u fun d7g g1v =>
 R d7g g1v)
def c9N (x0 x1 x2 x3 x11 : Value) (w : World) (R : RT) (E : Pan) : Prop :=
 ∀ _τ : Fr, (dX w fun b3I =>
 ∃ U0 : Nat → NT, (∀ a3J : Fr, U0 0 [(a3J 44), (a3J 45), (a3J 46), (a3J 47), (a3J 48), (a3J 49), (a3J 50), (a3J 51), (a3J 52), (a3J 53), (a3J 54), (a3J 55), (a3J 56), (a3J 12)] b3I) ∧ ((∀ (c9O : Nat) (a0t : Fr) (E6 : World), U0 c9O [(a0t 44), (a0t 45), (a0t 46), (a0t 47), (a0t 48), (a0t 49), (a0t 50), (a0t 51), (a0t 52), (a0t 53), (a0t 54), (a0t 55), (a0t 56), (a0t 12)] E6 → c9O.testBit 0 = false → rdyB 0 c9O = true →
 oP E (xV (Instr.build 58 #[(0, (Value.string ⟨#[120]⟩))])) E6 fun f4B f0V => U0 (c9O ||| (1 <<< 0)) [f4B, (a0t 45), (a0t 46), (a0t 47), (a0t 48), (a0t 49), (a0t 50), (a0t 51), (a0t 52), (a0t 53), (a0t 54), (a0t 55), (a0t 56), (a0t 12)] f0V) ∧ ((∀ (c9P : Nat) (X6 : Fr) (c0q : World), U0 c9P [(X6 44), (X6 45), (X6 46), (X6 47), (X6 48), (X6 49), (X6 50), (X6 51), (X6 52), (X6 53), (X6 54), (X6 55), (X6 56), (X6 12)] c0q → c9P.testBit 1 = false → rdyB 1 c9P = true →
 oP E (xV (Instr.buildSlice 41 1 #[(0, (X6 44))])) c0q fun b4A L6 => U0 (c9P ||| (1 <<< 1)) [(X6 44), b4A, (X6 46), (X6 47), (X6 48), (X6 49), (X6 50), (X6 51), (X6 52), (X6 53), (X6 54), (X6 55), (X6 56), (X6 12)] L6) ∧ ((∀ (c9Q : Nat) (a0u : Fr) (L8 : World), U0 c9Q [(a0u 44), (a0u 45), (a0u 46), (a0u 47), (a0u 48), (a0u 49), (a0u 50), (a0u 51), (a0u 52), (a0u 53), (a0u 54), (a0u 55), (a0u 56), (a0u 12)] L8 → c9Q.testBit 2 = false → rdyB 0 c9Q = true →
 oP E (lA 27 x11) L8 fun f4C d7h => U0 (c9Q ||| (1 <<< 2)) [(a0u 44), (a0u 45), f4C, (a0u 47), (a0u 48), (a0u 49), (a0u 50), (a0u 51), (a0u 52), (a0u 53), (a0u 54), (a0u 55), (a0u 56), (a0u 12)] d7h) ∧ ((∀ (c9R : Nat) (X7 : Fr) (a7s : World), U0 c9R [(X7 44), (X7 45), (X7 46), (X7 47), (X7 48), (X7 49), (X7 50), (X7 51), (X7 52), (X7 53), (X7 54), (X7 55), (X7 56), (X7 12)] a7s → c9R.testBit 3 = false → rdyB 4 c9R = true →
 oP E (xV (Instr.buildSlice 25 1 #[(0, (X7 46))])) a7s fun c3s O0 => U0 (c9R ||| (1 <<< 3)) [(X7 44), (X7 45), (X7 46), c3s, (X7 48), (X7 49), (X7 50), (X7 51), (X7 52), (X7 53), (X7 54), (X7 55), (X7 56), (X7 12)] O0) ∧ ((∀ (c9S : Nat) (a0v : Fr) (O1 : World), U0 c9S [(a0v 44), (a0v 45), (a0v 46), (a0v 47), (a0v 48), (a0v 49), (a0v 50), (a0v 51), (a0v 52), (a0v 53), (a0v 54), (a0v 55), (a0v 56), (a0v 12)] O1 → c9S.testBit 4 = false → rdyB 0 c9S = true →
 oP E (xCall (fC 23) [(vI 1)]) O1 fun f4D c0m => U0 (c9S ||| (1 <<< 4)) [(a0v 44), (a0v 45), (a0v 46), (a0v 47), f4D, (a0v 49), (a0v 50), (a0v 51), (a0v 52), (a0v 53), (a0v 54), (a0v 55), (a0v 56), (a0v 12)] c0m) ∧ ((∀ (c9T : Nat) (V6 : Fr) (b2P : World), U0 c9T [(V6 44), (V6 45), (V6 46), (V6 47), (V6 48), (V6 49), (V6 50), (V6 51), (V6 52), (V6 53), (V6 54), (V6 55), (V6 56), (V6 12)] b2P → c9T.testBit 5 = false → rdyB 16 c9T = true →
 oP E (xCall (fC 24) [(Value.string ⟨#[120]⟩), (V6 48)]) b2P fun f4E N3 => U0 (c9T ||| (1 <<< 5)) [(V6 44), (V6 45), (V6 46), (V6 47), (V6 48), f4E, (V6 50), (V6 51), (V6 52), (V6 53), (V6 54), (V6 55), (V6 56), (V6 12)] N3) ∧ ((∀ (c9U : Nat) (X8 : Fr) (P4 : World), U0 c9U [(X8 44), (X8 45), (X8 46), (X8 47), (X8 48), (X8 49), (X8 50), (X8 51), (X8 52), (X8 53), (X8 54), (X8 55), (X8 56), (X8 12)] P4 → c9U.testBit 6 = false → rdyB 32 c9U = true →
 oP E (xV (Instr.buildSlice 42 1 #[(0, (X8 49))])) P4 fun f4F c5j => U0 (c9U ||| (1 <<< 6)) [(X8 44), (X8 45), (X8 46), (X8 47), (X8 48), (X8 49), f4F, (X8 51), (X8 52), (X8 53), (X8 54), (X8 55), (X8 56), (X8 12)] c5j) ∧ ((∀ (c9V : Nat) (a0w : Fr) (c9W : World), U0 c9V [(a0w 44), (a0w 45), (a0w 46), (a0w 47), (a0w 48), (a0w 49), (a0w 50), (a0w 51), (a0w 52), (a0w 53), (a0w 54), (a0w 55), (a0w 56), (a0w 12)] c9W → c9V.testBit 7 = false → rdyB 32 c9V = true →
 oP E (xCall (fC 23) [(vI 2)]) c9W fun f4G N4 => U0 (c9V ||| (1 <<< 7)) [(a0w 44), (a0w 45), (a0w 46), (a0w 47), (a0w 48), (a0w 49), (a0w 50), f4G, (a0w 52), (a0w 53), (a0w 54), (a0w 55), (a0w 56), (a0w 12)] N4) ∧ ((∀ (c9X : Nat) (X9 : Fr) (a0J : World), U0 c9X [(X9 44), (X9 45), (X9 46), (X9 47), (X9 48), (X9 49), (X9 50), (X9 51), (X9 52), (X9 53), (X9 54), (X9 55), (X9 56), (X9 12)] a0J → c9X.testBit 8 = false → rdyB 128 c9X = true →
 oP E (xCall (fC 24) [(Value.string ⟨#[120]⟩), (X9 51)]) a0J fun f4H d7i => U0 (c9X ||| (1 <<< 8)) [(X9 44), (X9 45), (X9 46), (X9 47), (X9 48), (X9 49), (X9 50), (X9 51), f4H, (X9 53), (X9 54), (X9 55), (X9 56), (X9 12)] d7i) ∧ ((∀ (c9Y : Nat) (Y0 : Fr) (a7u : World), U0 c9Y [(Y0 44), (Y0 45), (Y0 46), (Y0 47), (Y0 48), (Y0 49), (Y0 50), (Y0 51), (Y0 52), (Y0 53), (Y0 54), (Y0 55), (Y0 56), (Y0 12)] a7u → c9Y.testBit 9 = false → rdyB 256 c9Y = true →
 oP E (xV (Instr.buildSlice 42 1 #[(0, (Y0 52))])) a7u fun f4I a0L => U0 (c9Y ||| (1 <<< 9)) [(Y0 44), (Y0 45), (Y0 46), (Y0 47), (Y0 48), (Y0 49), (Y0 50), (Y0 51), (Y0 52), f4I, (Y0 54), (Y0 55), (Y0 56), (Y0 12)] a0L) ∧ ((∀ (c1S : Nat) (O9 : Fr) (M6 : World), U0 c1S [(O9 44), (O9 45), (O9 46), (O9 47), (O9 48), (O9 49), (O9 50), (O9 51), (O9 52), (O9 53), (O9 54), (O9 55), (O9 56), (O9 12)] M6 → c1S.testBit 10 = false → rdyB 584 c1S = true →
 oP E (xV (Instr.build 63 #[(0, (vI 3)), (3, (O9 47)), (4, (O9 50)), (5, (O9 53))])) M6 fun e3S b2Q => U0 (c1S ||| (1 <<< 10)) [(O9 44), (O9 45), (O9 46), (O9 47), (O9 48), (O9 49), (O9 50), (O9 51), (O9 52), (O9 53), e3S, (O9 55), (O9 56), (O9 12)] b2Q) ∧ ((∀ (c1T : Nat) (Q4 : Fr) (c9Z : World), U0 c1T [(Q4 44), (Q4 45), (Q4 46), (Q4 47), (Q4 48), (Q4 49), (Q4 50), (Q4 51), (Q4 52), (Q4 53), (Q4 54), (Q4 55), (Q4 56), (Q4 12)] c9Z → c1T.testBit 11 = false → rdyB 1024 c1T = true →
 oP E (xV (Instr.buildSlice 42 1 #[(0, (Q4 54))])) c9Z fun e3T a1l => U0 (c1T ||| (1 <<< 11)) [(Q4 44), (Q4 45), (Q4 46), (Q4 47), (Q4 48), (Q4 49), (Q4 50), (Q4 51), (Q4 52), (Q4 53), (Q4 54), e3T, (Q4 56), (Q4 12)] a1l) ∧ ((∀ (c1U : Nat) (Q1 : Fr) (a0O : World), U0 c1U [(Q1 44), (Q1 45), (Q1 46), (Q1 47), (Q1 48), (Q1 49), (Q1 50), (Q1 51), (Q1 52), (Q1 53), (Q1 54), (Q1 55), (Q1 56), (Q1 12)] a0O → c1U.testBit 12 = false → rdyB 2050 c1U = true →
 oP E (xV (Instr.build 44 #[(0, (Q1 45)), (1, (Q1 55))])) a0O fun e3U g1w => U0 (c1U ||| (1 <<< 12)) [(Q1 44), (Q1 45), (Q1 46), (Q1 47), (Q1 48), (Q1 49), (Q1 50), (Q1 51), (Q1 52), (Q1 53), (Q1 54), (Q1 55), e3U, (Q1 12)] g1w) ∧ ((∀ (c1V : Nat) (S3 : Fr) (d0a : World), U0 c1V [(S3 44), (S3 45), (S3 46), (S3 47), (S3 48), (S3 49), (S3 50), (S3 51), (S3 52), (S3 53), (S3 54), (S3 55), (S3 56), (S3 12)] d0a → c1V.testBit 13 = false → rdyB 0 c1V = true →
 oP E (xV (Instr.alloc 44 true (.tuple #[]))) d0a fun e3V a2b => U0 (c1V ||| (1 <<< 13)) [(S3 44), (S3 45), (S3 46), (S3 47), (S3 48), (S3 49), (S3 50), (S3 51), (S3 52), (S3 53), (S3 54), (S3 55), (S3 56), e3V] a2b) ∧ ((∀ (c1W : Nat) (P0 : Fr) (a1m : World), U0 c1W [(P0 44), (P0 45), (P0 46), (P0 47), (P0 48), (P0 49), (P0 50), (P0 51), (P0 52), (P0 53), (P0 54), (P0 55), (P0 56), (P0 12)] a1m → c1W.testBit 14 = false → rdyB 16383 c1W = true →
 oP E (sA 44 (P0 12) (P0 56)) a1m fun _z_124 g1x => U0 (c1W ||| (1 <<< 14)) [(P0 44), (P0 45), (P0 46), (P0 47), (P0 48), (P0 49), (P0 50), (P0 51), (P0 52), (P0 53), (P0 54), (P0 55), (P0 56), (P0 12)] g1x) ∧ True))))))))))))))) ∧ ∀ (d9v : Nat) (a3r : Fr) (d9w : World), U0 d9v [(a3r 44), (a3r 45), (a3r 46), (a3r 47), (a3r 48), (a3r 49), (a3r 50), (a3r 51), (a3r 52), (a3r 53), (a3r 54), (a3r 55), (a3r 56), (a3r 12)] d9w → rdyIn d9v [] 0 [(0, 17592186044416, 0), (1, 35184372088832, 17592186044416), (0, 70368744177664, 2048), (4, 140737488355328, 70368744177664), (0, 281474976710656, 0), (16, 562949953421312, 281474976710656), (32, 1125899906842624, 562949953421312), (32, 2251799813685248, 0), (128, 4503599627370496, 2251799813685248), (256, 9007199254740992, 4503599627370496), (584, 18014398509481984, 10273836649938944), (1024, 36028797018963968, 18014398509481984), (2050, 72057594037927936, 36063981391052800), (0, 4096, 0), (16383, 0, 72057594037932032)] = true →
 oP E (lA 44 (a3r 12)) d9w fun e3W g1y =>
 oP E (xCall (fC 18) [e3W, (nS), (vI 10)]) g1y fun c7o g1z =>
 oP E (eX c7o 0) g1z fun e3X g1A =>
 oP E (eX c7o 1) g1A fun e3Y g1B =>
 oP E (xV (Instr.alloc 49 true (.tuple #[]))) g1B fun a8f c1X =>
 oP E (sA 49 a8f e3X) c1X fun _z_138 b8Z =>
 oP E (xBin .neq 29 (.tmp 62) (.const (vI 0)) e3Y (vI 0)) b8Z fun b1q d0b =>
 oP E (gsem (asB b1q) false (fA 49 a8f 4)) d0b fun e3Z d0c =>
 oP E (gsem (asB b1q) false (lA 45 e3Z)) d0c fun e4a d0d =>
 oP E (gsem (asB b1q) false (xBuiltin .len #[45] 3 [false] [e4a])) d0d fun e4b d0e =>
 oP E (gsem (asB b1q) false (xBin .neq 3 (.tmp 67) (.const (vI 1)) e4b (vI 1))) d0e fun e4c c1Y =>
 oP E (xPick b1q (vB true) e4c) c1Y fun e4d c1Z =>
 xcond e4d
 (R (vB false) c1Z)
 (oP E (xBin .lss 2 (.tmp 70) (.tmp 71) x0 x1) c1Z fun e4e d0f =>
 oP E (xBin .neq 4 (.tmp 72) (.tmp 73) e4e x2) d0f fun e4f c2a =>
 xcond e4f
 (oP E (fA 49 a8f 0) c2a fun e4g d0g =>
 oP E (lA 3 e4g) d0g fun e4h d0h =>
 oP E (xBin .eql 3 (.tmp 76) (.const (vI 3)) e4h (vI 3)) d0h fun b5I d0i =>
 oP E (gsem (asB b5I) true (fA 49 a8f 1)) d0i fun e4i d0j =>
 oP E (gsem (asB b5I) true (lA 3 e4i)) d0j fun e4j d0k =>
 oP E (gsem (asB b5I) true (xBin .eql 3 (.tmp 80) (.const (vI 2)) e4j (vI 2))) d0k fun e4k c2b =>
 oP E (xPick b5I e4k (vB false)) c2b fun b5J g1C =>
 oP E (gsem (asB b5J) true (fA 49 a8f 2)) g1C fun e4l g1D =>
 oP E (gsem (asB b5J) true (lA 3 e4l)) g1D fun e4m g1E =>
 oP E (gsem (asB b5J) true (xBin .eql 3 (.tmp 85) (.const (vI 2)) e4m (vI 2))) g1E fun e4n g1F =>
 oP E (xPick b5J e4n (vB false)) g1F fun e4o b9a =>
 R e4o b9a)
 (xcut (fun g1G b2N => d9u a8f (nth g1G 0) b2N R E) fun j3 =>
 oP E (xBin .neq 4 (.tmp 88) (.tmp 89) x2 x3) c2a fun e4p d9x =>
 xcond e4p
 (j3 [(vI 1)] d9x)
 (j3 [(vI 2)] d9x))))
def d0l (x0 x1 x2 x3 x11 : Value) (w : World) (R : RT) (E : Pan) : Prop :=
 ∀ _τ : Fr, (xcut (fun _ g1H => c9N x0 x1 x2 x3 x11 g1H R E) fun j2 =>
 xcond x3
 (oP E (lA 27 x11) w fun e4q g1I =>
 oP E (xV (Instr.buildSlice 25 1 #[(0, e4q)])) g1I fun e4r g1J =>
 oP E (xV (Instr.build 27 #[(0, (vI 4)), (3, e4r)])) g1J fun e4s g1K =>
 oP E (sA 27 x11 e4s) g1K fun _z_216 g1L =>
 j2 [] g1L)
 (j2 [] w))
def F8 (x0 x1 x2 x3 : Value) (w : World) (R : RT) (E : Pan) : Prop :=
 oP E (xCall (fC 17) []) w fun g1M w_2 =>
 oP E (xV (Op.unary .not g1M)) w_2 fun b5t w_4 =>
 xcond b5t
 (R (vB false) w_4)
 (oP E (xBin .eql 2 (.tmp 18) (.const (vI (-9223372036854775808))) x0 (vI (-9223372036854775808))) w_4 fun b5u w_6 =>
 oP E (gsem (asB b5u) false (xBin .eql 2 (.tmp 21) (.const (vI (-9223372036854775808))) (gval (asB b5u) false x1) (vI (-9223372036854775808)))) w_6 fun c9y w_8 =>
 oP E (xPick b5u (vB true) c9y) w_8 fun b0d o3 =>
 xcond b0d
 (R (vB true) o3)
 (oP E (xCall (fC 23) [x0]) o3 fun b1e p8 =>
 oP E (xCall (fC 23) [x1]) p8 fun c5a o9 =>
 oP E (xCall (fC 21) [(vI 1), b1e, c5a]) o9 fun c5b q8 =>
 oP E (xV (Instr.alloc 27 true (.tuple #[]))) q8 fun d9y r7 =>
 oP E (sA 27 d9y c5b) r7 fun _z_19 r9 =>
 oP E (xCall (fC 23) [(vI 1)]) r9 fun c4G t8 =>
 oP E (xCall (fC 22) [(Value.string ⟨#[120]⟩)]) t8 fun b8H v6 =>
 oP E (xCall (fC 25) [(vI 9), c4G, b8H]) v6 fun c4H A9 =>
 oP E (xCall (fC 23) [(vI 0)]) A9 fun c4I C7 =>
 oP E (xCall (fC 21) [(vI 3), c4H, c4I]) C7 fun f4J D8 =>
 oP E (xV (Instr.alloc 27 true (.tuple #[]))) D8 fun d2I C3 =>
 oP E (sA 27 d2I f4J) C3 fun _z_33 D1 =>
 oP E (lA 27 d9y) D1 fun c3g G3 =>
 oP E (lA 27 d2I) G3 fun c3h D9 =>
 oP E (xV (Instr.buildSlice 25 2 #[(0, c3g), (1, c3h)])) D9 fun c3i E2 =>
 oP E (xV (Instr.build 27 #[(0, (vI 5)), (3, c3i)])) E2 fun c3j G9 =>
 oP E (xV (Instr.alloc 27 true (.tuple #[]))) G9 fun c5k G4 =>
 oP E (sA 27 c5k c3j) G4 fun _z_45 K5 =>
 xcut (fun _ g1N => d0l x0 x1 x2 x3 c5k g1N R E) fun j1 =>
 xcond x2
 (oP E (fA 27 c5k 0) K5 fun e4t g1O =>
 oP E (sA 3 e4t (vI 6)) g1O fun _z_222 g1P =>
 j1 [] g1P)
 (j1 [] K5)))
noncomputable def c8 : Code := Tryd.f8.body.getD .skip
def h8 : Hint := (sQ (.seq (sQ (.cond (sQ .none) .none)) (.seq (sQ (.cond (sQ .none) .none)) (sQ (sQ (sQ (.cut [] (sQ (.cond .none .none)) (.cut [] (sQ (.cond .none .none)) (.seq (.regJ [(0, 17592186044416, 0), (1, 35184372088832, 17592186044416), (0, 70368744177664, 2048), (4, 140737488355328, 70368744177664), (0, 281474976710656, 0), (16, 562949953421312, 281474976710656), (32, 1125899906842624, 562949953421312), (32, 2251799813685248, 0), (128, 4503599627370496, 2251799813685248), (256, 9007199254740992, 4503599627370496), (584, 18014398509481984, 10273836649938944), (1024, 36028797018963968, 18014398509481984), (2050, 72057594037927936, 36063981391052800), (0, 4096, 0), (16383, 0, 72057594037932032)] [44, 45, 46, 47, 48, 49, 50, 51, 52, 53, 54, 55, 56, 12]) (sQ (.seq (sQ (.cond (sQ .none) .none)) (.seq (sQ (.cond (sQ .none) .none)) (sQ (.cut [15] (sQ (.cond .none .none)) (sQ .none)))))))))))))))
theorem g1Q (x0 x1 x2 x3 : Value) (w : World) (R : RT) (E : Pan) : F8 x0 x1 x2 x3 w R E = callX Tryd.prog [.tmp 8] c8 h8 [x0, x1, x2, x3] w R E := by kernel_rfl
theorem g1R {x0 x1 x2 x3 : Value} (h : F8 x0 x1 x2 x3 w R E) : Cv Tryd.prog 8 #[x0, x1, x2, x3] w R E := by
 refine i8 (args := [x0, x1, x2, x3]) (c := c8) (h := h8) (rs := [.tmp 8]) Tryd.func8 (by kernel_rfl) (by kernel_rfl) (nB (by kernel_rfl)) (by kernel_rfl) (by kernel_rfl) (by kernel_rfl) ?_
 rw [← g1Q]
 exact h
def F17 (w : World) (R : RT) (E : Pan) : Prop :=
 oP E (xV (Instr.build 24 #[(0, (vI 2)), (2, (Value.string ⟨#[120]⟩))])) w fun b1V w_2 =>
 oP E (xV (Instr.build 24 #[(0, (vI 1)), (1, (vI 2))])) w_2 fun a3E w_4 =>
 oP E (xV (Instr.buildSlice 22 2 #[(0, b1V), (1, a3E)])) w_4 fun a8v w_6 =>
 oP E (xV (Instr.build 24 #[(0, (vI 6)), (3, a8v)])) w_6 fun a2W w_8 =>
 oP E (xV (Instr.alloc 24 true (.tuple #[]))) w_8 fun f4K o3 =>
 oP E (sA 24 f4K a2W) o3 fun _z_11 p8 =>
 oP E (xV (Instr.build 58 #[(0, (Value.string ⟨#[120]⟩))])) p8 fun b1W o9 =>
 oP E (xV (Instr.buildSlice 41 1 #[(0, b1W)])) o9 fun b3M q8 =>
 oP E (xV (Instr.build 24 #[(0, (vI 1)), (1, (vI 1))])) q8 fun b3N r7 =>
 oP E (xV (Instr.buildSlice 22 1 #[(0, b3N)])) r7 fun b3O r9 =>
 oP E (xV (Instr.build 63 #[(0, (vI 1)), (1, (Value.string ⟨#[120]⟩)), (2, b3O)])) r9 fun f4L t8 =>
 oP E (lA 24 f4K) t8 fun c2H v6 =>
 oP E (xV (Instr.buildSlice 22 1 #[(0, c2H)])) v6 fun f4M A9 =>
 oP E (xV (Instr.build 63 #[(0, (vI 1)), (1, (Value.string ⟨#[120]⟩)), (2, f4M)])) A9 fun f4N C7 =>
 oP E (xV (Instr.buildSlice 42 2 #[(0, f4L), (1, f4N)])) C7 fun f4O D8 =>
 oP E (xV (Instr.build 44 #[(0, b3M), (1, f4O)])) D8 fun f4P C3 =>
 oP E (xV (Instr.alloc 44 true (.tuple #[]))) C3 fun d9z D1 =>
 oP E (sA 44 d9z f4P) D1 fun _z_35 G3 =>
 oP E (lA 44 d9z) G3 fun c2M D9 =>
 oP E (xCall (fC 18) [c2M, (nS), (vI 9)]) D9 fun b7W E2 =>
 oP E (eX b7W 0) E2 fun c3x G9 =>
 oP E (eX b7W 1) G9 fun c3y G4 =>
 oP E (xV (Instr.alloc 49 true (.tuple #[]))) G4 fun b9b K5 =>
 oP E (sA 49 b9b c3x) K5 fun _z_47 L3 =>
 oP E (xBin .eql 29 (.tmp 24) (.const (vI 0)) c3y (vI 0)) L3 fun b9c J9 =>
 oP E (gsem (asB b9c) true (fA 49 b9b 0)) J9 fun f4Q E6 =>
 oP E (gsem (asB b9c) true (lA 3 f4Q)) E6 fun f4R N1 =>
 oP E (gsem (asB b9c) true (xBin .eql 3 (.tmp 28) (.const (vI 2)) f4R (vI 2))) N1 fun b9d N2 =>
 oP E (xPick b9c b9d (vB false)) N2 fun b1r L6 =>
 oP E (gsem (asB b1r) true (fA 49 b9b 2)) L6 fun b3R P2 =>
 oP E (gsem (asB b1r) true (lA 3 b3R)) P2 fun b3S L8 =>
 oP E (gsem (asB b1r) true (xBin .eql 3 (.tmp 33) (.const (vI 2)) b3S (vI 2))) L8 fun b3T N9 =>
 oP E (xPick b1r b3T (vB false)) N9 fun a8x P3 =>
 oP E (gsem (asB a8x) true (fA 49 b9b 4)) P3 fun f4S O0 =>
 oP E (gsem (asB a8x) true (lA 45 f4S)) O0 fun f4T M9 =>
 oP E (gsem (asB a8x) true (xBuiltin .len #[45] 3 [false] [f4T])) M9 fun f4U O1 =>
 oP E (gsem (asB a8x) true (xBin .eql 3 (.tmp 39) (.const (vI 1)) f4U (vI 1))) O1 fun f4V R5 =>
 oP E (xPick a8x f4V (vB false)) R5 fun b1s T1 =>
 oP E (gsem (asB b1s) true (fA 49 b9b 4)) T1 fun f4W N3 =>
 oP E (gsem (asB b1s) true (lA 45 f4W)) N3 fun f4X T7 =>
 oP E (gsem (asB b1s) true (iA 45 f4X (vI 0))) T7 fun f4Y P4 =>
 oP E (gsem (asB b1s) true (lA 2 f4Y)) P4 fun f4Z Q2 =>
 oP E (gsem (asB b1s) true (xBin .eql 2 (.tmp 46) (.const (vI 3)) f4Z (vI 3))) Q2 fun f5a T8 =>
 oP E (xPick b1s f5a (vB false)) T8 fun f5b N4 =>
 R f5b N4
noncomputable def c17 : Code := Tryd.f17.body.getD .skip
def h17 : Hint := (sQ (sQ (sQ (sQ (sQ .none)))))
theorem f5c (w : World) (R : RT) (E : Pan) : F17  w R E = callX Tryd.prog [.tmp 0] c17 h17 [] w R E := by kernel_rfl
theorem f5d (h : F17  w R E) : Cv Tryd.prog 17 #[] w R E := by
 refine i8 (args := []) (c := c17) (h := h17) (rs := [.tmp 0]) Tryd.func17 (by kernel_rfl) (by kernel_rfl) (Nat.zero_le _) (by kernel_rfl) (by kernel_rfl) (by kernel_rfl) ?_
 rw [← f5c]
 exact h
def c5l (x6 x14 : Value) (w : World) (R : RT) (E : Pan) : Prop :=
 ∀ _τ : Fr, (oP E (lA 49 x14) w fun e4u O1 =>
 oP E (sA 49 x6 e4u) O1 fun _z_73 R5 =>
 xcell Tryd.prog 49 x6 R5 fun g5B =>
 R (Value.tuple #[g5B, (vI 0)]) R5)
def d2J (_x6 _x10 _x14 _x89 _x90 x91 : Value) (w : World) (next3 : NT) (_R : RT) (E : Pan) : Prop :=
 ∀ _τ : Fr, (oP E (xBin .add 3 (.tmp 91) (.const (vI 1)) x91 (vI 1)) w fun e4v c9W =>
 next3 [e4v] c9W)
def c5m (x6 x10 x14 x89 x90 x91 : Value) (w : World) (next3 : NT) (j2 : NT) (R : RT) (E : Pan) : Prop :=
 oP E (xBin .lss 3 (.tmp 91) (.tmp 90) x91 x90) w fun f5e f5f =>
 xcond f5e
 (xcut (fun _ c0D => d2J x6 x10 x14 x89 x90 x91 c0D next3 R E) fun j4 =>
 oP E (iA 41 x89 x91) f5f fun f5g b4B =>
 oP E (lA 58 f5g) b4B fun f5h d7i =>
 oP E (xV (Instr.alloc 58 true (.tuple #[]))) d7i fun b9e g5C =>
 oP E (sA 58 b9e f5h) g5C fun _z_96 a7u =>
 oP E (fA 58 b9e 1) a7u fun f5i c5n =>
 oP E (lA 3 f5i) c5n fun e4w c2c =>
 oP E (xBin .gtr 3 (.tmp 96) (.const (vI 0)) e4w (vI 0)) c2c fun e4x b2Q =>
 xcond e4x
 (dX b2Q fun P8 =>
 qP Tryd.prog (fA 49 x14 5) fun c0E =>
 qP Tryd.prog (xNil x10) fun d7j =>
 qP Tryd.prog (fA 90 d7j 5) fun c5o =>
 qP Tryd.prog (fA 58 b9e 0) fun c5p =>
 qL Tryd.prog P8 (blk c0E) (lA 47 c0E) fun e4y =>
 qL Tryd.prog P8 (blk c5o) (lA 88 c5o) fun c5q =>
 qL Tryd.prog P8 (blk c5p) (lA 9 c5p) fun d7k =>
 qL Tryd.prog P8 (blk c5q) (xV (Instr.lookup 88 c5q d7k false)) fun d7l =>
 oP E (xV (Instr.buildSlice 47 1 #[(0, d7l)])) P8 fun d7m T2 =>
 keepX [(blk c0E)] P8 T2 (opK Tryd.prog E (xBuiltin .append #[47, 47] 47 [false, false] [e4y, d7m]) T2 fun d7n W3 =>
 keepX [] T2 W3 (qP Tryd.prog (fA 49 x14 5) fun d7o =>
 oP E (sA 47 d7o d7n) W3 fun _z_118 d9A =>
 keepX [] W3 d9A (j4 [] d9A))))
 (dX b2Q fun S0 =>
 qP Tryd.prog (fA 49 x14 4) fun b7o =>
 qP Tryd.prog (xNil x10) fun d7p =>
 qP Tryd.prog (fA 90 d7p 4) fun c5r =>
 qP Tryd.prog (fA 58 b9e 0) fun c5s =>
 qL Tryd.prog S0 (blk b7o) (lA 45 b7o) fun d7q =>
 qL Tryd.prog S0 (blk c5r) (lA 87 c5r) fun c5t =>
 qL Tryd.prog S0 (blk c5s) (lA 9 c5s) fun d7r =>
 qL Tryd.prog S0 (blk c5t) (xV (Instr.lookup 87 c5t d7r false)) fun d7s =>
 qP Tryd.prog (xNil d7s) fun c5u =>
 qL Tryd.prog S0 (blk c5u) (lA 2 c5u) fun d7t =>
 oP E (xV (Instr.buildSlice 45 1 #[(0, d7t)])) S0 fun d7u a2X =>
 keepX [(blk b7o)] S0 a2X (opK Tryd.prog E (xBuiltin .append #[45, 45] 45 [false, false] [d7q, d7u]) a2X fun d7v a2Y =>
 keepX [] a2X a2Y (qP Tryd.prog (fA 49 x14 4) fun d7w =>
 oP E (sA 45 d7w d7v) a2Y fun _z_136 c1X =>
 keepX [] a2Y c1X (j4 [] c1X)))))
 (j2 [] f5f)
def d2K (x3 x6 x10 : Value) (w : World) (R : RT) (E : Pan) : Prop :=
 ∀ _τ : Fr, (oP E (fA 44 x3 1) w fun f5j K5 =>
 oP E (lA 42 f5j) K5 fun f5k L3 =>
 oP E (xCall (fC 45) [x10, f5k]) L3 fun f5l J9 =>
 oP E (xV (Instr.alloc 93 true (.tuple #[]))) J9 fun c5v E6 =>
 oP E (sA 93 c5v f5l) E6 fun _z_53 N1 =>
 dX N1 fun b2v =>
 qP Tryd.prog (fA 93 c5v 0) fun c5w =>
 qP Tryd.prog (fA 93 c5v 1) fun c5x =>
 qP Tryd.prog (xNil x10) fun f5m =>
 qP Tryd.prog (fA 90 f5m 1) fun c5y =>
 qP Tryd.prog (xNil x10) fun f5n =>
 qP Tryd.prog (fA 90 f5n 3) fun c5z =>
 qL Tryd.prog b2v (blk c5w) (lA 3 c5w) fun f5o =>
 qL Tryd.prog b2v (blk c5x) (lA 3 c5x) fun f5p =>
 qL Tryd.prog b2v (blk c5y) (lA 3 c5y) fun f5q =>
 qL Tryd.prog b2v (blk c5z) (lA 46 c5z) fun f5r =>
 qP Tryd.prog (xV (Instr.build 49 #[(0, f5o), (1, f5p), (2, f5q), (3, f5r)])) fun f5s =>
 oP E (xV (Instr.alloc 49 true (.tuple #[]))) b2v fun c5A O0 =>
 keepX [(blk c5z), (blk c5y), (blk c5x), (blk c5w)] b2v O0 (opK Tryd.prog E (sA 49 c5A f5s) O0 fun _z_69 M9 =>
 keepX [] O0 M9 (xcut (fun _ b2P => c5l x6 c5A b2P R E) fun j2 =>
 oP E (fA 44 x3 0) M9 fun c5B b2b =>
 oP E (lA 41 c5B) b2b fun b4C d7x =>
 oP E (xBuiltin .len #[41] 3 [false] [b4C]) d7x fun c5C c5j =>
 xloop [91] [(vI 0)] c5j fun τ_138 b8Z next3 =>
 c5m x6 x10 c5A b4C c5C (τ_138 91) b8Z next3 j2 R E)))
def d2L (_x3 _x6 _x10 _x45 _x46 x47 : Value) (w : World) (next5 : NT) (_R : RT) (E : Pan) : Prop :=
 ∀ _τ : Fr, (oP E (xBin .add 3 (.tmp 47) (.const (vI 1)) x47 (vI 1)) w fun e4z c1Z =>
 next5 [e4z] c1Z)
def d2M (x3 x6 x10 x45 x46 x47 : Value) (w : World) (next5 : NT) (j1 : NT) (R : RT) (E : Pan) : Prop :=
 oP E (xBin .lss 3 (.tmp 47) (.tmp 46) x47 x46) w fun e4A c1Y =>
 xcond e4A
 (xcut (fun _ d0f => d2L x3 x6 x10 x45 x46 x47 d0f next5 R E) fun j6 =>
 oP E (iA 41 x45 x47) c1Y fun e4B c2a =>
 oP E (lA 58 e4B) c2a fun e4C d0g =>
 oP E (xV (Instr.alloc 58 true (.tuple #[]))) d0g fun b1t d0h =>
 oP E (sA 58 b1t e4C) d0h fun _z_160 d0i =>
 oP E (fA 58 b1t 1) d0i fun e4D d0j =>
 oP E (lA 3 e4D) d0j fun e4E d0k =>
 oP E (xBin .gtr 3 (.tmp 52) (.const (vI 0)) e4E (vI 0)) d0k fun e4F c2b =>
 xcond e4F
 (dX c2b fun a7P =>
 qP Tryd.prog (xNil x10) fun e4G =>
 qP Tryd.prog (fA 90 e4G 5) fun c0F =>
 qP Tryd.prog (fA 58 b1t 0) fun c0G =>
 qP Tryd.prog (fA 58 b1t 1) fun c7p =>
 qL Tryd.prog a7P (blk c0F) (lA 88 c0F) fun e4H =>
 qL Tryd.prog a7P (blk c0G) (lA 9 c0G) fun e4I =>
 qL Tryd.prog a7P (blk c7p) (lA 3 c7p) fun c7q =>
 oP E (xV (Instr.makeSlice 45 c7q c7q)) a7P fun e4J b9a =>
 keepX [(blk c0G), (blk c0F)] a7P b9a (opK Tryd.prog E (xU (Instr.mapUpdate 88 e4H e4I e4J)) b9a fun _z_178 c1Q =>
 keepX [] b9a c1Q (j6 [] c1Q)))
 (dX c2b fun b5E =>
 qP Tryd.prog (xNil x10) fun e4K =>
 qP Tryd.prog (fA 90 e4K 4) fun c0H =>
 qP Tryd.prog (fA 58 b1t 0) fun c0I =>
 qL Tryd.prog b5E (blk c0H) (lA 87 c0H) fun e4L =>
 qL Tryd.prog b5E (blk c0I) (lA 9 c0I) fun e4M =>
 oP E (xV (Instr.alloc 2 true (.tuple #[]))) b5E fun e4N b8Y =>
 keepX [(blk c0I), (blk c0H)] b5E b8Y (opK Tryd.prog E (xU (Instr.mapUpdate 87 e4L e4M e4N)) b8Y fun _z_188 c1R =>
 keepX [] b8Y c1R (j6 [] c1R))))
 (j1 [] c1Y)
def F18 (x0 x1 x2 : Value) (w : World) (R : RT) (E : Pan) : Prop :=
 oP E (xV (Instr.box 44 x0)) w fun I0 w_2 =>
 oP E (xV (Instr.alloc 49 true (.tuple #[]))) w_2 fun a3E w_4 =>
 oP E (lA 44 I0) w_4 fun c9K w_6 =>
 oP E (xCall (fC 34) [c9K]) w_6 fun d9B w_8 =>
 oP E (eX d9B 0) w_8 fun _t20_9 o3 =>
 oP E (eX d9B 1) o3 fun d2N p8 =>
 oP E (xBin .neq 29 (.tmp 22) (.const (vI 0)) d2N (vI 0)) p8 fun f5t o9 =>
 xcond f5t
 (oP E (xV (Instr.build 49 #[])) o9 fun f5u q8 =>
 oP E (sA 49 a3E f5u) q8 fun _z_17 r7 =>
 xcell Tryd.prog 49 a3E r7 fun g5D =>
 R (Value.tuple #[g5D, d2N]) r7)
 (oP E (xBin .lss 3 (.tmp 26) (.const (vI 0)) x2 (vI 0)) o9 fun c5D a2k =>
 oP E (gsem (asB c5D) false (xBin .gtr 3 (.tmp 29) (.const (vI 65536)) (gval (asB c5D) false x2) (vI 65536))) a2k fun f5v a3F =>
 oP E (xPick c5D (vB true) f5v) a3F fun b9f b1R =>
 oP E (gsem (asB b9f) false (xBuiltin .len #[45] 3 [false] [(gval (asB b9f) false x1)])) b1R fun f5w a3N =>
 oP E (gsem (asB b9f) false (xBin .gtr 3 (.tmp 34) (.const (vI 65536)) f5w (vI 65536))) a3N fun f5x d4I =>
 oP E (xPick b9f (vB true) f5x) d4I fun f5y c5E =>
 xcond f5y
 (oP E (xV (Instr.build 49 #[])) c5E fun f5z d7y =>
 oP E (sA 49 a3E f5z) d7y fun _z_34 b0C =>
 xcell Tryd.prog 49 a3E b0C fun g5E =>
 R (Value.tuple #[g5E, (vI 80)]) b0C)
 (oP E (xV (Instr.makeMap 87 none)) c5E fun f5A D9 =>
 oP E (xV (Instr.makeMap 88 none)) D9 fun f5B E2 =>
 oP E (xV (Instr.build 90 #[(0, x2), (2, x1), (4, f5A), (5, f5B)])) E2 fun f5C G9 =>
 oP E (xV (Instr.box 90 f5C)) G9 fun d2O G4 =>
 xcut (fun _ d0b => d2K I0 a3E d2O d0b R E) fun j1 =>
 oP E (fA 44 I0 0) G4 fun e4O d0c =>
 oP E (lA 41 e4O) d0c fun c7r d0d =>
 oP E (xBuiltin .len #[41] 3 [false] [c7r]) d0d fun e4P d0e =>
 xloop [47] [(vI 0)] d0e fun τ_190 c9M next5 =>
 d2M I0 a3E d2O c7r e4P (τ_190 47) c9M next5 j1 R E))
noncomputable def c18 : Code := Tryd.f18.body.getD .skip
def h18 : Hint := (sQ (.seq (sQ (sQ (.cond (sQ .none) .none))) (.seq (sQ (.cond (sQ .none) .none)) (sQ (.cut [] (sQ (.block (.loop [47] (sQ (.seq (.cond .none .none) (.cut [] (.block (sQ (sQ (.cond (.reg [(0, 18014398509481984, 1024), (1, 36028797018963968, 18014398509481984), (2, 72057594037927936, 36028797018963968), (4, 144115188075855872, 72057594037927936), (0, 288230376151711744, 4096), (16, 576460752303423488, 288230376151711744), (0, 1152921504606846976, 4096), (64, 2305843009213693952, 1152921504606846976), (128, 4611686018427387904, 2305843009213693952), (511, 0, 5332261958806667264)] [168, 168, 168, 160, 168, 136, 168, 40, 40, 0] (.early 0 (.early 1 (.early 2 (.early 4 (.early 6 (.load 3 (.load 5 (.load 7 (.step 8 (.step 9 .done))))))))))) (.reg [(0, 9223372036854775808, 1024), (1, 18446744073709551616, 9223372036854775808), (2, 36893488147419103232, 18446744073709551616), (4, 73786976294838206464, 36893488147419103232), (0, 147573952589676412928, 4096), (16, 295147905179352825856, 147573952589676412928), (0, 590295810358705651712, 0), (127, 0, 959230691832896684032)] [40, 40, 40, 32, 40, 8, 40, 0] (.early 0 (.early 1 (.early 2 (.early 4 (.load 3 (.load 5 (.step 6 (.step 7 .done))))))))))))) .none)))))) (sQ (.seq (.reg [(0, 37778931862957161709568, 8192), (1, 75557863725914323419136, 37778931862957161709568), (0, 151115727451828646838272, 8192), (4, 302231454903657293676544, 151115727451828646838272), (0, 604462909807314587353088, 1024), (16, 1208925819614629174706176, 604462909807314587353088), (32, 2417851639229258349412352, 1208925819614629174706176), (64, 4835703278458516698824704, 2417851639229258349412352), (0, 9671406556917033397649408, 1024), (256, 19342813113834066795298816, 9671406556917033397649408), (512, 38685626227668133590597632, 19342813113834066795298816), (1024, 77371252455336267181195264, 38685626227668133590597632), (2186, 154742504910672534362390528, 82584745052424355497115648), (0, 16384, 0), (16383, 0, 154742504910672534362406912)] [2186, 2184, 2186, 2178, 2186, 2186, 2186, 2058, 2186, 2186, 2186, 138, 2186, 2186, 0] (.early 0 (.early 2 (.early 4 (.early 5 (.early 6 (.early 8 (.early 9 (.early 10 (.load 1 (.load 3 (.load 7 (.load 11 (.early 12 (.step 13 (.step 14 .done)))))))))))))))) (.cut [] (sQ (.block (.loop [91] (sQ (.seq (.cond .none .none) (.cut [] (.block (sQ (sQ (.cond (.reg [(0, 316912650057057350374175801344, 16384), (1, 633825300114114700748351602688, 316912650057057350374175801344), (0, 1267650600228229401496703205376, 1024), (4, 2535301200456458802993406410752, 1267650600228229401496703205376), (8, 5070602400912917605986812821504, 2535301200456458802993406410752), (16, 10141204801825835211973625643008, 5070602400912917605986812821504), (0, 20282409603651670423947251286016, 65536), (64, 40564819207303340847894502572032, 20282409603651670423947251286016), (160, 81129638414606681695789005144064, 50706024009129176059868128215040), (256, 162259276829213363391578010288128, 81129638414606681695789005144064), (514, 324518553658426726783156020576256, 162893102129327478092326361890816), (2047, 649037107316853453566312041152512, 16384), (4095, 0, 973555660975280180349468061728768)] [418, 416, 418, 418, 418, 386, 418, 290, 162, 2, 0, 418, 0] (.early 0 (.early 2 (.early 3 (.early 4 (.early 6 (.load 1 (.load 5 (.load 7 (.load 8 (.step 9 (.step 10 (.early 11 (.step 12 .done)))))))))))))) (.reg [(0, 1298074214633706907132624082305024, 16384), (1, 2596148429267413814265248164610048, 1298074214633706907132624082305024), (0, 5192296858534827628530496329220096, 1024), (4, 10384593717069655257060992658440192, 5192296858534827628530496329220096), (8, 20769187434139310514121985316880384, 10384593717069655257060992658440192), (16, 41538374868278621028243970633760768, 20769187434139310514121985316880384), (0, 83076749736557242056487941267521536, 65536), (64, 166153499473114484112975882535043072, 83076749736557242056487941267521536), (160, 332306998946228968225951765070086144, 207691874341393105141219853168803840), (256, 664613997892457936451903530140172288, 332306998946228968225951765070086144), (512, 1329227995784915872903807060280344576, 664613997892457936451903530140172288), (1024, 2658455991569831745807614120560689152, 1329227995784915872903807060280344576), (2050, 5316911983139663491615228241121378304, 2661052139999099159621879368725299200), (8191, 10633823966279326983230456482242756608, 16384), (16383, 0, 15950735949418990474845684723364134912)] [1442, 1440, 1442, 1442, 1442, 1410, 1442, 1314, 1186, 1442, 418, 2, 0, 1442, 0] (.early 0 (.early 2 (.early 3 (.early 4 (.early 6 (.load 1 (.load 5 (.load 7 (.load 8 (.early 9 (.load 10 (.step 11 (.step 12 (.early 13 (.step 14 .done)))))))))))))))))))) .none)))))) (sQ .none)))))))))
theorem f5D (x0 x1 x2 : Value) (w : World) (R : RT) (E : Pan) : F18 x0 x1 x2 w R E = callX Tryd.prog [.cell 6 49, .tmp 7] c18 h18 [x0, x1, x2] w R E := by kernel_rfl
theorem f5E {x0 x1 x2 : Value} (h : F18 x0 x1 x2 w R E) : Cv Tryd.prog 18 #[x0, x1, x2] w R E := by
 refine i8 (args := [x0, x1, x2]) (c := c18) (h := h18) (rs := [.cell 6 49, .tmp 7]) Tryd.func18 (by kernel_rfl) (by kernel_rfl) (nB (by kernel_rfl)) (by kernel_rfl) (by kernel_rfl) (by kernel_rfl) ?_
 rw [← f5D]
 exact h
def F21 (x0 x1 x2 : Value) (w : World) (R : RT) (E : Pan) : Prop :=
 oP E (xV (Instr.box 24 x1)) w fun a7m w_2 =>
 oP E (xV (Instr.box 24 x2)) w_2 fun b0w w_4 =>
 oP E (xV (Instr.alloc 27 true (.tuple #[]))) w_4 fun a3B w_6 =>
 oP E (lA 24 a7m) w_6 fun a2W w_8 =>
 oP E (lA 24 b0w) w_8 fun b0x o3 =>
 oP E (xV (Instr.buildSlice 22 2 #[(0, a2W), (1, b0x)])) o3 fun b3U p8 =>
 oP E (xV (Instr.build 27 #[(0, (vI 3)), (1, x0), (2, b3U)])) p8 fun a8y o9 =>
 oP E (sA 27 a3B a8y) o9 fun _z_15 q8 =>
 xcell Tryd.prog 27 a3B q8 fun d7z =>
 R d7z q8
noncomputable def c21 : Code := Tryd.f21.body.getD .skip
def h21 : Hint := (sQ (sQ .none))
theorem f5F (x0 x1 x2 : Value) (w : World) (R : RT) (E : Pan) : F21 x0 x1 x2 w R E = callX Tryd.prog [.cell 6 27] c21 h21 [x0, x1, x2] w R E := by kernel_rfl
theorem f5G {x0 x1 x2 : Value} (h : F21 x0 x1 x2 w R E) : Cv Tryd.prog 21 #[x0, x1, x2] w R E := by
 refine i8 (args := [x0, x1, x2]) (c := c21) (h := h21) (rs := [.cell 6 27]) Tryd.func21 (by kernel_rfl) (by kernel_rfl) (nB (by kernel_rfl)) (by kernel_rfl) (by kernel_rfl) (by kernel_rfl) ?_
 rw [← f5F]
 exact h
def F22 (x0 : Value) (w : World) (R : RT) (E : Pan) : Prop :=
 oP E (xV (Instr.alloc 24 true (.tuple #[]))) w fun b0L w_2 =>
 oP E (xV (Instr.build 24 #[(0, (vI 2)), (2, x0)])) w_2 fun a5b w_4 =>
 oP E (sA 24 b0L a5b) w_4 fun _z_5 w_6 =>
 xcell Tryd.prog 24 b0L w_6 fun r_7 =>
 R r_7 w_6
noncomputable def c22 : Code := Tryd.f22.body.getD .skip
def h22 : Hint := (sQ (sQ .none))
theorem f5H (x0 : Value) (w : World) (R : RT) (E : Pan) : F22 x0 w R E = callX Tryd.prog [.cell 2 24] c22 h22 [x0] w R E := by kernel_rfl
theorem f5I {x0 : Value} (h : F22 x0 w R E) : Cv Tryd.prog 22 #[x0] w R E := by
 refine i8 (args := [x0]) (c := c22) (h := h22) (rs := [.cell 2 24]) Tryd.func22 (by kernel_rfl) (by kernel_rfl) (nB (by kernel_rfl)) (by kernel_rfl) (by kernel_rfl) (by kernel_rfl) ?_
 rw [← f5H]
 exact h
def F23 (x0 : Value) (w : World) (R : RT) (E : Pan) : Prop :=
 oP E (xV (Instr.alloc 24 true (.tuple #[]))) w fun b0L w_2 =>
 oP E (xBin .lss 2 (.tmp 3) (.const (vI 0)) x0 (vI 0)) w_2 fun a5b w_4 =>
 xcond a5b
 (oP E (xV (Op.unary .neg x0)) w_4 fun a3B w_6 =>
 oP E (xV (Instr.build 24 #[(0, (vI 1)), (1, a3B)])) w_6 fun b0t w_8 =>
 oP E (xV (Instr.buildSlice 22 1 #[(0, b0t)])) w_8 fun a7n o3 =>
 oP E (xV (Instr.build 24 #[(0, (vI 5)), (3, a7n)])) o3 fun a9W p8 =>
 oP E (sA 24 b0L a9W) p8 fun _z_13 o9 =>
 xcell Tryd.prog 24 b0L o9 fun d6c =>
 R d6c o9)
 (oP E (xV (Instr.build 24 #[(0, (vI 1)), (1, x0)])) w_4 fun b3w a2H =>
 oP E (sA 24 b0L b3w) a2H fun _z_18 a2U =>
 xcell Tryd.prog 24 b0L a2U fun g5F =>
 R g5F a2U)
noncomputable def c23 : Code := Tryd.f23.body.getD .skip
def h23 : Hint := (sQ (.seq (sQ (.cond (sQ .none) .none)) (sQ .none)))
theorem f5J (x0 : Value) (w : World) (R : RT) (E : Pan) : F23 x0 w R E = callX Tryd.prog [.cell 2 24] c23 h23 [x0] w R E := by kernel_rfl
theorem f5K {x0 : Value} (h : F23 x0 w R E) : Cv Tryd.prog 23 #[x0] w R E := by
 refine i8 (args := [x0]) (c := c23) (h := h23) (rs := [.cell 2 24]) Tryd.func23 (by kernel_rfl) (by kernel_rfl) (nB (by kernel_rfl)) (by kernel_rfl) (by kernel_rfl) (by kernel_rfl) ?_
 rw [← f5J]
 exact h
def F24 (x0 x1 : Value) (w : World) (R : RT) (E : Pan) : Prop :=
 oP E (xV (Instr.box 24 x1)) w fun I0 w_2 =>
 oP E (xV (Instr.alloc 63 true (.tuple #[]))) w_2 fun a5b w_4 =>
 oP E (lA 24 I0) w_4 fun a3B w_6 =>
 oP E (xV (Instr.buildSlice 22 1 #[(0, a3B)])) w_6 fun b0t w_8 =>
 oP E (xV (Instr.build 63 #[(0, (vI 1)), (1, x0), (2, b0t)])) w_8 fun a7n o3 =>
 oP E (sA 63 a5b a7n) o3 fun _z_11 p8 =>
 xcell Tryd.prog 63 a5b p8 fun g5G =>
 R g5G p8
noncomputable def c24 : Code := Tryd.f24.body.getD .skip
def h24 : Hint := (sQ (sQ .none))
theorem f5L (x0 x1 : Value) (w : World) (R : RT) (E : Pan) : F24 x0 x1 w R E = callX Tryd.prog [.cell 4 63] c24 h24 [x0, x1] w R E := by kernel_rfl
theorem f5M {x0 x1 : Value} (h : F24 x0 x1 w R E) : Cv Tryd.prog 24 #[x0, x1] w R E := by
 refine i8 (args := [x0, x1]) (c := c24) (h := h24) (rs := [.cell 4 63]) Tryd.func24 (by kernel_rfl) (by kernel_rfl) (nB (by kernel_rfl)) (by kernel_rfl) (by kernel_rfl) (by kernel_rfl) ?_
 rw [← f5L]
 exact h
def F25 (x0 x1 x2 : Value) (w : World) (R : RT) (E : Pan) : Prop :=
 oP E (xV (Instr.box 24 x1)) w fun a7m w_2 =>
 oP E (xV (Instr.box 24 x2)) w_2 fun b0w w_4 =>
 oP E (xV (Instr.alloc 24 true (.tuple #[]))) w_4 fun a3B w_6 =>
 oP E (lA 24 a7m) w_6 fun a2W w_8 =>
 oP E (lA 24 b0w) w_8 fun b0x o3 =>
 oP E (xV (Instr.buildSlice 22 2 #[(0, a2W), (1, b0x)])) o3 fun b3U p8 =>
 oP E (xV (Instr.build 24 #[(0, x0), (3, b3U)])) p8 fun a8y o9 =>
 oP E (sA 24 a3B a8y) o9 fun _z_15 q8 =>
 xcell Tryd.prog 24 a3B q8 fun d7z =>
 R d7z q8
noncomputable def c25 : Code := Tryd.f25.body.getD .skip
def h25 : Hint := (sQ (sQ .none))
theorem f5N (x0 x1 x2 : Value) (w : World) (R : RT) (E : Pan) : F25 x0 x1 x2 w R E = callX Tryd.prog [.cell 6 24] c25 h25 [x0, x1, x2] w R E := by kernel_rfl
theorem f5O {x0 x1 x2 : Value} (h : F25 x0 x1 x2 w R E) : Cv Tryd.prog 25 #[x0, x1, x2] w R E := by
 refine i8 (args := [x0, x1, x2]) (c := c25) (h := h25) (rs := [.cell 6 24]) Tryd.func25 (by kernel_rfl) (by kernel_rfl) (nB (by kernel_rfl)) (by kernel_rfl) (by kernel_rfl) (by kernel_rfl) ?_
 rw [← f5N]
 exact h
def d2P (x0 x6 x7 x8 : Value) (w : World) (next1 : NT) (R : RT) (E : Pan) : Prop :=
 oP E (xBin .lss 3 (.tmp 8) (.tmp 7) x8 x7) w fun a2T w_4 =>
 xcond a2T
 (oP E (iA 42 x6 x8) w_4 fun a1H w_6 =>
 oP E (lA 63 a1H) w_6 fun b1U w_8 =>
 oP E (xV (Instr.alloc 63 true (.tuple #[]))) w_8 fun f5P o3 =>
 oP E (sA 63 f5P b1U) o3 fun _z_11 p8 =>
 oP E (lA 63 f5P) p8 fun f5Q o9 =>
 oP E (xCall (fC 111) [x0, f5Q]) o9 fun _t14_15 q8 =>
 oP E (xBin .add 3 (.tmp 8) (.const (vI 1)) x8 (vI 1)) q8 fun f5R r7 =>
 next1 [f5R] r7)
 (R (Value.tuple #[]) w_4)
def F82 (x0 x1 : Value) (w : World) (R : RT) (E : Pan) : Prop :=
 oP E (xBuiltin .len #[42] 3 [false] [x1]) w fun a2V w_2 =>
 xloop [8] [(vI 0)] w_2 fun τ_19 r9 next1 =>
 d2P x0 x1 a2V (τ_19 8) r9 next1 R E
noncomputable def c82 : Code := Tryd.f82.body.getD .skip
def h82 : Hint := (sQ (.block (.loop [8] (sQ (.seq (.cond .none .none) (.seq (.block (sQ .none)) .none))))))
theorem f5S (x0 x1 : Value) (w : World) (R : RT) (E : Pan) : F82 x0 x1 w R E = callX Tryd.prog [] c82 h82 [x0, x1] w R E := by kernel_rfl
theorem f5T {x0 x1 : Value} (h : F82 x0 x1 w R E) : Cv Tryd.prog 82 #[x0, x1] w R E := by
 refine i8 (args := [x0, x1]) (c := c82) (h := h82) (rs := []) Tryd.func82 (by kernel_rfl) (by kernel_rfl) (nB (by kernel_rfl)) (by kernel_rfl) (by kernel_rfl) (by kernel_rfl) ?_
 rw [← f5S]
 exact h
def c0J (x0 x3 x4 : Value) (w : World) (R : RT) (E : Pan) : Prop :=
 ∀ _τ : Fr, (dX w fun a3F =>
 qP Tryd.prog (xNil x0) fun f5U =>
 qP Tryd.prog (fA 90 f5U 4) fun d2Q =>
 qP Tryd.prog (fA 63 x3 1) fun d2R =>
 qL Tryd.prog a3F (blk d2Q) (lA 87 d2Q) fun d2S =>
 qL Tryd.prog a3F (blk d2R) (lA 9 d2R) fun f5V =>
 qL Tryd.prog a3F (blk d2S) (xV (Instr.lookup 87 d2S f5V false)) fun f5W =>
 qP Tryd.prog (xNil f5W) fun f5X =>
 oP E (sA 2 f5X x4) a3F fun _z_31 C3 =>
 keepX [] a3F C3 (R (Value.tuple #[]) C3))
def c7s (x0 x3 : Value) (w : World) (next2 : NT) (R : RT) (E : Pan) : Prop :=
 oP E (fA 63 x3 3) w fun e4Q W2 =>
 oP E (lA 25 e4Q) W2 fun e4R a1l =>
 oP E (iA 25 e4R (vI 0)) a1l fun e4S a3K =>
 oP E (lA 27 e4S) a3K fun e4T a0O =>
 oP E (xCall (fC 134) [x0, e4T]) a0O fun e4U T2 =>
 xcond e4U
 (oP E (fA 63 x3 4) T2 fun e4V W3 =>
 oP E (lA 42 e4V) W3 fun e4W a2b =>
 oP E (xCall (fC 82) [x0, e4W]) a2b fun _t90_119 S0 =>
 next2 [] S0)
 (R (Value.tuple #[]) T2)
def d7A (x0 x1 : Value) (w : World) (R : RT) (E : Pan) : Prop :=
 oP E (xV (Instr.box 63 x1)) w fun I0 w_2 =>
 oP E (fA 63 I0 0) w_2 fun a2T w_4 =>
 oP E (lA 3 a2T) w_4 fun a1H w_6 =>
 oP E (xBin .eql 3 (.tmp 10) (.const (vI 1)) a1H (vI 1)) w_6 fun U2 w_8 =>
 xcond U2
 (oP E (fA 63 I0 2) w_8 fun b8x o3 =>
 oP E (lA 22 b8x) o3 fun b4k p8 =>
 oP E (iA 22 b4k (vI 0)) p8 fun a8s o9 =>
 oP E (lA 24 a8s) o9 fun c3a q8 =>
 oP E (xCall (fC 130) [x0, c3a]) q8 fun b0V r7 =>
 oP E (eX b0V 0) r7 fun c5F r9 =>
 oP E (eX b0V 1) r9 fun c5G t8 =>
 xcut (fun c4q D1 => c0J x0 I0 (nth c4q 0) D1 R E) fun j1 =>
 xcond c5G
 (oP E (xCall (fC 131) [x0]) t8 fun _t26_35 G3 =>
 j1 [c5F] G3)
 (oP E (fA 63 I0 2) t8 fun c4z D9 =>
 oP E (lA 22 c4z) D9 fun b3H E2 =>
 oP E (iA 22 b3H (vI 0)) E2 fun c3o G9 =>
 oP E (lA 24 c3o) G9 fun c3p G4 =>
 oP E (xCall (fC 132) [x0, c3p]) G4 fun c3q K5 =>
 j1 [c3q] K5))
 (oP E (xBin .eql 3 (.tmp 10) (.const (vI 2)) a1H (vI 2)) w_8 fun f5Y L3 =>
 xcond f5Y
 (oP E (fA 63 I0 2) L3 fun f5Z J9 =>
 oP E (lA 22 f5Z) J9 fun f6a E6 =>
 oP E (iA 22 f6a (vI 0)) E6 fun f6b N1 =>
 oP E (lA 24 f6b) N1 fun f6c N2 =>
 oP E (xCall (fC 132) [x0, f6c]) N2 fun c4K L6 =>
 oP E (fA 63 I0 2) L6 fun f6d P2 =>
 oP E (lA 22 f6d) P2 fun f6e L8 =>
 oP E (iA 22 f6e (vI 1)) L8 fun f6f N9 =>
 oP E (lA 24 f6f) N9 fun c4M P3 =>
 oP E (xCall (fC 132) [x0, c4M]) P3 fun b8K O0 =>
 oP E (fA 63 I0 1) O0 fun f6g M9 =>
 oP E (lA 9 f6g) M9 fun f6h O1 =>
 oP E (xCall (fC 133) [x0, f6h, c4K]) O1 fun f6i R5 =>
 oP E (xNil f6i) R5 fun f6j T1 =>
 oP E (sA 2 f6j b8K) T1 fun _z_77 N3 =>
 R (Value.tuple #[]) N3)
 (oP E (xBin .eql 3 (.tmp 10) (.const (vI 3)) a1H (vI 3)) L3 fun f6k T7 =>
 xcond f6k
 (oP E (fA 63 I0 3) T7 fun b4D P4 =>
 oP E (lA 25 b4D) P4 fun b4E Q2 =>
 oP E (iA 25 b4E (vI 0)) Q2 fun b4F T8 =>
 oP E (lA 27 b4F) T8 fun b4G N4 =>
 oP E (xCall (fC 134) [x0, b4G]) N4 fun f6l a0d =>
 xcond f6l
 (oP E (fA 63 I0 4) a0d fun f6m a0J =>
 oP E (lA 42 f6m) a0J fun f6n a1k =>
 oP E (xCall (fC 82) [x0, f6n]) a1k fun _t74_95 a0K =>
 R (Value.tuple #[]) a0K)
 (oP E (fA 63 I0 5) a0d fun f6o a0L =>
 oP E (lA 42 f6o) a0L fun f6p U9 =>
 oP E (xCall (fC 82) [x0, f6p]) U9 fun _t78_101 M6 =>
 R (Value.tuple #[]) M6))
 (oP E (xBin .eql 3 (.tmp 10) (.const (vI 4)) a1H (vI 4)) T7 fun e4X P8 =>
 xcond e4X
 (xloop [] [] P8 fun _ a1m next2 =>
 c7s x0 I0 a1m next2 R E)
 (oP E (xBin .eql 3 (.tmp 10) (.const (vI 6)) a1H (vI 6)) P8 fun e4Y a4V =>
 xcond e4Y
 (oP E (fA 63 I0 3) a4V fun e4Z a5V =>
 oP E (lA 25 e4Z) a5V fun e5a a4W =>
 oP E (iA 25 e5a (vI 0)) a4W fun e5b a5W =>
 oP E (lA 27 e5b) a5W fun e5c a2X =>
 oP E (xCall (fC 134) [x0, e5c]) a2X fun e5d a2Y =>
 oP E (xV (Op.unary .not e5d)) a2Y fun e5e a4m =>
 xcond e5e
 (oP E (xCall (fC 135) [x0, (vI 2), (vI 0)]) a4m fun _t101_137 a5T =>
 R (Value.tuple #[]) a5T)
 (R (Value.tuple #[]) a4m))
 (oP E (xBin .eql 3 (.tmp 10) (.const (vI 5)) a1H (vI 5)) a4V fun d7B a6P =>
 xcond d7B
 (oP E (fA 63 I0 3) a6P fun d7C a7J =>
 oP E (lA 25 d7C) a7J fun d7D a6Q =>
 oP E (iA 25 d7D (vI 0)) a6Q fun d7E b1X =>
 oP E (lA 27 d7E) b1X fun d7F a9X =>
 oP E (xCall (fC 134) [x0, d7F]) a9X fun c5H b1Y =>
 oP E (xCall (fC 131) [x0]) b1Y fun _t111_151 b8i =>
 oP E (xNil x0) b8i fun d7G b8n =>
 oP E (fA 90 d7G 3) b8n fun d7H b5h =>
 oP E (lA 46 d7H) b5h fun d7I b8o =>
 oP E (xV (Instr.build 55 #[(2, c5H)])) b8o fun d7J c9D =>
 oP E (xV (Instr.buildSlice 46 1 #[(0, d7J)])) c9D fun d7K c9E =>
 oP E (xBuiltin .append #[46, 46] 46 [false, false] [d7I, d7K]) c9E fun d7L c9F =>
 oP E (xNil x0) c9F fun d7M c9G =>
 oP E (fA 90 d7M 3) c9G fun d7N a7P =>
 oP E (sA 46 d7N d7L) a7P fun _z_169 c9H =>
 oP E (xV (Op.unary .not c5H)) c9H fun d7O c1O =>
 xcond d7O
 (oP E (xCall (fC 136) [x0, (vI 4)]) c1O fun _t126_173 c9I =>
 R (Value.tuple #[]) c9I)
 (R (Value.tuple #[]) c1O))
 (oP E (xCall (fC 131) [x0]) a6P fun _t12_175 c9J =>
 R (Value.tuple #[]) c9J))))))
noncomputable def f6q : Code := Tryd.f111.body.getD .skip
def f6r : Hint := (sQ (sQ (.block (sQ (.cond (sQ (.cut [4] (sQ (.cond .none .none)) (.reg [(0, 8589934592, 1), (1, 17179869184, 8589934592), (2, 34359738368, 17179869184), (4, 68719476736, 34359738368), (0, 137438953472, 8), (16, 274877906944, 137438953472), (40, 549755813888, 343597383680), (0, 1099511627776, 16), (255, 2199023255552, 549755813888), (511, 0, 3298534883328)] [104, 104, 104, 96, 104, 72, 40, 104, 104, 0] (.early 0 (.early 1 (.early 2 (.early 4 (.early 7 (.load 3 (.load 5 (.load 6 (.early 8 (.step 9 .done))))))))))))) (sQ (.cond (sQ (sQ .none)) (sQ (.cond (sQ (.cond .none .none)) (sQ (.cond (.block (.loop [] (.seq (sQ (.cond .none .none)) (.block .none)))) (sQ (.cond (sQ (.cond .none .none)) (sQ (.cond (sQ (sQ (sQ (sQ (.cond .none .none))))) .none)))))))))))))))
theorem e5f (x0 x1 : Value) (w : World) (R : RT) (E : Pan) : d7A x0 x1 w R E = callX Tryd.prog [] f6q f6r [x0, x1] w R E := by kernel_rfl
theorem e5g {x0 x1 : Value} (h : d7A x0 x1 w R E) : Cv Tryd.prog 111 #[x0, x1] w R E := by
 refine i8 (args := [x0, x1]) (c := f6q) (h := f6r) (rs := []) Tryd.func111 (by kernel_rfl) (by kernel_rfl) (nB (by kernel_rfl)) (by kernel_rfl) (by kernel_rfl) (by kernel_rfl) ?_
 rw [← e5f]
 exact h
def d7P (x0 x1 : Value) (w : World) (R : RT) (E : Pan) : Prop :=
 oP E (xV (Instr.box 24 x1)) w fun I0 w_2 =>
 oP E (fA 24 I0 0) w_2 fun a3E w_4 =>
 oP E (lA 3 a3E) w_4 fun a8v w_6 =>
 oP E (xBin .eql 3 (.tmp 7) (.const (vI 2)) a8v (vI 2)) w_6 fun a2W w_8 =>
 xcond a2W
 (dX w_8 fun w_9 =>
 qP Tryd.prog (xNil x0) fun f6s =>
 qP Tryd.prog (fA 90 f6s 4) fun a6W =>
 qP Tryd.prog (fA 24 I0 2) fun d2T =>
 qL Tryd.prog w_9 (blk a6W) (lA 87 a6W) fun a6X =>
 qL Tryd.prog w_9 (blk d2T) (lA 9 d2T) fun f6t =>
 qL Tryd.prog w_9 (blk a6X) (xV (Instr.lookup 87 a6X f6t false)) fun c5I =>
 qP Tryd.prog (xNil c5I) fun d2U =>
 qL Tryd.prog w_9 (blk d2U) (lA 2 d2U) fun a5L =>
 R (Value.tuple #[a5L, (vB true)]) w_9)
 (oP E (lA 24 I0) w_8 fun f6u a2U =>
 oP E (xCall (fC 146) [f6u]) a2U fun d2V a2k =>
 oP E (eX d2V 0) a2k fun f6v a3F =>
 oP E (eX d2V 1) a3F fun f6w b1R =>
 R (Value.tuple #[f6v, f6w]) b1R)
noncomputable def f6x : Code := Tryd.f130.body.getD .skip
def f6y : Hint := (sQ (.seq (sQ (.cond (.seq (.reg [(0, 512, 1), (1, 1024, 512), (2, 2048, 1024), (4, 4096, 2048), (0, 8192, 8), (16, 16384, 8192), (40, 32768, 20480), (64, 65536, 32768), (128, 131072, 65536), (511, 16, 131072), (1023, 32, 0)] [360, 360, 360, 352, 360, 328, 296, 360, 104, 360, 360] (.early 0 (.early 1 (.early 2 (.early 4 (.load 3 (.load 5 (.load 6 (.early 7 (.load 8 (.early 9 (.early 10 .done)))))))))))) .none) .none)) (sQ .none)))
theorem e5h (x0 x1 : Value) (w : World) (R : RT) (E : Pan) : d7P x0 x1 w R E = callX Tryd.prog [.tmp 4, .tmp 5] f6x f6y [x0, x1] w R E := by kernel_rfl
theorem e5i {x0 x1 : Value} (h : d7P x0 x1 w R E) : Cv Tryd.prog 130 #[x0, x1] w R E := by
 refine i8 (args := [x0, x1]) (c := f6x) (h := f6y) (rs := [.tmp 4, .tmp 5]) Tryd.func130 (by kernel_rfl) (by kernel_rfl) (nB (by kernel_rfl)) (by kernel_rfl) (by kernel_rfl) (by kernel_rfl) ?_
 rw [← e5h]
 exact h
def c7t (x0 : Value) (w : World) (R : RT) (E : Pan) : Prop :=
 ∀ _τ : Fr, (oP E (xNil x0) w fun b5d w_2 =>
 oP E (fA 90 b5d 0) w_2 fun a1j w_4 =>
 oP E (lA 3 a1j) w_4 fun a5O w_6 =>
 oP E (xBin .sub 3 (.tmp 12) (.const (vI 1)) a5O (vI 1)) w_6 fun a5P w_8 =>
 oP E (xNil x0) w_8 fun a4l o3 =>
 oP E (fA 90 a4l 0) o3 fun a5Q p8 =>
 oP E (sA 3 a5Q a5P) p8 fun _z_13 o9 =>
 oP E (xNil x0) o9 fun a2I q8 =>
 oP E (fA 90 a2I 1) q8 fun b3B r7 =>
 oP E (lA 3 b3B) r7 fun c2R r9 =>
 oP E (xBin .add 3 (.tmp 19) (.const (vI 1)) c2R (vI 1)) r9 fun c2S t8 =>
 oP E (xNil x0) t8 fun c5J v6 =>
 oP E (fA 90 c5J 1) v6 fun b3z A9 =>
 oP E (sA 3 b3z c2S) A9 fun _z_27 C7 =>
 R (Value.tuple #[]) C7)
def d7Q (x0 : Value) (w : World) (R : RT) (E : Pan) : Prop :=
 xcut (fun _ D8 => c7t x0 D8 R E) fun j1 =>
 oP E (xNil x0) w fun g1S C3 =>
 oP E (fA 90 g1S 0) C3 fun g1T D1 =>
 oP E (lA 3 g1T) D1 fun g1U G3 =>
 oP E (xBin .eql 3 (.tmp 5) (.const (vI 0)) g1U (vI 0)) G3 fun g1V D9 =>
 xcond g1V
 (oP E (xCall (fC 135) [x0, (vI 1), (vI 0)]) D9 fun _t8_39 E2 =>
 j1 [] E2)
 (j1 [] D9)
noncomputable def f6z : Code := Tryd.f131.body.getD .skip
def f6A : Hint := (.cut [] (sQ (.cond .none .none)) (sQ .none))
theorem e5j (x0 : Value) (w : World) (R : RT) (E : Pan) : d7Q x0 w R E = callX Tryd.prog [] f6z f6A [x0] w R E := by kernel_rfl
theorem e5k {x0 : Value} (h : d7Q x0 w R E) : Cv Tryd.prog 131 #[x0] w R E := by
 refine i8 (args := [x0]) (c := f6z) (h := f6A) (rs := []) Tryd.func131 (by kernel_rfl) (by kernel_rfl) (nB (by kernel_rfl)) (by kernel_rfl) (by kernel_rfl) (by kernel_rfl) ?_
 rw [← e5j]
 exact h
def c0K (x0 x3 x7 : Value) (w : World) (R : RT) (E : Pan) : Prop :=
 ∀ _τ : Fr, (oP E (fA 24 x3 0) w fun f6B p8 =>
 oP E (lA 3 f6B) p8 fun b7V o9 =>
 oP E (xBin .eql 3 (.tmp 33) (.const (vI 3)) b7V (vI 3)) o9 fun f6C q8 =>
 xcond f6C
 (oP E (xCall (fC 147) [x0]) q8 fun f6D r7 =>
 R f6D r7)
 (oP E (xBin .eql 3 (.tmp 33) (.const (vI 4)) b7V (vI 4)) q8 fun f6E r9 =>
 xcond f6E
 (dX r9 fun a2k =>
 qP Tryd.prog (fA 24 x3 2) fun d2W =>
 qP Tryd.prog (iA 45 x7 (vI 0)) fun d2X =>
 qL Tryd.prog a2k (blk d2W) (lA 9 d2W) fun f6F =>
 qL Tryd.prog a2k (blk d2X) (lA 2 d2X) fun f6G =>
 oP E (xCall (fC 133) [x0, f6F, f6G]) a2k fun f6H a3N =>
 keepX [] a2k a3N (qP Tryd.prog (xNil f6H) fun d2Y =>
 qL Tryd.prog a3N (blk d2Y) (lA 2 d2Y) fun f6I =>
 R f6I a3N))
 (oP E (xCall (fC 131) [x0]) r9 fun _t50_30 c5E =>
 oP E (fA 24 x3 0) c5E fun f6J d7y =>
 oP E (lA 3 f6J) d7y fun b4H b0C =>
 oP E (xBin .eql 3 (.tmp 52) (.const (vI 5)) b4H (vI 5)) b0C fun f6K d4E =>
 xcond f6K
 (oP E (iA 45 x7 (vI 0)) d4E fun f6L d4L =>
 oP E (lA 2 f6L) d4L fun f6M b9H =>
 oP E (xCall (fC 101) [f6M]) b9H fun d2Z b6x =>
 oP E (eX d2Z 0) b6x fun f6N b0v =>
 oP E (eX d2Z 1) b0v fun f6O b3I =>
 oP E (xCall (fC 148) [x0, f6N, f6O]) b3I fun f6P b1T =>
 R f6P b1T)
 (oP E (xBin .eql 3 (.tmp 52) (.const (vI 6)) b4H (vI 6)) d4E fun f6Q c0L =>
 xcond f6Q
 (dX c0L fun E6 =>
 qP Tryd.prog (iA 45 x7 (vI 0)) fun d3a =>
 qP Tryd.prog (iA 45 x7 (vI 1)) fun d3b =>
 qL Tryd.prog E6 (blk d3a) (lA 2 d3a) fun f6R =>
 qL Tryd.prog E6 (blk d3b) (lA 2 d3b) fun f6S =>
 oP E (xCall (fC 26) [f6R, f6S]) E6 fun d3c L6 =>
 keepX [] E6 L6 (qP Tryd.prog (eX d3c 0) fun f6T =>
 qP Tryd.prog (eX d3c 1) fun f6U =>
 oP E (xCall (fC 148) [x0, f6T, f6U]) L6 fun f6V L8 =>
 keepX [] L6 L8 (R f6V L8)))
 (oP E (xBin .eql 3 (.tmp 52) (.const (vI 7)) b4H (vI 7)) c0L fun f6W N9 =>
 xcond f6W
 (dX N9 fun b6C =>
 qP Tryd.prog (iA 45 x7 (vI 0)) fun d3d =>
 qP Tryd.prog (iA 45 x7 (vI 1)) fun d3e =>
 qL Tryd.prog b6C (blk d3d) (lA 2 d3d) fun f6X =>
 qL Tryd.prog b6C (blk d3e) (lA 2 d3e) fun f6Y =>
 oP E (xCall (fC 27) [f6X, f6Y]) b6C fun d3f d7R =>
 keepX [] b6C d7R (qP Tryd.prog (eX d3f 0) fun f6Z =>
 qP Tryd.prog (eX d3f 1) fun f7a =>
 oP E (xCall (fC 148) [x0, f6Z, f7a]) d7R fun f7b d7S =>
 keepX [] d7R d7S (R f7b d7S)))
 (oP E (xBin .eql 3 (.tmp 52) (.const (vI 8)) b4H (vI 8)) N9 fun f7c b2P =>
 xcond f7c
 (dX b2P fun N3 =>
 qP Tryd.prog (iA 45 x7 (vI 0)) fun d3g =>
 qP Tryd.prog (iA 45 x7 (vI 1)) fun d3h =>
 qL Tryd.prog N3 (blk d3g) (lA 2 d3g) fun f7d =>
 qL Tryd.prog N3 (blk d3h) (lA 2 d3h) fun f7e =>
 oP E (xCall (fC 28) [f7d, f7e]) N3 fun d3i Q2 =>
 keepX [] N3 Q2 (qP Tryd.prog (eX d3i 0) fun f7f =>
 qP Tryd.prog (eX d3i 1) fun e5l =>
 oP E (xCall (fC 148) [x0, f7f, e5l]) Q2 fun e5m N4 =>
 keepX [] Q2 N4 (R e5m N4)))
 (oP E (xBin .eql 3 (.tmp 52) (.const (vI 9)) b4H (vI 9)) b2P fun e5n a0d =>
 xcond e5n
 (dX a0d fun b4B =>
 qP Tryd.prog (iA 45 x7 (vI 0)) fun c7u =>
 qP Tryd.prog (iA 45 x7 (vI 1)) fun b5G =>
 qL Tryd.prog b4B (blk c7u) (lA 2 c7u) fun e5o =>
 qL Tryd.prog b4B (blk b5G) (lA 2 b5G) fun a4t =>
 oP E (xCall (fC 29) [e5o, a4t]) b4B fun c7v a7u =>
 keepX [] b4B a7u (qP Tryd.prog (eX c7v 0) fun e5p =>
 qP Tryd.prog (eX c7v 1) fun c0C =>
 oP E (xCall (fC 148) [x0, e5p, c0C]) a7u fun d7T c2c =>
 keepX [] a7u c2c (R d7T c2c)))
 (dX a0d fun M6 =>
 qP Tryd.prog (iA 45 x7 (vI 0)) fun c5K =>
 qP Tryd.prog (iA 45 x7 (vI 1)) fun c5L =>
 qL Tryd.prog M6 (blk c5K) (lA 2 c5K) fun d7U =>
 qL Tryd.prog M6 (blk c5L) (lA 2 c5L) fun d7V =>
 oP E (xCall (fC 30) [d7U, d7V]) M6 fun c5M a1l =>
 keepX [] M6 a1l (qP Tryd.prog (eX c5M 0) fun d7W =>
 qP Tryd.prog (eX c5M 1) fun d7X =>
 oP E (xCall (fC 148) [x0, d7W, d7X]) a1l fun d7Y a0O =>
 keepX [] a1l a0O (R d7Y a0O))))))))))
def c7w (x0 _x3 x7 x19 x20 x21 : Value) (w : World) (next2 : NT) (j1 : NT) (_R : RT) (E : Pan) : Prop :=
 oP E (xBin .lss 3 (.tmp 21) (.tmp 20) x21 x20) w fun e5q a1m =>
 xcond e5q
 (oP E (iA 22 x19 x21) a1m fun e5r a4V =>
 oP E (lA 24 e5r) a4V fun e5s a5V =>
 oP E (xV (Instr.alloc 24 true (.tuple #[]))) a5V fun d3j a4W =>
 oP E (sA 24 d3j e5s) a4W fun _z_129 a5W =>
 oP E (lA 24 d3j) a5W fun e5t a2X =>
 oP E (xCall (fC 132) [x0, e5t]) a2X fun e5u a2Y =>
 oP E (xV (Instr.buildSlice 45 1 #[(0, e5u)])) a2Y fun e5v a4m =>
 oP E (xBuiltin .append #[45, 45] 45 [false, false] [x7, e5v]) a4m fun e5w a5T =>
 oP E (xBin .add 3 (.tmp 21) (.const (vI 1)) x21 (vI 1)) a5T fun e5x a6P =>
 next2 [e5w, e5x] a6P)
 (j1 [x7] a1m)
def d7Z (x0 x1 : Value) (w : World) (R : RT) (E : Pan) : Prop :=
 oP E (xV (Instr.box 24 x1)) w fun I0 w_2 =>
 oP E (lA 24 I0) w_2 fun d0m w_4 =>
 oP E (xCall (fC 130) [x0, d0m]) w_4 fun a4r w_6 =>
 oP E (eX a4r 0) w_6 fun U2 w_8 =>
 oP E (eX a4r 1) w_8 fun a4U o3 =>
 xcond a4U
 (R U2 o3)
 (xcut (fun g1W T2 => c0K x0 I0 (nth g1W 0) T2 R E) fun j1 =>
 oP E (fA 24 I0 3) o3 fun e5y W3 =>
 oP E (lA 22 e5y) W3 fun c7x a2b =>
 oP E (xBuiltin .len #[22] 3 [false] [c7x]) a2b fun e5z S0 =>
 xloop [7, 21] [(nS), (vI 0)] S0 fun τ_141 a7J next2 =>
 c7w x0 I0 (τ_141 7) c7x e5z (τ_141 21) a7J next2 j1 R E)
noncomputable def f7g : Code := Tryd.f132.body.getD .skip
def f7h : Hint := (sQ (.seq (sQ (sQ (.cond (sQ .none) .none))) (sQ (.cut [7] (sQ (.block (.loop [7, 21] (sQ (.seq (.cond .none .none) (.seq (.block (sQ .none)) .none)))))) (.seq (sQ (.block (sQ (.cond (sQ .none) (sQ (.cond (.seq (.reg [(0, 1099511627776, 1), (0, 2199023255552, 8), (2, 4398046511104, 2199023255552), (0, 8796093022208, 128), (8, 17592186044416, 8796093022208), (16, 35184372088832, 17592186044416), (37, 70368744177664, 40681930227712), (64, 140737488355328, 70368744177664), (128, 281474976710656, 140737488355328), (511, 16, 281474976710656)] [292, 292, 288, 292, 292, 260, 0, 292, 36, 292] (.early 0 (.early 1 (.early 3 (.early 4 (.load 2 (.load 5 (.step 6 (.early 7 (.load 8 (.early 9 .done))))))))))) .none) .none)))))) (sQ (.seq (sQ (.block (sQ (.cond (sQ .none) (sQ (.cond (.seq (.reg [(0, 36893488147419103232, 1), (0, 73786976294838206464, 128), (2, 147573952589676412928, 73786976294838206464), (4, 295147905179352825856, 147573952589676412928), (0, 590295810358705651712, 128), (16, 1180591620717411303424, 590295810358705651712), (32, 2361183241434822606848, 1180591620717411303424), (72, 4722366482869645213696, 2656331146614175432704), (128, 9444732965739290427392, 4722366482869645213696), (128, 18889465931478580854784, 4722366482869645213696), (897, 37778931862957161709568, 28371092385365290385408), (2047, 16, 37778931862957161709568)] [72, 72, 72, 64, 72, 72, 8, 0, 72, 72, 0, 72] (.early 0 (.early 1 (.early 2 (.early 4 (.early 5 (.load 3 (.load 6 (.step 7 (.early 8 (.early 9 (.step 10 (.early 11 .done))))))))))))) .none) (sQ (.cond (.seq (.reg [(0, 302231454903657293676544, 1), (0, 604462909807314587353088, 128), (2, 1208925819614629174706176, 604462909807314587353088), (4, 2417851639229258349412352, 1208925819614629174706176), (0, 4835703278458516698824704, 128), (16, 9671406556917033397649408, 4835703278458516698824704), (32, 19342813113834066795298816, 9671406556917033397649408), (72, 38685626227668133590597632, 21760664753063325144711168), (128, 77371252455336267181195264, 38685626227668133590597632), (128, 154742504910672534362390528, 38685626227668133590597632), (897, 309485009821345068724781056, 232415988820912458837262336), (2047, 16, 309485009821345068724781056)] [72, 72, 72, 64, 72, 72, 8, 0, 72, 72, 0, 72] (.early 0 (.early 1 (.early 2 (.early 4 (.early 5 (.load 3 (.load 6 (.step 7 (.early 8 (.early 9 (.step 10 (.early 11 .done))))))))))))) .none) (sQ (.cond (.seq (.reg [(0, 2475880078570760549798248448, 1), (0, 4951760157141521099596496896, 128), (2, 9903520314283042199192993792, 4951760157141521099596496896), (4, 19807040628566084398385987584, 9903520314283042199192993792), (0, 39614081257132168796771975168, 128), (16, 79228162514264337593543950336, 39614081257132168796771975168), (32, 158456325028528675187087900672, 79228162514264337593543950336), (72, 316912650057057350374175801344, 178263365657094759585473888256), (128, 633825300114114700748351602688, 316912650057057350374175801344), (128, 1267650600228229401496703205376, 316912650057057350374175801344), (897, 2535301200456458802993406410752, 1903951780420914862794853056512), (2047, 16, 2535301200456458802993406410752)] [72, 72, 72, 64, 72, 72, 8, 0, 72, 72, 0, 72] (.early 0 (.early 1 (.early 2 (.early 4 (.early 5 (.load 3 (.load 6 (.step 7 (.early 8 (.early 9 (.step 10 (.early 11 .done))))))))))))) .none) (sQ (.cond (.seq (.reg [(0, 20282409603651670423947251286016, 1), (0, 40564819207303340847894502572032, 128), (2, 81129638414606681695789005144064, 40564819207303340847894502572032), (4, 162259276829213363391578010288128, 81129638414606681695789005144064), (0, 324518553658426726783156020576256, 128), (16, 649037107316853453566312041152512, 324518553658426726783156020576256), (32, 1298074214633706907132624082305024, 649037107316853453566312041152512), (72, 2596148429267413814265248164610048, 1460333491462920270524202092593152), (128, 5192296858534827628530496329220096, 2596148429267413814265248164610048), (128, 10384593717069655257060992658440192, 2596148429267413814265248164610048), (897, 20769187434139310514121985316880384, 15597172985208134556015436238946304), (2047, 16, 20769187434139310514121985316880384)] [72, 72, 72, 64, 72, 72, 8, 0, 72, 72, 0, 72] (.early 0 (.early 1 (.early 2 (.early 4 (.early 5 (.load 3 (.load 6 (.step 7 (.early 8 (.early 9 (.step 10 (.early 11 .done))))))))))))) .none) .none)))))))))))) (.seq (.reg [(0, 41538374868278621028243970633760768, 1), (0, 83076749736557242056487941267521536, 128), (2, 166153499473114484112975882535043072, 83076749736557242056487941267521536), (4, 332306998946228968225951765070086144, 166153499473114484112975882535043072), (0, 664613997892457936451903530140172288, 128), (16, 1329227995784915872903807060280344576, 664613997892457936451903530140172288), (32, 2658455991569831745807614120560689152, 1329227995784915872903807060280344576), (72, 5316911983139663491615228241121378304, 2990762990516060714033565885630775296), (128, 10633823966279326983230456482242756608, 5316911983139663491615228241121378304), (128, 21267647932558653966460912964485513216, 5316911983139663491615228241121378304), (897, 42535295865117307932921825928971026432, 31943010273706259570719613417362030592), (2047, 16, 42535295865117307932921825928971026432)] [72, 72, 72, 64, 72, 72, 8, 0, 72, 72, 0, 72] (.early 0 (.early 1 (.early 2 (.early 4 (.early 5 (.load 3 (.load 6 (.step 7 (.early 8 (.early 9 (.step 10 (.early 11 .done))))))))))))) .none))))))))
theorem e5A (x0 x1 : Value) (w : World) (R : RT) (E : Pan) : d7Z x0 x1 w R E = callX Tryd.prog [.tmp 4] f7g f7h [x0, x1] w R E := by kernel_rfl
theorem e5B {x0 x1 : Value} (h : d7Z x0 x1 w R E) : Cv Tryd.prog 132 #[x0, x1] w R E := by
 refine i8 (args := [x0, x1]) (c := f7g) (h := f7h) (rs := [.tmp 4]) Tryd.func132 (by kernel_rfl) (by kernel_rfl) (nB (by kernel_rfl)) (by kernel_rfl) (by kernel_rfl) (by kernel_rfl) ?_
 rw [← e5A]
 exact h
def c7y (x2 x7 : Value) (w : World) (R : RT) (E : Pan) : Prop :=
 ∀ _τ : Fr, (oP E (iA 45 x7 x2) w fun f7i p8 =>
 R f7i p8)
def d8a (x0 x1 x2 : Value) (w : World) (R : RT) (E : Pan) : Prop :=
 oP E (xCall (fC 131) [x0]) w fun _t9_1 w_2 =>
 oP E (xNil x0) w_2 fun a1j w_4 =>
 oP E (fA 90 a1j 5) w_4 fun a5O w_6 =>
 oP E (lA 88 a5O) w_6 fun a5P w_8 =>
 oP E (xV (Instr.lookup 88 a5P x1 false)) w_8 fun a4U o3 =>
 xcut (fun _ o9 => c7y x2 a4U o9 R E) fun j1 =>
 oP E (xBin .lss 2 (.tmp 16) (.const (vI 0)) x2 (vI 0)) o3 fun a2I q8 =>
 oP E (gsem (asB a2I) false (xBuiltin .len #[45] 3 [false] [(gval (asB a2I) false a4U)])) q8 fun b0V r7 =>
 oP E (gsem (asB a2I) false (xBin .geq 2 (.tmp 19) (.tmp 21) (gval (asB a2I) false x2) b0V)) r7 fun c5F r9 =>
 oP E (xPick a2I (vB true) c5F) r9 fun c5G t8 =>
 xcond c5G
 (oP E (xCall (fC 136) [x0, (vI 3)]) t8 fun _t25_23 v6 =>
 j1 [] v6)
 (j1 [] t8)
noncomputable def f7j : Code := Tryd.f133.body.getD .skip
def f7k : Hint := (sQ (sQ (sQ (.cut [] (sQ (.cond .none .none)) (sQ .none)))))
theorem e5C (x0 x1 x2 : Value) (w : World) (R : RT) (E : Pan) : d8a x0 x1 x2 w R E = callX Tryd.prog [.tmp 6] f7j f7k [x0, x1, x2] w R E := by kernel_rfl
theorem e5D {x0 x1 x2 : Value} (h : d8a x0 x1 x2 w R E) : Cv Tryd.prog 133 #[x0, x1, x2] w R E := by
 refine i8 (args := [x0, x1, x2]) (c := f7j) (h := f7k) (rs := [.tmp 6]) Tryd.func133 (by kernel_rfl) (by kernel_rfl) (nB (by kernel_rfl)) (by kernel_rfl) (by kernel_rfl) (by kernel_rfl) ?_
 rw [← e5C]
 exact h
def d8b (x0 x1 : Value) (w : World) (R : RT) (E : Pan) : Prop :=
 oP E (xV (Instr.box 27 x1)) w fun I0 w_2 =>
 oP E (fA 27 I0 0) w_2 fun a8n w_4 =>
 oP E (lA 3 a8n) w_4 fun c0w w_6 =>
 oP E (xBin .eql 3 (.tmp 8) (.const (vI 4)) c0w (vI 4)) w_6 fun g1X w_8 =>
 xcond g1X
 (oP E (fA 27 I0 3) w_8 fun b5i o3 =>
 oP E (lA 25 b5i) o3 fun f7l p8 =>
 oP E (iA 25 f7l (vI 0)) p8 fun f7m o9 =>
 oP E (lA 27 f7m) o9 fun c5I q8 =>
 oP E (xCall (fC 134) [x0, c5I]) q8 fun f7n r7 =>
 oP E (xV (Op.unary .not f7n)) r7 fun f7o r9 =>
 R f7o r9)
 (oP E (xBin .eql 3 (.tmp 8) (.const (vI 5)) c0w (vI 5)) w_8 fun a5M t8 =>
 xcond a5M
 (oP E (fA 27 I0 3) t8 fun c5J v6 =>
 oP E (lA 25 c5J) v6 fun b3z A9 =>
 oP E (iA 25 b3z (vI 0)) A9 fun b4j C7 =>
 oP E (lA 27 b4j) C7 fun c5N D8 =>
 oP E (xCall (fC 134) [x0, c5N]) D8 fun a9t C3 =>
 oP E (gsem (asB a9t) true (fA 27 I0 3)) C3 fun c2U D1 =>
 oP E (gsem (asB a9t) true (lA 25 c2U)) D1 fun f7p G3 =>
 oP E (gsem (asB a9t) true (iA 25 f7p (vI 1))) G3 fun f7q D9 =>
 oP E (gsem (asB a9t) true (lA 27 f7q)) D9 fun f7r E2 =>
 oP E (gsem (asB a9t) true (xCall (fC 134) [(gval (asB a9t) true x0), f7r])) E2 fun f7s G9 =>
 oP E (xPick a9t f7s (vB false)) G9 fun f7t G4 =>
 R f7t G4)
 (oP E (xBin .eql 3 (.tmp 8) (.const (vI 6)) c0w (vI 6)) t8 fun f7u K5 =>
 xcond f7u
 (oP E (fA 27 I0 3) K5 fun c2V L3 =>
 oP E (lA 25 c2V) L3 fun f7v J9 =>
 oP E (iA 25 f7v (vI 0)) J9 fun f7w E6 =>
 oP E (lA 27 f7w) E6 fun f7x N1 =>
 oP E (xCall (fC 134) [x0, f7x]) N1 fun a9u N2 =>
 oP E (gsem (asB a9u) false (fA 27 I0 3)) N2 fun c5d L6 =>
 oP E (gsem (asB a9u) false (lA 25 c5d)) L6 fun b4A P2 =>
 oP E (gsem (asB a9u) false (iA 25 b4A (vI 1))) P2 fun f7y L8 =>
 oP E (gsem (asB a9u) false (lA 27 f7y)) L8 fun f7z N9 =>
 oP E (gsem (asB a9u) false (xCall (fC 134) [(gval (asB a9u) false x0), f7z])) N9 fun c5e P3 =>
 oP E (xPick a9u (vB true) c5e) P3 fun c5f O0 =>
 R c5f O0)
 (oP E (xBin .eql 3 (.tmp 8) (.const (vI 3)) c0w (vI 3)) K5 fun f7A M9 =>
 xcond f7A
 (oP E (fA 27 I0 2) M9 fun f7B O1 =>
 oP E (lA 22 f7B) O1 fun c5O R5 =>
 oP E (iA 22 c5O (vI 0)) R5 fun f7C T1 =>
 oP E (lA 24 f7C) T1 fun c5P N3 =>
 oP E (xCall (fC 132) [x0, c5P]) N3 fun f7D T7 =>
 oP E (fA 27 I0 2) T7 fun f7E P4 =>
 oP E (lA 22 f7E) P4 fun f7F Q2 =>
 oP E (iA 22 f7F (vI 1)) Q2 fun c5g T8 =>
 oP E (lA 24 c5g) T8 fun c5h N4 =>
 oP E (xCall (fC 132) [x0, c5h]) N4 fun a3X a0d =>
 oP E (xCall (fC 131) [x0]) a0d fun _t65_91 a0J =>
 oP E (fA 27 I0 1) a0J fun c5i a1k =>
 oP E (lA 3 c5i) a1k fun f7G a0K =>
 oP E (xCall (fC 75) [f7G, f7D, a3X]) a0K fun b3D a0L =>
 R b3D a0L)
 (oP E (xCall (fC 131) [x0]) M9 fun _t72_99 U9 =>
 oP E (fA 27 I0 0) U9 fun b9E M6 =>
 oP E (lA 3 b9E) M6 fun b9F P8 =>
 oP E (xBin .eql 3 (.tmp 74) (.const (vI 1)) b9F (vI 1)) P8 fun e5E W2 =>
 R e5E W2))))
noncomputable def f7H : Code := Tryd.f134.body.getD .skip
def f7I : Hint := (sQ (.seq (sQ (.block (sQ (.cond (sQ .none) (sQ (.cond (sQ .none) (sQ (.cond (sQ .none) (sQ (.cond (sQ (sQ (sQ (sQ .none)))) .none)))))))))) (sQ (sQ .none))))
theorem e5F (x0 x1 : Value) (w : World) (R : RT) (E : Pan) : d8b x0 x1 w R E = callX Tryd.prog [.tmp 4] f7H f7I [x0, x1] w R E := by kernel_rfl
theorem e5G {x0 x1 : Value} (h : d8b x0 x1 w R E) : Cv Tryd.prog 134 #[x0, x1] w R E := by
 refine i8 (args := [x0, x1]) (c := f7H) (h := f7I) (rs := [.tmp 4]) Tryd.func134 (by kernel_rfl) (by kernel_rfl) (nB (by kernel_rfl)) (by kernel_rfl) (by kernel_rfl) (by kernel_rfl) ?_
 rw [← e5F]
 exact h
def d8c (_x0 x1 x2 : Value) (w : World) (R : RT) (E : Pan) : Prop :=
 oP E (xV (Instr.build 93 #[(0, x1), (1, x2)])) w fun b0u w_2 =>
 oP E (xV (Instr.makeInterface 93 b0u)) w_2 fun a2T w_4 =>
 oP E (xV (Instr.panic a2T)) w_4 fun _z_5 w_6 =>
 R (Value.tuple #[]) w_6
noncomputable def f7J : Code := Tryd.f135.body.getD .skip
def f7K : Hint := .none
theorem e5H (x0 x1 x2 : Value) (w : World) (R : RT) (E : Pan) : d8c x0 x1 x2 w R E = callX Tryd.prog [] f7J f7K [x0, x1, x2] w R E := by kernel_rfl
theorem e5I {x0 x1 x2 : Value} (h : d8c x0 x1 x2 w R E) : Cv Tryd.prog 135 #[x0, x1, x2] w R E := by
 refine i8 (args := [x0, x1, x2]) (c := f7J) (h := f7K) (rs := []) Tryd.func135 (by kernel_rfl) (by kernel_rfl) (nB (by kernel_rfl)) (by kernel_rfl) (by kernel_rfl) (by kernel_rfl) ?_
 rw [← e5H]
 exact h
def d8d (x0 x1 : Value) (w : World) (R : RT) (E : Pan) : Prop :=
 oP E (xBin .neq 3 (.tmp 4) (.const (vI 0)) x1 (vI 0)) w fun b1V w_2 =>
 xcond b1V
 (oP E (xCall (fC 135) [x0, (vI 3), x1]) w_2 fun _t8_3 w_4 =>
 R (Value.tuple #[]) w_4)
 (R (Value.tuple #[]) w_2)
noncomputable def f7L : Code := Tryd.f136.body.getD .skip
def f7M : Hint := (sQ (.cond .none .none))
theorem e5J (x0 x1 : Value) (w : World) (R : RT) (E : Pan) : d8d x0 x1 w R E = callX Tryd.prog [] f7L f7M [x0, x1] w R E := by kernel_rfl
theorem e5K {x0 x1 : Value} (h : d8d x0 x1 w R E) : Cv Tryd.prog 136 #[x0, x1] w R E := by
 refine i8 (args := [x0, x1]) (c := f7L) (h := f7M) (rs := []) Tryd.func136 (by kernel_rfl) (by kernel_rfl) (nB (by kernel_rfl)) (by kernel_rfl) (by kernel_rfl) (by kernel_rfl) ?_
 rw [← e5J]
 exact h
def d0n (x0 : Value) (w : World) (R : RT) (E : Pan) : Prop :=
 oP E (xV (Instr.box 24 x0)) w fun v7 w_2 =>
 oP E (fA 24 v7 0) w_2 fun b0w w_4 =>
 oP E (lA 3 b0w) w_4 fun a3B w_6 =>
 oP E (xBin .eql 3 (.tmp 6) (.const (vI 1)) a3B (vI 1)) w_6 fun b0t w_8 =>
 xcond b0t
 (oP E (fA 24 v7 1) w_8 fun a7n o3 =>
 oP E (lA 2 a7n) o3 fun a9W p8 =>
 R (Value.tuple #[a9W, (vB true)]) p8)
 (oP E (fA 24 v7 0) w_8 fun a8y o9 =>
 oP E (lA 3 a8y) o9 fun c3A q8 =>
 oP E (xBin .eql 3 (.tmp 12) (.const (vI 5)) c3A (vI 5)) q8 fun a5U r7 =>
 oP E (gsem (asB a5U) true (fA 24 v7 3)) r7 fun a8u r9 =>
 oP E (gsem (asB a5U) true (lA 22 a8u)) r9 fun b3F t8 =>
 oP E (gsem (asB a5U) true (iA 22 b3F (vI 0))) t8 fun c3m v6 =>
 oP E (gsem (asB a5U) true (fA 24 c3m 0)) v6 fun c3n A9 =>
 oP E (gsem (asB a5U) true (lA 3 c3n)) A9 fun a8w C7 =>
 oP E (gsem (asB a5U) true (xBin .eql 3 (.tmp 19) (.const (vI 1)) a8w (vI 1))) C7 fun f7N D8 =>
 oP E (xPick a5U f7N (vB false)) D8 fun b8a C3 =>
 xcond b8a
 (oP E (fA 24 v7 3) C3 fun c3d D1 =>
 oP E (lA 22 c3d) D1 fun f7O G3 =>
 oP E (iA 22 f7O (vI 0)) G3 fun f7P D9 =>
 oP E (fA 24 f7P 1) D9 fun f7Q E2 =>
 oP E (lA 2 f7Q) E2 fun f7R G9 =>
 oP E (xV (Op.unary .neg f7R)) G9 fun f7S G4 =>
 R (Value.tuple #[f7S, (vB true)]) G4)
 (R (Value.tuple #[(vI 0), (vB false)]) C3))
noncomputable def f7T : Code := Tryd.f146.body.getD .skip
def f7U : Hint := (sQ (.seq (.block (sQ (.cond (sQ .none) (sQ (.cond (sQ .none) .none))))) (sQ .none)))
theorem e5L (x0 : Value) (w : World) (R : RT) (E : Pan) : d0n x0 w R E = callX Tryd.prog [.tmp 2, .tmp 3] f7T f7U [x0] w R E := by kernel_rfl
theorem e5M {x0 : Value} (h : d0n x0 w R E) : Cv Tryd.prog 146 #[x0] w R E := by
 refine i8 (args := [x0]) (c := f7T) (h := f7U) (rs := [.tmp 2, .tmp 3]) Tryd.func146 (by kernel_rfl) (by kernel_rfl) (nB (by kernel_rfl)) (by kernel_rfl) (by kernel_rfl) (by kernel_rfl) ?_
 rw [← e5L]
 exact h
def c7z (x0 : Value) (w : World) (R : RT) (E : Pan) : Prop :=
 ∀ _τ : Fr, (oP E (xCall (fC 131) [x0]) w fun _t13_1 w_2 =>
 oP E (xNil x0) w_2 fun g1Y w_4 =>
 oP E (fA 90 g1Y 2) w_4 fun g1Z w_6 =>
 oP E (lA 45 g1Z) w_6 fun g2a w_8 =>
 oP E (iA 45 g2a (vI 0)) w_8 fun d0o o3 =>
 oP E (lA 2 d0o) o3 fun a7c p8 =>
 oP E (xNil x0) p8 fun f7V o9 =>
 oP E (fA 90 f7V 2) o9 fun f7W q8 =>
 oP E (lA 45 f7W) q8 fun f7X r7 =>
 oP E (xV (Instr.sliceAt 45 f7X (some (vI 1)) none none)) r7 fun f7Y r9 =>
 oP E (xNil x0) r9 fun f7Z t8 =>
 oP E (fA 90 f7Z 2) t8 fun f8a v6 =>
 oP E (sA 45 f8a f7Y) v6 fun _z_25 A9 =>
 oP E (xNil x0) A9 fun f8b C7 =>
 oP E (fA 90 f8b 3) C7 fun f8c D8 =>
 oP E (lA 46 f8c) D8 fun f8d C3 =>
 oP E (xV (Instr.build 55 #[(0, (vB true)), (1, a7c)])) C3 fun b3K D1 =>
 oP E (xV (Instr.buildSlice 46 1 #[(0, b3K)])) D1 fun b1k G3 =>
 oP E (xBuiltin .append #[46, 46] 46 [false, false] [f8d, b1k]) G3 fun b4o D9 =>
 oP E (xNil x0) D9 fun b9g E2 =>
 oP E (fA 90 b9g 3) E2 fun c5Q G9 =>
 oP E (sA 46 c5Q b4o) G9 fun _z_43 G4 =>
 R a7c G4)
def d8e (x0 : Value) (w : World) (R : RT) (E : Pan) : Prop :=
 xcut (fun _ K5 => c7z x0 K5 R E) fun j1 =>
 oP E (xNil x0) w fun c1P L3 =>
 oP E (fA 90 c1P 2) L3 fun g2c J9 =>
 oP E (lA 45 g2c) J9 fun g2d E6 =>
 oP E (xBuiltin .len #[45] 3 [false] [g2d]) E6 fun g2e N1 =>
 oP E (xBin .eql 3 (.tmp 8) (.const (vI 0)) g2e (vI 0)) N1 fun g2f N2 =>
 xcond g2f
 (oP E (xCall (fC 135) [x0, (vI 2), (vI 0)]) N2 fun _t11_57 L6 =>
 j1 [] L6)
 (j1 [] N2)
noncomputable def f8e : Code := Tryd.f147.body.getD .skip
def f8f : Hint := (sQ (.cut [] (sQ (.cond .none .none)) (sQ (sQ (sQ (sQ (sQ .none)))))))
theorem e5N (x0 : Value) (w : World) (R : RT) (E : Pan) : d8e x0 w R E = callX Tryd.prog [.tmp 2] f8e f8f [x0] w R E := by kernel_rfl
theorem e5O {x0 : Value} (h : d8e x0 w R E) : Cv Tryd.prog 147 #[x0] w R E := by
 refine i8 (args := [x0]) (c := f8e) (h := f8f) (rs := [.tmp 2]) Tryd.func147 (by kernel_rfl) (by kernel_rfl) (nB (by kernel_rfl)) (by kernel_rfl) (by kernel_rfl) (by kernel_rfl) ?_
 rw [← e5N]
 exact h
def d8f (x0 x1 x2 : Value) (w : World) (R : RT) (E : Pan) : Prop :=
 oP E (xCall (fC 136) [x0, x2]) w fun _t9_1 w_2 =>
 R x1 w_2
noncomputable def f8g : Code := Tryd.f148.body.getD .skip
def f8h : Hint := (sQ (sQ (sQ .none)))
theorem e5P (x0 x1 x2 : Value) (w : World) (R : RT) (E : Pan) : d8f x0 x1 x2 w R E = callX Tryd.prog [.tmp 6] f8g f8h [x0, x1, x2] w R E := by kernel_rfl
theorem e5Q {x0 x1 x2 : Value} (h : d8f x0 x1 x2 w R E) : Cv Tryd.prog 148 #[x0, x1, x2] w R E := by
 refine i8 (args := [x0, x1, x2]) (c := f8g) (h := f8h) (rs := [.tmp 6]) Tryd.func148 (by kernel_rfl) (by kernel_rfl) (nB (by kernel_rfl)) (by kernel_rfl) (by kernel_rfl) (by kernel_rfl) ?_
 rw [← e5P]
 exact h
end Go.Proofs.YtnhkdkcgdcgmdaaDoor
