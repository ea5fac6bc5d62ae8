/- The second reading of some of the program's functions, printed by gen2.py off the code; each is held against the code by the kernel. -/
import Derived.Test.YtnhkdkcgdcgmdaaDoorProg
import Derived.Test.YtnhkdkcgdcgmdaaDoorzSK0
import Derived.KernelRfl
import Derived.Test.YtnhkdkcgdcgmdaaDoorzSGz
namespace Go.Proofs.YtnhkdkcgdcgmdaaDoor
open Go.RowKit
set_option maxRecDepth 100000
variable {w : World} {R : RT} {E : Pan}
def g0f (x1 x2 x3 x4 x9 x13 : Value) (w : World) (R : RT) (E : Pan) : Prop :=
 ∀ _τ : Fr, (oP E (xBuiltin .len #[45] 3 [false] [x1]) w fun d5B a7m =>
 oP E (xBin .eql 3 (.tmp 141) (.tmp 143) x13 d5B) a7m fun d5C a5C =>
 xcond d5C
 (R (vB true) a5C)
 (oP E (xBuiltin .append #[45, 45] 45 [true, false] [(nS), x1]) a5C fun b6F a7n =>
 oP E (xBuiltin .len #[45] 3 [false] [b6F]) a7n fun d5D b1o =>
 oP E (xBin .sub 3 (.tmp 149) (.const (vI 1)) d5D (vI 1)) b1o fun d5E b1p =>
 oP E (iA 45 b6F d5E) b1p fun d5F a9v =>
 oP E (sA 2 d5F x3) a9v fun _z_157 b1q =>
 oP E (lA 44 x4) b1q fun d5G b8k =>
 oP E (xCall (fC 18) [d5G, b6F, x2]) b8k fun c3Y b8l =>
 oP E (eX c3Y 0) b8l fun d5H b8m =>
 oP E (eX c3Y 1) b8m fun d5I b8n =>
 oP E (xV (Instr.alloc 49 true (.tuple #[]))) b8n fun c6m a5M =>
 oP E (sA 49 c6m d5H) a5M fun _z_169 b8o =>
 oP E (xBin .eql 29 (.tmp 160) (.const (vI 0)) d5I (vI 0)) b8o fun b2e b4X =>
 oP E (gsem (asB b2e) true (lA 49 x9)) b4X fun d5J b8p =>
 oP E (gsem (asB b2e) true (lA 49 c6m)) b8p fun d5K b8q =>
 oP E (gsem (asB b2e) true (xCall (fC 20) [d5J, d5K])) b8q fun d5L c8G =>
 oP E (xPick b2e d5L (vB false)) c8G fun d5M a9B =>
 R d5M a9B))
def g0g (_x1 _x2 _x3 _x4 _x9 x13 x14 : Value) (w : World) (next2 : NT) (_R : RT) (E : Pan) : Prop :=
 ∀ _τ : Fr, (oP E (xBin .add 3 (.tmp 114) (.const (vI 1)) x14 (vI 1)) w fun d5N c8H =>
 next2 [x13, d5N] c8H)
def g0h (x1 x2 x3 x4 x9 x13 x14 : Value) (w : World) (next2 : NT) (j1 : NT) (R : RT) (E : Pan) : Prop :=
 oP E (fA 49 x9 3) w fun d5O c8I =>
 oP E (lA 46 d5O) c8I fun d5P c8J =>
 oP E (xBuiltin .len #[46] 3 [false] [d5P]) c8J fun d5Q c8K =>
 oP E (xBin .lss 3 (.tmp 109) (.tmp 112) x14 d5Q) c8K fun d5R c1k =>
 xcond d5R
 (xcut (fun g0i c8L => g0g x1 x2 x3 x4 x9 (nth g0i 0) x14 c8L next2 R E) fun j3 =>
 oP E (fA 49 x9 3) c1k fun d5S c8M =>
 oP E (lA 46 d5S) c8M fun d5T c8N =>
 oP E (iA 46 d5T x14) c8N fun d5U c1l =>
 oP E (fA 55 d5U 0) c1l fun d5V g0j =>
 oP E (lA 4 d5V) g0j fun d5W d8T =>
 xcond d5W
 (dX d8T fun b8r =>
 qP Tryd.prog (xBuiltin .len #[45] 3 [false] [x1]) fun d5X =>
 qP Tryd.prog (xBin .geq 3 (.tmp 122) (.tmp 124) x13 d5X) fun a0A =>
 qP Tryd.prog (gsem (asB a0A) false (fA 49 x9 3)) fun c3Z =>
 qP Tryd.prog (gsem (asB a0A) false (iA 45 (gval (asB a0A) false x1) (gval (asB a0A) false x13))) fun c4a =>
 qL Tryd.prog b8r (blk c3Z) (gsem (asB a0A) false (lA 46 c3Z)) fun d5Y =>
 qP Tryd.prog (gsem (asB a0A) false (iA 46 d5Y (gval (asB a0A) false x14))) fun d5Z =>
 qP Tryd.prog (gsem (asB a0A) false (fA 55 d5Z 1)) fun c4b =>
 qL Tryd.prog b8r (blk c4b) (gsem (asB a0A) false (lA 2 c4b)) fun d6a =>
 qL Tryd.prog b8r (blk c4a) (gsem (asB a0A) false (lA 2 c4a)) fun d6b =>
 qP Tryd.prog (gsem (asB a0A) false (xBin .neq 2 (.tmp 132) (.tmp 136) d6a d6b)) fun d6c =>
 qP Tryd.prog (xPick a0A (vB true) d6c) fun d6d =>
 xcond d6d
 (R (vB false) b8r)
 (oP E (xBin .add 3 (.tmp 139) (.const (vI 1)) x13 (vI 1)) b8r fun d6e g0k =>
 j3 [d6e] g0k))
 (j3 [x13] d8T))
 (j1 [x13] c1k)
def F4 (x0 x1 x2 x3 : Value) (w : World) (R : RT) (E : Pan) : Prop :=
 oP E (xV (Instr.box 44 x0)) w fun b3f w_2 =>
 oP E (xCall (fC 17) []) w_2 fun c1f w_4 =>
 oP E (xV (Op.unary .not c1f)) w_4 fun c8O w_6 =>
 xcond c8O
 (R (vB false) w_6)
 (oP E (xBin .lss 3 (.tmp 19) (.const (vI 0)) x2 (vI 0)) w_6 fun b8s w_8 =>
 oP E (gsem (asB b8s) false (xBin .gtr 3 (.tmp 22) (.const (vI 2000)) (gval (asB b8s) false x2) (vI 2000))) w_8 fun b4R m7 =>
 oP E (xPick b8s (vB true) b4R) m7 fun a4t o4 =>
 oP E (gsem (asB a4t) false (xBuiltin .len #[45] 3 [false] [(gval (asB a4t) false x1)])) o4 fun f2j o3 =>
 oP E (gsem (asB a4t) false (xBin .gtr 3 (.tmp 27) (.const (vI 2000)) f2j (vI 2000))) o3 fun c4c p7 =>
 oP E (xPick a4t (vB true) c4c) p7 fun b3P p8 =>
 xcond b3P
 (R (vB true) p8)
 (oP E (lA 44 b3f) p8 fun f2k q7 =>
 oP E (xCall (fC 18) [f2k, x1, x2]) q7 fun d1I r8 =>
 oP E (eX d1I 0) r8 fun f2l u1 =>
 oP E (eX d1I 1) u1 fun b8t z6 =>
 oP E (xV (Instr.alloc 49 true (.tuple #[]))) z6 fun a2d C0 =>
 oP E (sA 49 a2d f2l) C0 fun _z_29 D3 =>
 oP E (lA 44 b3f) D3 fun f2m B8 =>
 oP E (xBin .add 3 (.tmp 40) (.const (vI 1)) x2 (vI 1)) B8 fun f2n C3 =>
 oP E (xCall (fC 18) [f2m, x1, f2n]) C3 fun d1J E9 =>
 oP E (eX d1J 0) E9 fun f2o C7 =>
 oP E (eX d1J 1) C7 fun d1K D5 =>
 oP E (xV (Instr.alloc 49 true (.tuple #[]))) D5 fun b3Q G4 =>
 oP E (sA 49 b3Q f2o) G4 fun _z_43 F0 =>
 oP E (xBin .neq 29 (.tmp 45) (.const (vI 0)) b8t (vI 0)) F0 fun f2p K9 =>
 xcond f2p
 (oP E (xBin .eql 29 (.tmp 47) (.tmp 48) b8t d1K) K9 fun f2q J0 =>
 R f2q J0)
 (oP E (xBin .neq 29 (.tmp 50) (.const (vI 0)) d1K (vI 0)) K9 fun a8T G2 =>
 oP E (gsem (asB a8T) false (fA 49 b3Q 3)) G2 fun f2r E1 =>
 oP E (gsem (asB a8T) false (lA 46 f2r)) E1 fun f2s L2 =>
 oP E (gsem (asB a8T) false (fA 49 a2d 3)) L2 fun f2t M3 =>
 oP E (gsem (asB a8T) false (lA 46 f2t)) M3 fun f2u L3 =>
 oP E (gsem (asB a8T) false (xCall (fC 19) [f2s, f2u])) L3 fun f2v N5 =>
 oP E (gsem (asB a8T) false (xV (Op.unary .not f2v))) N5 fun f2w M4 =>
 oP E (xPick a8T (vB true) f2w) M4 fun b0F M5 =>
 oP E (gsem (asB b0F) false (fA 49 b3Q 2)) M5 fun f2x N6 =>
 oP E (gsem (asB b0F) false (lA 3 f2x)) N6 fun f2y N7 =>
 oP E (gsem (asB b0F) false (fA 49 a2d 2)) N7 fun f2z L4 =>
 oP E (gsem (asB b0F) false (lA 3 f2z)) L4 fun f2A O1 =>
 oP E (gsem (asB b0F) false (xBin .lss 3 (.tmp 62) (.tmp 64) f2y f2A)) O1 fun f2B P0 =>
 oP E (xPick b0F (vB true) f2B) P0 fun a8U R0 =>
 oP E (gsem (asB a8U) false (fA 49 b3Q 2)) R0 fun f2C N0 =>
 oP E (gsem (asB a8U) false (lA 3 f2C)) N0 fun f2D R1 =>
 oP E (gsem (asB a8U) false (fA 49 a2d 2)) R1 fun f2E P6 =>
 oP E (gsem (asB a8U) false (lA 3 f2E)) P6 fun f2F O2 =>
 oP E (gsem (asB a8U) false (xBin .add 3 (.tmp 71) (.const (vI 1)) f2F (vI 1))) O2 fun f2G R2 =>
 oP E (gsem (asB a8U) false (xBin .gtr 3 (.tmp 69) (.tmp 72) f2D f2G)) R2 fun f2H N1 =>
 oP E (xPick a8U (vB true) f2H) N1 fun b3R V4 =>
 oP E (gsem (asB b3R) false (fA 49 a2d 2)) V4 fun f2I a0x =>
 oP E (gsem (asB b3R) false (lA 3 f2I)) a0x fun f2J a0q =>
 oP E (gsem (asB b3R) false (xBin .gtr 3 (.tmp 77) (.tmp 78) f2J (gval (asB b3R) false x2))) a0q fun f2K W8 =>
 oP E (xPick b3R (vB true) f2K) W8 fun f2L a0r =>
 xcond f2L
 (R (vB false) a0r)
 (oP E (fA 49 a2d 0) a0r fun f2M R6 =>
 oP E (lA 3 f2M) R6 fun e2z M8 =>
 oP E (xBin .neq 3 (.tmp 82) (.const (vI 1)) e2z (vI 1)) M8 fun b0G N8 =>
 oP E (gsem (asB b0G) true (lA 49 a2d)) N8 fun e2A S3 =>
 oP E (gsem (asB b0G) true (lA 49 b3Q)) S3 fun e2B a0K =>
 oP E (gsem (asB b0G) true (xCall (fC 20) [e2A, e2B])) a0K fun e2C a1P =>
 oP E (gsem (asB b0G) true (xV (Op.unary .not e2C))) a1P fun e2D a0L =>
 oP E (xPick b0G e2D (vB false)) a0L fun e2E P9 =>
 xcond e2E
 (R (vB false) P9)
 (oP E (fA 49 a2d 0) P9 fun e2F S4 =>
 oP E (lA 3 e2F) S4 fun e2G a1D =>
 oP E (xBin .eql 3 (.tmp 91) (.const (vI 1)) e2G (vI 1)) a1D fun b0H P3 =>
 oP E (gsem (asB b0H) true (fA 49 a2d 2)) P3 fun e2H a1l =>
 oP E (gsem (asB b0H) true (lA 3 e2H)) a1l fun e2I a3p =>
 oP E (gsem (asB b0H) true (xBin .neq 3 (.tmp 95) (.tmp 96) e2I (gval (asB b0H) true x2))) a3p fun e2J a3Q =>
 oP E (xPick b0H e2J (vB false)) a3Q fun a3X a3q =>
 oP E (gsem (asB a3X) false (fA 49 a2d 0)) a3q fun b6G a3R =>
 oP E (gsem (asB a3X) false (lA 3 b6G)) a3R fun b6H a1E =>
 oP E (gsem (asB a3X) false (xBin .neq 3 (.tmp 101) (.const (vI 3)) b6H (vI 3))) a1E fun a6l a1F =>
 oP E (gsem (asB (gval (asB a3X) false a6l)) true (fA 49 a2d 1)) a1F fun d6f a2B =>
 oP E (gsem (asB (gval (asB a3X) false a6l)) true (lA 3 d6f)) a2B fun b6I a3P =>
 oP E (gsem (asB (gval (asB a3X) false a6l)) true (xBin .neq 3 (.tmp 105) (.const (vI 0)) b6I (vI 0))) a3P fun b6J a4y =>
 oP E (gsem (asB a3X) false (xPick (gval (asB a3X) false a6l) b6J (vB false))) a4y fun d6g a4z =>
 oP E (xPick a3X (vB true) d6g) a4z fun d6h a4A =>
 xcond d6h
 (R (vB false) a4A)
 (xcut (fun g0l c8P => g0f x1 x2 x3 b3f a2d (nth g0l 0) c8P R E) fun j1 =>
 xloop [13, 14] [(vI 0), (vI 0)] a4A fun τ_219 g0m next2 =>
 g0h x1 x2 x3 b3f a2d (τ_219 13) (τ_219 14) g0m next2 j1 R E))))))
noncomputable def c4 : Code := Tryd.f4.body.getD .skip
def h4 : Hint := (sQ (.seq (sQ (.cond (sQ .none) .none)) (.seq (sQ (.cond (sQ .none) .none)) (sQ (sQ (.seq (sQ (.cond (sQ .none) .none)) (.seq (sQ (.cond (sQ .none) .none)) (.seq (sQ (.cond (sQ .none) .none)) (.seq (sQ (.cond (sQ .none) .none)) (sQ (.cut [13] (sQ (.block (.loop [13, 14] (.seq (sQ (.cond .none .none)) (.cut [13] (.block (sQ (.cond (.seq (.seq (.reg [(0, 5316911983139663491615228241121378304, 8192), (0, 10633823966279326983230456482242756608, 2), (2, 21267647932558653966460912964485513216, 10633823966279326983230456482242756608), (5, 42535295865117307932921825928971026432, 26584559915698317458076141205606891520), (8, 85070591730234615865843651857942052864, 42535295865117307932921825928971026432), (16, 170141183460469231731687303715884105728, 85070591730234615865843651857942053376), (48, 340282366920938463463374607431768211456, 255211775190703847597530955573826158592), (16, 680564733841876926926749214863536422912, 85070591730234615865843651857942069248), (208, 1361129467683753853853498429727072845824, 1105917692493050006255967474153246687232), (272, 2722258935367507707706996859454145691648, 1446200059413988469719342081585014898688), (528, 5444517870735015415413993718908291383296, 2807329527097742323572840511312087744512), (16, 10889035741470030830827987437816582766592, 85070591730234615865843651857942052866), (16, 21778071482940061661655974875633165533184, 85070591730234615865843651857942061056), (6160, 43556142965880123323311949751266331066368, 32752177816140327108349805965307690352640), (8208, 87112285931760246646623899502532662132736, 43641213557610357939177793403124273119232), (17424, 174224571863520493293247799005065324265472, 92641874394225496677903736873298895568896), (32784, 348449143727040986586495598010130648530944, 174309642455250727909113642656923266318336)] [17472, 17472, 17472, 17472, 17472, 17472, 17408, 17472, 17472, 17472, 16448, 17472, 17472, 17472, 1088, 17472, 17472] (.early 0 (.early 1 (.early 2 (.early 3 (.early 4 (.early 5 (.early 7 (.early 11 (.early 12 (.early 13 (.load 6 (.early 8 (.early 9 (.load 10 (.load 14 (.early 15 (.early 16 .done)))))))))))))))))) (.cond (sQ .none) .none)) .none) .none))) .none))))) (.seq (sQ (.cond (sQ .none) .none)) (sQ (sQ (sQ (sQ .none))))))))))))))))
def F5 (x0 x1 : Value) (w : World) (R : RT) (E : Pan) : Prop :=
 oP E (xCall (fC 17) []) w fun a9S w_2 =>
 oP E (xV (Op.unary .not a9S)) w_2 fun a2z w_4 =>
 xcond a2z
 (R (vB false) w_4)
 (oP E (xBin .lss 3 (.tmp 10) (.const (vI 0)) x0 (vI 0)) w_4 fun a5t w_6 =>
 oP E (gsem (asB a5t) false (xBin .gtr 3 (.tmp 13) (.const (vI 500)) (gval (asB a5t) false x0) (vI 500))) w_6 fun T5 w_8 =>
 oP E (xPick a5t (vB true) T5) w_8 fun a4x m7 =>
 oP E (gsem (asB a4x) false (xBin .lss 3 (.tmp 17) (.const (vI 0)) (gval (asB a4x) false x1) (vI 0))) m7 fun b3F o4 =>
 oP E (xPick a4x (vB true) b3F) o4 fun a7S o3 =>
 oP E (gsem (asB a7S) false (xBin .gtr 3 (.tmp 21) (.const (vI 2000)) (gval (asB a7S) false x1) (vI 2000))) o3 fun f2N p7 =>
 oP E (xPick a7S (vB true) f2N) p7 fun f2O p8 =>
 xcond f2O
 (R (vB true) p8)
 (oP E (xV (Instr.build 58 #[(0, (Value.string ⟨#[120]⟩))])) p8 fun c2m q7 =>
 oP E (xV (Instr.buildSlice 41 1 #[(0, c2m)])) q7 fun b2Z r8 =>
 oP E (xCall (fC 22) [(Value.string ⟨#[120]⟩)]) r8 fun f2P u1 =>
 oP E (xCall (fC 23) [x0]) u1 fun f2Q z6 =>
 oP E (xCall (fC 21) [(vI 1), f2P, f2Q]) z6 fun f2R C0 =>
 oP E (xV (Instr.buildSlice 25 1 #[(0, f2R)])) C0 fun f2S D3 =>
 oP E (xCall (fC 22) [(Value.string ⟨#[120]⟩)]) D3 fun f2T B8 =>
 oP E (xCall (fC 23) [(vI 1)]) B8 fun f2U C3 =>
 oP E (xCall (fC 25) [(vI 6), f2T, f2U]) C3 fun f2V E9 =>
 oP E (xCall (fC 24) [(Value.string ⟨#[120]⟩), f2V]) E9 fun f2W C7 =>
 oP E (xV (Instr.buildSlice 42 1 #[(0, f2W)])) C7 fun f2X D5 =>
 oP E (xV (Instr.build 63 #[(0, (vI 4)), (3, f2S), (4, f2X)])) D5 fun f2Y G4 =>
 oP E (xV (Instr.buildSlice 42 1 #[(0, f2Y)])) G4 fun f2Z F0 =>
 oP E (xV (Instr.build 44 #[(0, b2Z), (1, f2Z)])) F0 fun f3a K9 =>
 oP E (xV (Instr.alloc 44 true (.tuple #[]))) K9 fun c1m J0 =>
 oP E (sA 44 c1m f3a) J0 fun _z_49 G2 =>
 oP E (lA 44 c1m) G2 fun c2g E1 =>
 oP E (xCall (fC 18) [c2g, (nS), x1]) E1 fun b8u L2 =>
 oP E (eX b8u 0) L2 fun c4d M3 =>
 oP E (eX b8u 1) M3 fun c4e L3 =>
 oP E (xV (Instr.alloc 49 true (.tuple #[]))) L3 fun b4Y N5 =>
 oP E (sA 49 b4Y c4d) N5 fun _z_61 M4 =>
 oP E (xBin .neq 29 (.tmp 45) (.const (vI 0)) c4e (vI 0)) M4 fun b3S M5 =>
 oP E (gsem (asB b3S) false (fA 49 b4Y 4)) M5 fun c4f N6 =>
 oP E (gsem (asB b3S) false (lA 45 c4f)) N6 fun c4g N7 =>
 oP E (gsem (asB b3S) false (xBuiltin .len #[45] 3 [false] [c4g])) N7 fun f3b L4 =>
 oP E (gsem (asB b3S) false (xBin .neq 3 (.tmp 50) (.const (vI 1)) f3b (vI 1))) L4 fun f3c O1 =>
 oP E (xPick b3S (vB true) f3c) O1 fun a4u P0 =>
 oP E (gsem (asB a4u) false (fA 49 b4Y 4)) P0 fun c2h R0 =>
 oP E (gsem (asB a4u) false (lA 45 c2h)) R0 fun c3G N0 =>
 oP E (gsem (asB a4u) false (iA 45 c3G (vI 0))) N0 fun c3H R1 =>
 oP E (gsem (asB a4u) false (lA 2 c3H)) R1 fun a8N P6 =>
 oP E (gsem (asB a4u) false (xBin .quo 3 (.tmp 58) (.const (vI 2)) (gval (asB a4u) false x1) (vI 2))) P6 fun c3I O2 =>
 oP E (gsem (asB a4u) false (xBuiltin .min #[3, 3] 3 [false, false] [c3I, (gval (asB a4u) false x0)])) O2 fun c4h R2 =>
 oP E (gsem (asB a4u) false (xBin .neq 2 (.tmp 57) (.tmp 61) a8N c4h)) R2 fun c4i N1 =>
 oP E (xPick a4u (vB true) c4i) N1 fun a3A V4 =>
 oP E (gsem (asB a3A) false (fA 49 b4Y 2)) V4 fun f3d a0x =>
 oP E (gsem (asB a3A) false (lA 3 f3d)) a0x fun c4j a0q =>
 oP E (gsem (asB a3A) false (xBin .mul 3 (.const (vI 2)) (.tmp 68) (vI 2) (gval (asB a3A) false x0))) a0q fun c2i W8 =>
 oP E (gsem (asB a3A) false (xBin .add 3 (.tmp 69) (.const (vI 1)) c2i (vI 1))) W8 fun b2Y a0r =>
 oP E (gsem (asB a3A) false (xBuiltin .min #[3, 3] 3 [false, false] [(gval (asB a3A) false x1), b2Y])) a0r fun c2j R6 =>
 oP E (gsem (asB a3A) false (xBin .neq 3 (.tmp 66) (.tmp 71) c4j c2j)) R6 fun e2K M8 =>
 oP E (xPick a3A (vB true) e2K) M8 fun e2L N8 =>
 xcond e2L
 (R (vB false) N8)
 (oP E (xBin .mul 3 (.const (vI 2)) (.tmp 75) (vI 2) x0) N8 fun e2M S3 =>
 oP E (xBin .add 3 (.tmp 76) (.const (vI 1)) e2M (vI 1)) S3 fun e2N a0K =>
 oP E (xBin .geq 3 (.tmp 74) (.tmp 77) x1 e2N) a0K fun e2O a1P =>
 xcond e2O
 (oP E (fA 49 b4Y 0) a1P fun e2P a0L =>
 oP E (lA 3 e2P) a0L fun e2Q P9 =>
 oP E (xBin .eql 3 (.tmp 80) (.const (vI 2)) e2Q (vI 2)) P9 fun e2R S4 =>
 R e2R S4)
 (oP E (fA 49 b4Y 0) a1P fun b9P a1D =>
 oP E (lA 3 b9P) a1D fun b9Q P3 =>
 oP E (xBin .eql 3 (.tmp 83) (.const (vI 1)) b9Q (vI 1)) P3 fun b9R a1l =>
 R b9R a1l))))
noncomputable def c5 : Code := Tryd.f5.body.getD .skip
def h5 : Hint := (sQ (.seq (sQ (.cond (sQ .none) .none)) (.seq (sQ (.cond (sQ .none) .none)) (sQ (sQ (.seq (sQ (.cond (sQ .none) .none)) (.seq (sQ (.cond (sQ .none) .none)) (sQ .none))))))))
def g0n (x0 x1 x2 x7 x8 : Value) (w : World) (R : RT) (E : Pan) : Prop :=
 ∀ _τ : Fr, (oP E (xV (Instr.build 58 #[(0, (Value.string ⟨#[120]⟩))])) w fun f3e o4 =>
 oP E (xV (Instr.buildSlice 41 1 #[(0, f3e)])) o4 fun f3f o3 =>
 oP E (xCall (fC 23) [x1]) o3 fun f3g p7 =>
 oP E (xCall (fC 23) [x2]) p7 fun f3h p8 =>
 oP E (xCall (fC 25) [x0, f3g, f3h]) p8 fun f3i q7 =>
 oP E (xCall (fC 24) [(Value.string ⟨#[120]⟩), f3i]) q7 fun f3j r8 =>
 oP E (xV (Instr.buildSlice 42 1 #[(0, f3j)])) r8 fun f3k u1 =>
 oP E (xV (Instr.build 44 #[(0, f3f), (1, f3k)])) u1 fun f3l z6 =>
 oP E (xV (Instr.alloc 44 true (.tuple #[]))) z6 fun a2d C0 =>
 oP E (sA 44 a2d f3l) C0 fun _z_29 D3 =>
 oP E (lA 44 a2d) D3 fun f3m B8 =>
 oP E (xCall (fC 18) [f3m, (nS), (vI 10)]) B8 fun d1L C3 =>
 oP E (eX d1L 0) C3 fun f3n E9 =>
 oP E (eX d1L 1) E9 fun f3o C7 =>
 oP E (xV (Instr.alloc 49 true (.tuple #[]))) C7 fun a6I D5 =>
 oP E (sA 49 a6I f3n) D5 fun _z_41 G4 =>
 oP E (xBin .neq 29 (.tmp 77) (.const (vI 0)) f3o (vI 0)) G4 fun b8v F0 =>
 oP E (gsem (asB b8v) false (fA 49 a6I 2)) F0 fun f3p K9 =>
 oP E (gsem (asB b8v) false (lA 3 f3p)) K9 fun f3q J0 =>
 oP E (gsem (asB b8v) false (xBin .neq 3 (.tmp 81) (.const (vI 1)) f3q (vI 1))) J0 fun f3r G2 =>
 oP E (xPick b8v (vB true) f3r) G2 fun b3T E1 =>
 oP E (gsem (asB b3T) false (fA 49 a6I 4)) E1 fun f3s L2 =>
 oP E (gsem (asB b3T) false (lA 45 f3s)) L2 fun f3t M3 =>
 oP E (gsem (asB b3T) false (xBuiltin .len #[45] 3 [false] [f3t])) M3 fun f3u L3 =>
 oP E (gsem (asB b3T) false (xBin .neq 3 (.tmp 87) (.const (vI 1)) f3u (vI 1))) L3 fun f3v N5 =>
 oP E (xPick b3T (vB true) f3v) N5 fun b3U M4 =>
 oP E (gsem (asB b3U) false (fA 49 a6I 1)) M4 fun f3w M5 =>
 oP E (gsem (asB b3U) false (lA 3 f3w)) M5 fun f3x N6 =>
 oP E (gsem (asB b3U) false (xBin .neq 3 (.tmp 92) (.tmp 93) f3x (gval (asB b3U) false x8))) N6 fun f3y N7 =>
 oP E (xPick b3U (vB true) f3y) N7 fun f3z L4 =>
 xcond f3z
 (R (vB false) L4)
 (oP E (xBin .neq 3 (.tmp 96) (.const (vI 0)) x8 (vI 0)) L4 fun f3A O1 =>
 xcond f3A
 (oP E (fA 49 a6I 0) O1 fun f3B P0 =>
 oP E (lA 3 f3B) P0 fun f3C R0 =>
 oP E (xBin .eql 3 (.tmp 99) (.const (vI 3)) f3C (vI 3)) R0 fun a7H N0 =>
 oP E (gsem (asB a7H) true (fA 49 a6I 4)) N0 fun e2S R1 =>
 oP E (gsem (asB a7H) true (lA 45 e2S)) R1 fun e2T P6 =>
 oP E (gsem (asB a7H) true (iA 45 e2T (vI 0))) P6 fun e2U O2 =>
 oP E (gsem (asB a7H) true (lA 2 e2U)) O2 fun e2V R2 =>
 oP E (gsem (asB a7H) true (xBin .eql 2 (.tmp 105) (.const (vI 0)) e2V (vI 0))) R2 fun e2W N1 =>
 oP E (xPick a7H e2W (vB false)) N1 fun e2X V4 =>
 R e2X V4)
 (oP E (fA 49 a6I 0) O1 fun e2Y a0x =>
 oP E (lA 3 e2Y) a0x fun b4Z a0q =>
 oP E (xBin .eql 3 (.tmp 109) (.const (vI 2)) b4Z (vI 2)) a0q fun a3Y W8 =>
 oP E (gsem (asB a3Y) true (fA 49 a6I 4)) W8 fun e2Z a0r =>
 oP E (gsem (asB a3Y) true (lA 45 e2Z)) a0r fun b9Z R6 =>
 oP E (gsem (asB a3Y) true (iA 45 b9Z (vI 0))) R6 fun d6i M8 =>
 oP E (gsem (asB a3Y) true (lA 2 d6i)) M8 fun d6j N8 =>
 oP E (gsem (asB a3Y) true (xBin .eql 2 (.tmp 115) (.tmp 116) d6j (gval (asB a3Y) true x7))) N8 fun d6k S3 =>
 oP E (xPick a3Y d6k (vB false)) S3 fun d6l a0K =>
 R d6l a0K)))
def F6 (x0 x1 x2 : Value) (w : World) (R : RT) (E : Pan) : Prop :=
 oP E (xCall (fC 17) []) w fun g0o w_2 =>
 oP E (xV (Op.unary .not g0o)) w_2 fun b7P w_4 =>
 xcond b7P
 (R (vB false) w_4)
 (oP E (xBin .eql 2 (.tmp 14) (.const (vI (-9223372036854775808))) x1 (vI (-9223372036854775808))) w_4 fun b2a w_6 =>
 oP E (gsem (asB b2a) false (xBin .eql 2 (.tmp 17) (.const (vI (-9223372036854775808))) (gval (asB b2a) false x2) (vI (-9223372036854775808)))) w_6 fun g0p w_8 =>
 oP E (xPick b2a (vB true) g0p) w_8 fun g0q m7 =>
 xcond g0q
 (R (vB true) m7)
 (xcut (fun c8Q a1P => g0n x0 x1 x2 (nth c8Q 0) (nth c8Q.tail 0) a1P R E) fun j1 =>
 oP E (xBin .eql 3 (.tmp 20) (.const (vI 6)) x0 (vI 6)) m7 fun e3a a0L =>
 xcond e3a
 (oP E (xCall (fC 26) [x1, x2]) a0L fun c6n P9 =>
 oP E (eX c6n 0) P9 fun e3b S4 =>
 oP E (eX c6n 1) S4 fun e3c a1D =>
 j1 [e3b, e3c] a1D)
 (oP E (xBin .eql 3 (.tmp 20) (.const (vI 7)) x0 (vI 7)) a0L fun e3d P3 =>
 xcond e3d
 (oP E (xCall (fC 27) [x1, x2]) P3 fun c6o a1l =>
 oP E (eX c6o 0) a1l fun e3e a3p =>
 oP E (eX c6o 1) a3p fun e3f a3Q =>
 j1 [e3e, e3f] a3Q)
 (oP E (xBin .eql 3 (.tmp 20) (.const (vI 8)) x0 (vI 8)) P3 fun e3g a3q =>
 xcond e3g
 (oP E (xCall (fC 28) [x1, x2]) a3q fun c6p a3R =>
 oP E (eX c6p 0) a3R fun e3h a1E =>
 oP E (eX c6p 1) a1E fun e3i a1F =>
 j1 [e3h, e3i] a1F)
 (oP E (xBin .eql 3 (.tmp 20) (.const (vI 9)) x0 (vI 9)) a3q fun e3j a2B =>
 xcond e3j
 (oP E (xCall (fC 29) [x1, x2]) a2B fun c6q a3P =>
 oP E (eX c6q 0) a3P fun e3k a4y =>
 oP E (eX c6q 1) a4y fun e3l a4z =>
 j1 [e3k, e3l] a4z)
 (oP E (xBin .eql 3 (.tmp 20) (.const (vI 10)) x0 (vI 10)) a2B fun e3m a4A =>
 xcond e3m
 (oP E (xCall (fC 30) [x1, x2]) a4A fun c6r a7m =>
 oP E (eX c6r 0) a7m fun e3n a5C =>
 oP E (eX c6r 1) a5C fun e3o a7n =>
 j1 [e3n, e3o] a7n)
 (R (vB true) a4A)))))))
noncomputable def c6 : Code := Tryd.f6.body.getD .skip
def h6 : Hint := (sQ (.seq (sQ (.cond (sQ .none) .none)) (.seq (sQ (.cond (sQ .none) .none)) (sQ (.cut [7, 8] (sQ (.block (sQ (.cond .none (sQ (.cond .none (sQ (.cond .none (sQ (.cond .none (sQ (.cond .none (sQ .none))))))))))))) (sQ (sQ (.seq (sQ (.cond (sQ .none) .none)) (.seq (sQ (.cond (sQ .none) .none)) (sQ .none))))))))))
def c8R (x10 x13 : Value) (w : World) (R : RT) (E : Pan) : Prop :=
 ∀ _τ : Fr, (oP E (fA 49 x10 0) w fun d6m b4X =>
 oP E (lA 3 d6m) b4X fun d6n b8p =>
 oP E (xBin .eql 3 (.tmp 134) (.const (vI 2)) d6n (vI 2)) b8p fun b2f b8q =>
 oP E (gsem (asB b2f) true (fA 49 x10 2)) b8q fun d6o c8G =>
 oP E (gsem (asB b2f) true (lA 3 d6o)) c8G fun d6p a9B =>
 oP E (gsem (asB b2f) true (xBin .eql 3 (.tmp 138) (.const (vI 2)) d6p (vI 2))) a9B fun d6q c8P =>
 oP E (xPick b2f d6q (vB false)) c8P fun a4W c8I =>
 oP E (gsem (asB a4W) true (fA 49 x10 4)) c8I fun d6r c8J =>
 oP E (gsem (asB a4W) true (lA 45 d6r)) c8J fun d6s c8K =>
 oP E (gsem (asB a4W) true (iA 45 d6s (vI 0))) c8K fun d6t c1k =>
 oP E (gsem (asB a4W) true (lA 2 d6t)) c1k fun d6u c8H =>
 oP E (gsem (asB a4W) true (xBin .eql 2 (.tmp 145) (.tmp 146) d6u (gval (asB a4W) true x13))) c8H fun d6v c8L =>
 oP E (xPick a4W d6v (vB false)) c8L fun d6w c8M =>
 R d6w c8M)
def F7 (x0 x1 x2 x3 : Value) (w : World) (R : RT) (E : Pan) : Prop :=
 oP E (xCall (fC 17) []) w fun g0r w_2 =>
 oP E (xV (Op.unary .not g0r)) w_2 fun c8S w_4 =>
 xcond c8S
 (R (vB false) w_4)
 (oP E (xBin .eql 2 (.tmp 16) (.const (vI (-9223372036854775808))) x0 (vI (-9223372036854775808))) w_4 fun c8T w_6 =>
 oP E (gsem (asB c8T) false (xBin .eql 2 (.tmp 19) (.const (vI (-9223372036854775808))) (gval (asB c8T) false x1) (vI (-9223372036854775808)))) w_6 fun b8s w_8 =>
 oP E (xPick c8T (vB true) b8s) w_8 fun c8U m7 =>
 oP E (gsem (asB c8U) false (xBin .eql 2 (.tmp 23) (.const (vI (-9223372036854775808))) (gval (asB c8U) false x2) (vI (-9223372036854775808)))) m7 fun a4t o4 =>
 oP E (xPick c8U (vB true) a4t) o4 fun a8O o3 =>
 oP E (gsem (asB a8O) false (xBin .lss 3 (.tmp 27) (.const (vI 1)) (gval (asB a8O) false x3) (vI 1))) o3 fun c4c p7 =>
 oP E (xPick a8O (vB true) c4c) p7 fun b3P p8 =>
 oP E (gsem (asB b3P) false (xBin .gtr 3 (.tmp 31) (.const (vI 50)) (gval (asB b3P) false x3) (vI 50))) p8 fun f3D q7 =>
 oP E (xPick b3P (vB true) f3D) q7 fun f3E r8 =>
 xcond f3E
 (R (vB true) r8)
 (oP E (xV (Instr.build 58 #[(0, (Value.string ⟨#[120]⟩))])) r8 fun f3F u1 =>
 oP E (xV (Instr.build 58 #[(0, (Value.string ⟨#[97]⟩)), (1, x3)])) u1 fun b8t z6 =>
 oP E (xV (Instr.buildSlice 41 2 #[(0, f3F), (1, b8t)])) z6 fun f3G C0 =>
 oP E (xCall (fC 23) [x0]) C0 fun c4k D3 =>
 oP E (xCall (fC 23) [x2]) D3 fun f3H B8 =>
 oP E (xV (Instr.buildSlice 22 2 #[(0, c4k), (1, f3H)])) B8 fun f3I C3 =>
 oP E (xV (Instr.build 63 #[(0, (vI 2)), (1, (Value.string ⟨#[97]⟩)), (2, f3I)])) C3 fun f3J E9 =>
 oP E (xCall (fC 23) [x1]) E9 fun f3K C7 =>
 oP E (xV (Instr.buildSlice 22 1 #[(0, f3K)])) C7 fun f3L D5 =>
 oP E (xV (Instr.build 24 #[(0, (vI 4)), (2, (Value.string ⟨#[97]⟩)), (3, f3L)])) D5 fun f3M G4 =>
 oP E (xCall (fC 24) [(Value.string ⟨#[120]⟩), f3M]) G4 fun f3N F0 =>
 oP E (xV (Instr.buildSlice 42 2 #[(0, f3J), (1, f3N)])) F0 fun f3O K9 =>
 oP E (xV (Instr.build 44 #[(0, f3G), (1, f3O)])) K9 fun f3P J0 =>
 oP E (xV (Instr.alloc 44 true (.tuple #[]))) J0 fun d8U G2 =>
 oP E (sA 44 d8U f3P) G2 fun _z_51 E1 =>
 oP E (lA 44 d8U) E1 fun f3Q L2 =>
 oP E (xCall (fC 18) [f3Q, (nS), (vI 10)]) L2 fun d1M M3 =>
 oP E (eX d1M 0) M3 fun f3R L3 =>
 oP E (eX d1M 1) L3 fun f3S N5 =>
 oP E (xV (Instr.alloc 49 true (.tuple #[]))) N5 fun a3d M4 =>
 oP E (sA 49 a3d f3R) M4 fun _z_63 M5 =>
 oP E (xBin .neq 29 (.tmp 56) (.const (vI 0)) f3S (vI 0)) M5 fun a8V N6 =>
 oP E (gsem (asB a8V) false (fA 49 a3d 4)) N6 fun f3T N7 =>
 oP E (gsem (asB a8V) false (lA 45 f3T)) N7 fun f3U L4 =>
 oP E (gsem (asB a8V) false (xBuiltin .len #[45] 3 [false] [f3U])) L4 fun f3V O1 =>
 oP E (gsem (asB a8V) false (xBin .neq 3 (.tmp 61) (.const (vI 1)) f3V (vI 1))) O1 fun f3W P0 =>
 oP E (xPick a8V (vB true) f3W) P0 fun b3V R0 =>
 oP E (gsem (asB b3V) false (fA 49 a3d 5)) R0 fun f3X N0 =>
 oP E (gsem (asB b3V) false (lA 47 f3X)) N0 fun f3Y R1 =>
 oP E (gsem (asB b3V) false (xBuiltin .len #[47] 3 [false] [f3Y])) R1 fun f3Z P6 =>
 oP E (gsem (asB b3V) false (xBin .neq 3 (.tmp 67) (.const (vI 1)) f3Z (vI 1))) P6 fun f4a O2 =>
 oP E (xPick b3V (vB true) f4a) O2 fun a6J R2 =>
 oP E (gsem (asB a6J) false (fA 49 a3d 5)) R2 fun f4b N1 =>
 oP E (gsem (asB a6J) false (lA 47 f4b)) N1 fun f4c V4 =>
 oP E (gsem (asB a6J) false (iA 47 f4c (vI 0))) V4 fun c3O a0x =>
 oP E (gsem (asB a6J) false (lA 45 c3O)) a0x fun b0D a0q =>
 oP E (gsem (asB a6J) false (xBuiltin .len #[45] 3 [false] [b0D])) a0q fun f4d W8 =>
 oP E (gsem (asB a6J) false (xBin .neq 3 (.tmp 75) (.tmp 76) f4d (gval (asB a6J) false x3))) W8 fun f4e a0r =>
 oP E (xPick a6J (vB true) f4e) a0r fun f4f R6 =>
 xcond f4f
 (R (vB false) R6)
 (oP E (xBin .lss 2 (.tmp 80) (.const (vI 0)) x0 (vI 0)) R6 fun b5a M8 =>
 oP E (gsem (asB b5a) false (xBin .geq 2 (.tmp 83) (.tmp 84) (gval (asB b5a) false x0) (gval (asB b5a) false x3))) M8 fun e3p N8 =>
 oP E (xPick b5a (vB true) e3p) N8 fun e3q S3 =>
 xcond e3q
 (oP E (fA 49 a3d 0) S3 fun e3r a0K =>
 oP E (lA 3 e3r) a0K fun e3s a1P =>
 oP E (xBin .eql 3 (.tmp 88) (.const (vI 3)) e3s (vI 3)) a1P fun b5b a0L =>
 oP E (gsem (asB b5b) true (fA 49 a3d 1)) a0L fun e3t P9 =>
 oP E (gsem (asB b5b) true (lA 3 e3t)) P9 fun e3u S4 =>
 oP E (gsem (asB b5b) true (xBin .eql 3 (.tmp 92) (.const (vI 3)) e3u (vI 3))) S4 fun e3v a1D =>
 oP E (xPick b5b e3v (vB false)) a1D fun b5c P3 =>
 oP E (gsem (asB b5c) true (fA 49 a3d 2)) P3 fun e3w a1l =>
 oP E (gsem (asB b5c) true (lA 3 e3w)) a1l fun e3x a3p =>
 oP E (gsem (asB b5c) true (xBin .eql 3 (.tmp 97) (.const (vI 1)) e3x (vI 1))) a3p fun e3y a3Q =>
 oP E (xPick b5c e3y (vB false)) a3Q fun e3z a3q =>
 R e3z a3q)
 (oP E (fA 49 a3d 5) S3 fun b6G a3R =>
 oP E (lA 47 b6G) a3R fun b6H a1E =>
 oP E (iA 47 b6H (vI 0)) a1E fun a6l a1F =>
 oP E (lA 45 a6l) a1F fun d6x a2B =>
 oP E (iA 45 d6x x0) a2B fun b6I a3P =>
 oP E (lA 2 b6I) a3P fun b6J a4y =>
 oP E (xBin .neq 2 (.tmp 106) (.tmp 107) b6J x2) a4y fun d6y a4z =>
 xcond d6y
 (R (vB false) a4z)
 (oP E (xBin .lss 2 (.tmp 109) (.const (vI 0)) x1 (vI 0)) a4z fun b2g a4A =>
 oP E (gsem (asB b2g) false (xBin .geq 2 (.tmp 112) (.tmp 113) (gval (asB b2g) false x1) (gval (asB b2g) false x3))) a4A fun d6z a7m =>
 oP E (xPick b2g (vB true) d6z) a7m fun d6A a5C =>
 xcond d6A
 (oP E (fA 49 a3d 0) a5C fun d6B a7n =>
 oP E (lA 3 d6B) a7n fun d6C b1o =>
 oP E (xBin .eql 3 (.tmp 117) (.const (vI 3)) d6C (vI 3)) b1o fun b2h b1p =>
 oP E (gsem (asB b2h) true (fA 49 a3d 1)) b1p fun d6D a9v =>
 oP E (gsem (asB b2h) true (lA 3 d6D)) a9v fun d6E b1q =>
 oP E (gsem (asB b2h) true (xBin .eql 3 (.tmp 121) (.const (vI 3)) d6E (vI 3))) b1q fun d6F b8k =>
 oP E (xPick b2h d6F (vB false)) b8k fun b2i b8l =>
 oP E (gsem (asB b2i) true (fA 49 a3d 2)) b8l fun d6G b8m =>
 oP E (gsem (asB b2i) true (lA 3 d6G)) b8m fun d6H b8n =>
 oP E (gsem (asB b2i) true (xBin .eql 3 (.tmp 126) (.const (vI 2)) d6H (vI 2))) b8n fun d6I a5M =>
 oP E (xPick b2i d6I (vB false)) a5M fun d6J b8o =>
 R d6J b8o)
 (xcut (fun g0s c8N => c8R a3d (nth g0s 0) c8N R E) fun j1 =>
 oP E (xBin .eql 2 (.tmp 129) (.tmp 130) x0 x1) a5C fun d6K c1l =>
 xcond d6K
 (j1 [x2] c1l)
 (j1 [(vI 0)] c1l)))))))
noncomputable def c7 : Code := Tryd.f7.body.getD .skip
def h7 : Hint := (sQ (.seq (sQ (.cond (sQ .none) .none)) (.seq (sQ (.cond (sQ .none) .none)) (sQ (sQ (.seq (sQ (.cond (sQ .none) .none)) (sQ (.seq (sQ (.cond (sQ .none) .none)) (.seq (sQ (.cond (sQ .none) .none)) (.seq (sQ (.cond (sQ .none) .none)) (sQ (.cut [13] (sQ (.cond .none .none)) (sQ .none)))))))))))))
theorem g0t (x0 x1 x2 x3 : Value) (w : World) (R : RT) (E : Pan) : F7 x0 x1 x2 x3 w R E = callX Tryd.prog [.tmp 8] c7 h7 [x0, x1, x2, x3] w R E := by kernel_rfl
theorem g0u {x0 x1 x2 x3 : Value} (h : F7 x0 x1 x2 x3 w R E) : Cv Tryd.prog 7 #[x0, x1, x2, x3] w R E := by
 refine g8 (args := [x0, x1, x2, x3]) (c := c7) (h := h7) (rs := [.tmp 8]) Tryd.func7 (by kernel_rfl) (by kernel_rfl) (nB (by kernel_rfl)) (by kernel_rfl) (by kernel_rfl) (by kernel_rfl) ?_
 rw [← g0t]
 exact h
def F17 (w : World) (R : RT) (E : Pan) : Prop :=
 oP E (xV (Instr.build 24 #[(0, (vI 2)), (2, (Value.string ⟨#[120]⟩))])) w fun b1m w_2 =>
 oP E (xV (Instr.build 24 #[(0, (vI 1)), (1, (vI 2))])) w_2 fun a3j w_4 =>
 oP E (xV (Instr.buildSlice 22 2 #[(0, b1m), (1, a3j)])) w_4 fun a7V w_6 =>
 oP E (xV (Instr.build 24 #[(0, (vI 6)), (3, a7V)])) w_6 fun a4F w_8 =>
 oP E (xV (Instr.alloc 24 true (.tuple #[]))) w_8 fun f4g m7 =>
 oP E (sA 24 f4g a4F) m7 fun _z_11 o4 =>
 oP E (xV (Instr.build 58 #[(0, (Value.string ⟨#[120]⟩))])) o4 fun b1n o3 =>
 oP E (xV (Instr.buildSlice 41 1 #[(0, b1n)])) o3 fun b3i p7 =>
 oP E (xV (Instr.build 24 #[(0, (vI 1)), (1, (vI 1))])) p7 fun b3j p8 =>
 oP E (xV (Instr.buildSlice 22 1 #[(0, b3j)])) p8 fun b3k q7 =>
 oP E (xV (Instr.build 63 #[(0, (vI 1)), (1, (Value.string ⟨#[120]⟩)), (2, b3k)])) q7 fun f4h r8 =>
 oP E (lA 24 f4g) r8 fun c1R u1 =>
 oP E (xV (Instr.buildSlice 22 1 #[(0, c1R)])) u1 fun f4i z6 =>
 oP E (xV (Instr.build 63 #[(0, (vI 1)), (1, (Value.string ⟨#[120]⟩)), (2, f4i)])) z6 fun f4j C0 =>
 oP E (xV (Instr.buildSlice 42 2 #[(0, f4h), (1, f4j)])) C0 fun f4k D3 =>
 oP E (xV (Instr.build 44 #[(0, b3i), (1, f4k)])) D3 fun f4l B8 =>
 oP E (xV (Instr.alloc 44 true (.tuple #[]))) B8 fun d8V C3 =>
 oP E (sA 44 d8V f4l) C3 fun _z_35 E9 =>
 oP E (lA 44 d8V) E9 fun c1W C7 =>
 oP E (xCall (fC 18) [c1W, (nS), (vI 9)]) C7 fun b7o D5 =>
 oP E (eX b7o 0) D5 fun c2C G4 =>
 oP E (eX b7o 1) G4 fun c2D F0 =>
 oP E (xV (Instr.alloc 49 true (.tuple #[]))) F0 fun b8w K9 =>
 oP E (sA 49 b8w c2C) K9 fun _z_47 J0 =>
 oP E (xBin .eql 29 (.tmp 24) (.const (vI 0)) c2D (vI 0)) J0 fun b8x G2 =>
 oP E (gsem (asB b8x) true (fA 49 b8w 0)) G2 fun f4m E1 =>
 oP E (gsem (asB b8x) true (lA 3 f4m)) E1 fun f4n L2 =>
 oP E (gsem (asB b8x) true (xBin .eql 3 (.tmp 28) (.const (vI 2)) f4n (vI 2))) L2 fun b8y M3 =>
 oP E (xPick b8x b8y (vB false)) M3 fun b0I L3 =>
 oP E (gsem (asB b0I) true (fA 49 b8w 2)) L3 fun b3n N5 =>
 oP E (gsem (asB b0I) true (lA 3 b3n)) N5 fun b3o M4 =>
 oP E (gsem (asB b0I) true (xBin .eql 3 (.tmp 33) (.const (vI 2)) b3o (vI 2))) M4 fun b3p M5 =>
 oP E (xPick b0I b3p (vB false)) M5 fun a7X N6 =>
 oP E (gsem (asB a7X) true (fA 49 b8w 4)) N6 fun f4o N7 =>
 oP E (gsem (asB a7X) true (lA 45 f4o)) N7 fun f4p L4 =>
 oP E (gsem (asB a7X) true (xBuiltin .len #[45] 3 [false] [f4p])) L4 fun f4q O1 =>
 oP E (gsem (asB a7X) true (xBin .eql 3 (.tmp 39) (.const (vI 1)) f4q (vI 1))) O1 fun f4r P0 =>
 oP E (xPick a7X f4r (vB false)) P0 fun b0J R0 =>
 oP E (gsem (asB b0J) true (fA 49 b8w 4)) R0 fun f4s N0 =>
 oP E (gsem (asB b0J) true (lA 45 f4s)) N0 fun f4t R1 =>
 oP E (gsem (asB b0J) true (iA 45 f4t (vI 0))) R1 fun f4u P6 =>
 oP E (gsem (asB b0J) true (lA 2 f4u)) P6 fun f4v O2 =>
 oP E (gsem (asB b0J) true (xBin .eql 2 (.tmp 46) (.const (vI 3)) f4v (vI 3))) O2 fun f4w R2 =>
 oP E (xPick b0J f4w (vB false)) R2 fun f4x N1 =>
 R f4x N1
noncomputable def c17 : Code := Tryd.f17.body.getD .skip
def h17 : Hint := (sQ (sQ (sQ (sQ (sQ .none)))))
theorem f4y (w : World) (R : RT) (E : Pan) : F17  w R E = callX Tryd.prog [.tmp 0] c17 h17 [] w R E := by kernel_rfl
theorem f4z (h : F17  w R E) : Cv Tryd.prog 17 #[] w R E := by
 refine g8 (args := []) (c := c17) (h := h17) (rs := [.tmp 0]) Tryd.func17 (by kernel_rfl) (by kernel_rfl) (Nat.zero_le _) (by kernel_rfl) (by kernel_rfl) (by kernel_rfl) ?_
 rw [← f4y]
 exact h
def c4l (x6 x14 : Value) (w : World) (R : RT) (E : Pan) : Prop :=
 ∀ _τ : Fr, (oP E (lA 49 x14) w fun e3A O1 =>
 oP E (sA 49 x6 e3A) O1 fun _z_73 P0 =>
 xcell Tryd.prog 49 x6 P0 fun g4v =>
 R (Value.tuple #[g4v, (vI 0)]) P0)
def d1N (_x6 _x10 _x14 _x89 _x90 x91 : Value) (w : World) (next3 : NT) (_R : RT) (E : Pan) : Prop :=
 ∀ _τ : Fr, (oP E (xBin .add 3 (.tmp 91) (.const (vI 1)) x91 (vI 1)) w fun e3B g4w =>
 next3 [e3B] g4w)
def c4m (x6 x10 x14 x89 x90 x91 : Value) (w : World) (next3 : NT) (j2 : NT) (R : RT) (E : Pan) : Prop :=
 oP E (xBin .lss 3 (.tmp 91) (.tmp 90) x91 x90) w fun f4A f4B =>
 xcond f4A
 (xcut (fun _ b6K => d1N x6 x10 x14 x89 x90 x91 b6K next3 R E) fun j4 =>
 oP E (iA 41 x89 x91) f4B fun f4C b3W =>
 oP E (lA 58 f4C) b3W fun f4D g4x =>
 oP E (xV (Instr.alloc 58 true (.tuple #[]))) g4x fun b8z g4y =>
 oP E (sA 58 b8z f4D) g4y fun _z_96 b2j =>
 oP E (fA 58 b8z 1) b2j fun f4E c4n =>
 oP E (lA 3 f4E) c4n fun e3C c1n =>
 oP E (xBin .gtr 3 (.tmp 96) (.const (vI 0)) e3C (vI 0)) c1n fun e3D b5d =>
 xcond e3D
 (dX b5d fun N8 =>
 qP Tryd.prog (fA 49 x14 5) fun c0a =>
 qP Tryd.prog (xNil x10) fun d6L =>
 qP Tryd.prog (fA 90 d6L 5) fun c4o =>
 qP Tryd.prog (fA 58 b8z 0) fun c4p =>
 qL Tryd.prog N8 (blk c0a) (lA 47 c0a) fun e3E =>
 qL Tryd.prog N8 (blk c4o) (lA 88 c4o) fun c4q =>
 qL Tryd.prog N8 (blk c4p) (lA 9 c4p) fun d6M =>
 qL Tryd.prog N8 (blk c4q) (xV (Instr.lookup 88 c4q d6M false)) fun d6N =>
 oP E (xV (Instr.buildSlice 47 1 #[(0, d6N)])) N8 fun d6O P9 =>
 keepX [(blk c0a)] N8 P9 (opK Tryd.prog E (xBuiltin .append #[47, 47] 47 [false, false] [e3E, d6O]) P9 fun d6P S4 =>
 keepX [] P9 S4 (qP Tryd.prog (fA 49 x14 5) fun d6Q =>
 oP E (sA 47 d6Q d6P) S4 fun _z_118 d8W =>
 keepX [] S4 d8W (j4 [] d8W))))
 (dX b5d fun P3 =>
 qP Tryd.prog (fA 49 x14 4) fun b6L =>
 qP Tryd.prog (xNil x10) fun d6R =>
 qP Tryd.prog (fA 90 d6R 4) fun c4r =>
 qP Tryd.prog (fA 58 b8z 0) fun c4s =>
 qL Tryd.prog P3 (blk b6L) (lA 45 b6L) fun d6S =>
 qL Tryd.prog P3 (blk c4r) (lA 87 c4r) fun c4t =>
 qL Tryd.prog P3 (blk c4s) (lA 9 c4s) fun d6T =>
 qL Tryd.prog P3 (blk c4t) (xV (Instr.lookup 87 c4t d6T false)) fun d6U =>
 qP Tryd.prog (xNil d6U) fun c4u =>
 qL Tryd.prog P3 (blk c4u) (lA 2 c4u) fun d6V =>
 oP E (xV (Instr.buildSlice 45 1 #[(0, d6V)])) P3 fun d6W a1E =>
 keepX [(blk b6L)] P3 a1E (opK Tryd.prog E (xBuiltin .append #[45, 45] 45 [false, false] [d6S, d6W]) a1E fun d6X a1F =>
 keepX [] a1E a1F (qP Tryd.prog (fA 49 x14 4) fun d6Y =>
 oP E (sA 45 d6Y d6X) a1F fun _z_136 d8X =>
 keepX [] a1F d8X (j4 [] d8X)))))
 (j2 [] f4B)
def d1O (x3 x6 x10 : Value) (w : World) (R : RT) (E : Pan) : Prop :=
 ∀ _τ : Fr, (oP E (fA 44 x3 1) w fun f4F K9 =>
 oP E (lA 42 f4F) K9 fun f4G J0 =>
 oP E (xCall (fC 45) [x10, f4G]) J0 fun f4H G2 =>
 oP E (xV (Instr.alloc 93 true (.tuple #[]))) G2 fun c4v E1 =>
 oP E (sA 93 c4v f4H) E1 fun _z_53 L2 =>
 dX L2 fun b1M =>
 qP Tryd.prog (fA 93 c4v 0) fun c4w =>
 qP Tryd.prog (fA 93 c4v 1) fun c4x =>
 qP Tryd.prog (xNil x10) fun f4I =>
 qP Tryd.prog (fA 90 f4I 1) fun c4y =>
 qP Tryd.prog (xNil x10) fun f4J =>
 qP Tryd.prog (fA 90 f4J 3) fun c4z =>
 qL Tryd.prog b1M (blk c4w) (lA 3 c4w) fun f4K =>
 qL Tryd.prog b1M (blk c4x) (lA 3 c4x) fun f4L =>
 qL Tryd.prog b1M (blk c4y) (lA 3 c4y) fun f4M =>
 qL Tryd.prog b1M (blk c4z) (lA 46 c4z) fun f4N =>
 qP Tryd.prog (xV (Instr.build 49 #[(0, f4K), (1, f4L), (2, f4M), (3, f4N)])) fun f4O =>
 oP E (xV (Instr.alloc 49 true (.tuple #[]))) b1M fun c4A N7 =>
 keepX [(blk c4z), (blk c4y), (blk c4x), (blk c4w)] b1M N7 (opK Tryd.prog E (sA 49 c4A f4O) N7 fun _z_69 L4 =>
 keepX [] N7 L4 (xcut (fun _ c0b => c4l x6 c4A c0b R E) fun j2 =>
 oP E (fA 44 x3 0) L4 fun c4B b1t =>
 oP E (lA 41 c4B) b1t fun b3X d6Z =>
 oP E (xBuiltin .len #[41] 3 [false] [b3X]) d6Z fun c4C d7a =>
 xloop [91] [(vI 0)] d7a fun τ_138 c8V next3 =>
 c4m x6 x10 c4A b3X c4C (τ_138 91) c8V next3 j2 R E)))
def d1P (_x3 _x6 _x10 _x45 _x46 x47 : Value) (w : World) (next5 : NT) (_R : RT) (E : Pan) : Prop :=
 ∀ _τ : Fr, (oP E (xBin .add 3 (.tmp 47) (.const (vI 1)) x47 (vI 1)) w fun e3F g0v =>
 next5 [e3F] g0v)
def d1Q (x3 x6 x10 x45 x46 x47 : Value) (w : World) (next5 : NT) (j1 : NT) (R : RT) (E : Pan) : Prop :=
 oP E (xBin .lss 3 (.tmp 47) (.tmp 46) x47 x46) w fun e3G d8Y =>
 xcond e3G
 (xcut (fun _ g0w => d1P x3 x6 x10 x45 x46 x47 g0w next5 R E) fun j6 =>
 oP E (iA 41 x45 x47) d8Y fun e3H g0x =>
 oP E (lA 58 e3H) g0x fun e3I g0y =>
 oP E (xV (Instr.alloc 58 true (.tuple #[]))) g0y fun b0K g0z =>
 oP E (sA 58 b0K e3I) g0z fun _z_160 g0A =>
 oP E (fA 58 b0K 1) g0A fun e3J g0B =>
 oP E (lA 3 e3J) g0B fun e3K g0C =>
 oP E (xBin .gtr 3 (.tmp 52) (.const (vI 0)) e3K (vI 0)) g0C fun e3L d8Z =>
 xcond e3L
 (dX d8Z fun a5M =>
 qP Tryd.prog (xNil x10) fun e3M =>
 qP Tryd.prog (fA 90 e3M 5) fun c0c =>
 qP Tryd.prog (fA 58 b0K 0) fun c0d =>
 qP Tryd.prog (fA 58 b0K 1) fun c6s =>
 qL Tryd.prog a5M (blk c0c) (lA 88 c0c) fun e3N =>
 qL Tryd.prog a5M (blk c0d) (lA 9 c0d) fun e3O =>
 qL Tryd.prog a5M (blk c6s) (lA 3 c6s) fun c6t =>
 oP E (xV (Instr.makeSlice 45 c6t c6t)) a5M fun e3P c8W =>
 keepX [(blk c0d), (blk c0c)] a5M c8W (opK Tryd.prog E (xU (Instr.mapUpdate 88 e3N e3O e3P)) c8W fun _z_178 d9a =>
 keepX [] c8W d9a (j6 [] d9a)))
 (dX d8Z fun a9B =>
 qP Tryd.prog (xNil x10) fun e3Q =>
 qP Tryd.prog (fA 90 e3Q 4) fun c0e =>
 qP Tryd.prog (fA 58 b0K 0) fun c0f =>
 qL Tryd.prog a9B (blk c0e) (lA 87 c0e) fun e3R =>
 qL Tryd.prog a9B (blk c0f) (lA 9 c0f) fun e3S =>
 oP E (xV (Instr.alloc 2 true (.tuple #[]))) a9B fun e3T c8X =>
 keepX [(blk c0f), (blk c0e)] a9B c8X (opK Tryd.prog E (xU (Instr.mapUpdate 87 e3R e3S e3T)) c8X fun _z_188 d9b =>
 keepX [] c8X d9b (j6 [] d9b))))
 (j1 [] d8Y)
def F18 (x0 x1 x2 : Value) (w : World) (R : RT) (E : Pan) : Prop :=
 oP E (xV (Instr.box 44 x0)) w fun G5 w_2 =>
 oP E (xV (Instr.alloc 49 true (.tuple #[]))) w_2 fun a3j w_4 =>
 oP E (lA 44 G5) w_4 fun c8O w_6 =>
 oP E (xCall (fC 34) [c8O]) w_6 fun d9c w_8 =>
 oP E (eX d9c 0) w_8 fun _t20_9 m7 =>
 oP E (eX d9c 1) m7 fun d1R o4 =>
 oP E (xBin .neq 29 (.tmp 22) (.const (vI 0)) d1R (vI 0)) o4 fun f4P o3 =>
 xcond f4P
 (oP E (xV (Instr.build 49 #[])) o3 fun f4Q p7 =>
 oP E (sA 49 a3j f4Q) p7 fun _z_17 p8 =>
 xcell Tryd.prog 49 a3j p8 fun g4z =>
 R (Value.tuple #[g4z, d1R]) p8)
 (oP E (xBin .lss 3 (.tmp 26) (.const (vI 0)) x2 (vI 0)) o3 fun c4D a1N =>
 oP E (gsem (asB c4D) false (xBin .gtr 3 (.tmp 29) (.const (vI 65536)) (gval (asB c4D) false x2) (vI 65536))) a1N fun f4R a4i =>
 oP E (xPick c4D (vB true) f4R) a4i fun b8A b1i =>
 oP E (gsem (asB b8A) false (xBuiltin .len #[45] 3 [false] [(gval (asB b8A) false x1)])) b1i fun f4S a3i =>
 oP E (gsem (asB b8A) false (xBin .gtr 3 (.tmp 34) (.const (vI 65536)) f4S (vI 65536))) a3i fun f4T d3N =>
 oP E (xPick b8A (vB true) f4T) d3N fun f4U c4E =>
 xcond f4U
 (oP E (xV (Instr.build 49 #[])) c4E fun f4V d7b =>
 oP E (sA 49 a3j f4V) d7b fun _z_34 a9Y =>
 xcell Tryd.prog 49 a3j a9Y fun g4A =>
 R (Value.tuple #[g4A, (vI 80)]) a9Y)
 (oP E (xV (Instr.makeMap 87 none)) c4E fun f4W C7 =>
 oP E (xV (Instr.makeMap 88 none)) C7 fun f4X D5 =>
 oP E (xV (Instr.build 90 #[(0, x2), (2, x1), (4, f4W), (5, f4X)])) D5 fun f4Y G4 =>
 oP E (xV (Instr.box 90 f4Y)) G4 fun d1S F0 =>
 xcut (fun _ g0D => d1O G5 a3j d1S g0D R E) fun j1 =>
 oP E (fA 44 G5 0) F0 fun e3U g0E =>
 oP E (lA 41 e3U) g0E fun c6u g0F =>
 oP E (xBuiltin .len #[41] 3 [false] [c6u]) g0F fun e3V g0G =>
 xloop [47] [(vI 0)] g0G fun τ_190 g0H next5 =>
 d1Q G5 a3j d1S c6u e3V (τ_190 47) g0H next5 j1 R E))
noncomputable def c18 : Code := Tryd.f18.body.getD .skip
def h18 : Hint := (sQ (.seq (sQ (sQ (.cond (sQ .none) .none))) (.seq (sQ (.cond (sQ .none) .none)) (sQ (.cut [] (sQ (.block (.loop [47] (sQ (.seq (.cond .none .none) (.cut [] (.block (sQ (sQ (.cond (.reg [(0, 18014398509481984, 1024), (1, 36028797018963968, 18014398509481984), (2, 72057594037927936, 36028797018963968), (4, 144115188075855872, 72057594037927936), (0, 288230376151711744, 4096), (16, 576460752303423488, 288230376151711744), (0, 1152921504606846976, 4096), (64, 2305843009213693952, 1152921504606846976), (128, 4611686018427387904, 2305843009213693952), (511, 0, 5332261958806667264)] [168, 168, 168, 160, 168, 136, 168, 40, 40, 0] (.early 0 (.early 1 (.early 2 (.early 4 (.early 6 (.load 3 (.load 5 (.load 7 (.step 8 (.step 9 .done))))))))))) (.reg [(0, 9223372036854775808, 1024), (1, 18446744073709551616, 9223372036854775808), (2, 36893488147419103232, 18446744073709551616), (4, 73786976294838206464, 36893488147419103232), (0, 147573952589676412928, 4096), (16, 295147905179352825856, 147573952589676412928), (0, 590295810358705651712, 0), (127, 0, 959230691832896684032)] [40, 40, 40, 32, 40, 8, 40, 0] (.early 0 (.early 1 (.early 2 (.early 4 (.load 3 (.load 5 (.step 6 (.step 7 .done))))))))))))) .none)))))) (sQ (.seq (.reg [(0, 37778931862957161709568, 8192), (1, 75557863725914323419136, 37778931862957161709568), (0, 151115727451828646838272, 8192), (4, 302231454903657293676544, 151115727451828646838272), (0, 604462909807314587353088, 1024), (16, 1208925819614629174706176, 604462909807314587353088), (32, 2417851639229258349412352, 1208925819614629174706176), (64, 4835703278458516698824704, 2417851639229258349412352), (0, 9671406556917033397649408, 1024), (256, 19342813113834066795298816, 9671406556917033397649408), (512, 38685626227668133590597632, 19342813113834066795298816), (1024, 77371252455336267181195264, 38685626227668133590597632), (2186, 154742504910672534362390528, 82584745052424355497115648), (0, 16384, 0), (16383, 0, 154742504910672534362406912)] [2186, 2184, 2186, 2178, 2186, 2186, 2186, 2058, 2186, 2186, 2186, 138, 2186, 2186, 0] (.early 0 (.early 2 (.early 4 (.early 5 (.early 6 (.early 8 (.early 9 (.early 10 (.load 1 (.load 3 (.load 7 (.load 11 (.early 12 (.step 13 (.step 14 .done)))))))))))))))) (.cut [] (sQ (.block (.loop [91] (sQ (.seq (.cond .none .none) (.cut [] (.block (sQ (sQ (.cond (.reg [(0, 316912650057057350374175801344, 16384), (1, 633825300114114700748351602688, 316912650057057350374175801344), (0, 1267650600228229401496703205376, 1024), (4, 2535301200456458802993406410752, 1267650600228229401496703205376), (8, 5070602400912917605986812821504, 2535301200456458802993406410752), (16, 10141204801825835211973625643008, 5070602400912917605986812821504), (0, 20282409603651670423947251286016, 65536), (64, 40564819207303340847894502572032, 20282409603651670423947251286016), (160, 81129638414606681695789005144064, 50706024009129176059868128215040), (256, 162259276829213363391578010288128, 81129638414606681695789005144064), (514, 324518553658426726783156020576256, 162893102129327478092326361890816), (2047, 649037107316853453566312041152512, 16384), (4095, 0, 973555660975280180349468061728768)] [418, 416, 418, 418, 418, 386, 418, 290, 162, 2, 0, 418, 0] (.early 0 (.early 2 (.early 3 (.early 4 (.early 6 (.load 1 (.load 5 (.load 7 (.load 8 (.step 9 (.step 10 (.early 11 (.step 12 .done)))))))))))))) (.reg [(0, 1298074214633706907132624082305024, 16384), (1, 2596148429267413814265248164610048, 1298074214633706907132624082305024), (0, 5192296858534827628530496329220096, 1024), (4, 10384593717069655257060992658440192, 5192296858534827628530496329220096), (8, 20769187434139310514121985316880384, 10384593717069655257060992658440192), (16, 41538374868278621028243970633760768, 20769187434139310514121985316880384), (0, 83076749736557242056487941267521536, 65536), (64, 166153499473114484112975882535043072, 83076749736557242056487941267521536), (160, 332306998946228968225951765070086144, 207691874341393105141219853168803840), (256, 664613997892457936451903530140172288, 332306998946228968225951765070086144), (512, 1329227995784915872903807060280344576, 664613997892457936451903530140172288), (1024, 2658455991569831745807614120560689152, 1329227995784915872903807060280344576), (2050, 5316911983139663491615228241121378304, 2661052139999099159621879368725299200), (8191, 10633823966279326983230456482242756608, 16384), (16383, 0, 15950735949418990474845684723364134912)] [1442, 1440, 1442, 1442, 1442, 1410, 1442, 1314, 1186, 1442, 418, 2, 0, 1442, 0] (.early 0 (.early 2 (.early 3 (.early 4 (.early 6 (.load 1 (.load 5 (.load 7 (.load 8 (.early 9 (.load 10 (.step 11 (.step 12 (.early 13 (.step 14 .done)))))))))))))))))))) .none)))))) (sQ .none)))))))))
theorem f4Z (x0 x1 x2 : Value) (w : World) (R : RT) (E : Pan) : F18 x0 x1 x2 w R E = callX Tryd.prog [.cell 6 49, .tmp 7] c18 h18 [x0, x1, x2] w R E := by kernel_rfl
theorem f5a {x0 x1 x2 : Value} (h : F18 x0 x1 x2 w R E) : Cv Tryd.prog 18 #[x0, x1, x2] w R E := by
 refine g8 (args := [x0, x1, x2]) (c := c18) (h := h18) (rs := [.cell 6 49, .tmp 7]) Tryd.func18 (by kernel_rfl) (by kernel_rfl) (nB (by kernel_rfl)) (by kernel_rfl) (by kernel_rfl) (by kernel_rfl) ?_
 rw [← f4Z]
 exact h
def F23 (x0 : Value) (w : World) (R : RT) (E : Pan) : Prop :=
 oP E (xV (Instr.alloc 24 true (.tuple #[]))) w fun b6B w_2 =>
 oP E (xBin .lss 2 (.tmp 3) (.const (vI 0)) x0 (vI 0)) w_2 fun a5U w_4 =>
 xcond a5U
 (oP E (xV (Op.unary .neg x0)) w_4 fun a6N w_6 =>
 oP E (xV (Instr.build 24 #[(0, (vI 1)), (1, a6N)])) w_6 fun a9R w_8 =>
 oP E (xV (Instr.buildSlice 22 1 #[(0, a9R)])) w_8 fun a6O m7 =>
 oP E (xV (Instr.build 24 #[(0, (vI 5)), (3, a6O)])) m7 fun a9u o4 =>
 oP E (sA 24 b6B a9u) o4 fun _z_13 o3 =>
 xcell Tryd.prog 24 b6B o3 fun d5o =>
 R d5o o3)
 (oP E (xV (Instr.build 24 #[(0, (vI 1)), (1, x0)])) w_4 fun b2R a2k =>
 oP E (sA 24 b6B b2R) a2k fun _z_18 a3s =>
 xcell Tryd.prog 24 b6B a3s fun g4B =>
 R g4B a3s)
noncomputable def c23 : Code := Tryd.f23.body.getD .skip
def h23 : Hint := (sQ (.seq (sQ (.cond (sQ .none) .none)) (sQ .none)))
theorem f5b (x0 : Value) (w : World) (R : RT) (E : Pan) : F23 x0 w R E = callX Tryd.prog [.cell 2 24] c23 h23 [x0] w R E := by kernel_rfl
theorem f5c {x0 : Value} (h : F23 x0 w R E) : Cv Tryd.prog 23 #[x0] w R E := by
 refine g8 (args := [x0]) (c := c23) (h := h23) (rs := [.cell 2 24]) Tryd.func23 (by kernel_rfl) (by kernel_rfl) (nB (by kernel_rfl)) (by kernel_rfl) (by kernel_rfl) (by kernel_rfl) ?_
 rw [← f5b]
 exact h
def F24 (x0 x1 : Value) (w : World) (R : RT) (E : Pan) : Prop :=
 oP E (xV (Instr.box 24 x1)) w fun G5 w_2 =>
 oP E (xV (Instr.alloc 63 true (.tuple #[]))) w_2 fun a5U w_4 =>
 oP E (lA 24 G5) w_4 fun a6N w_6 =>
 oP E (xV (Instr.buildSlice 22 1 #[(0, a6N)])) w_6 fun a9R w_8 =>
 oP E (xV (Instr.build 63 #[(0, (vI 1)), (1, x0), (2, a9R)])) w_8 fun a6O m7 =>
 oP E (sA 63 a5U a6O) m7 fun _z_11 o4 =>
 xcell Tryd.prog 63 a5U o4 fun g4C =>
 R g4C o4
noncomputable def c24 : Code := Tryd.f24.body.getD .skip
def h24 : Hint := (sQ (sQ .none))
theorem f5d (x0 x1 : Value) (w : World) (R : RT) (E : Pan) : F24 x0 x1 w R E = callX Tryd.prog [.cell 4 63] c24 h24 [x0, x1] w R E := by kernel_rfl
theorem f5e {x0 x1 : Value} (h : F24 x0 x1 w R E) : Cv Tryd.prog 24 #[x0, x1] w R E := by
 refine g8 (args := [x0, x1]) (c := c24) (h := h24) (rs := [.cell 4 63]) Tryd.func24 (by kernel_rfl) (by kernel_rfl) (nB (by kernel_rfl)) (by kernel_rfl) (by kernel_rfl) (by kernel_rfl) ?_
 rw [← f5d]
 exact h
def d1T (x0 x6 x7 x8 : Value) (w : World) (next1 : NT) (R : RT) (E : Pan) : Prop :=
 oP E (xBin .lss 3 (.tmp 8) (.tmp 7) x8 x7) w fun a2z w_4 =>
 xcond a2z
 (oP E (iA 42 x6 x8) w_4 fun a1k w_6 =>
 oP E (lA 63 a1k) w_6 fun b1l w_8 =>
 oP E (xV (Instr.alloc 63 true (.tuple #[]))) w_8 fun f5f m7 =>
 oP E (sA 63 f5f b1l) m7 fun _z_11 o4 =>
 oP E (lA 63 f5f) o4 fun f5g o3 =>
 oP E (xCall (fC 111) [x0, f5g]) o3 fun _t14_15 p7 =>
 oP E (xBin .add 3 (.tmp 8) (.const (vI 1)) x8 (vI 1)) p7 fun f5h p8 =>
 next1 [f5h] p8)
 (R (Value.tuple #[]) w_4)
def F82 (x0 x1 : Value) (w : World) (R : RT) (E : Pan) : Prop :=
 oP E (xBuiltin .len #[42] 3 [false] [x1]) w fun a2A w_2 =>
 xloop [8] [(vI 0)] w_2 fun τ_19 q7 next1 =>
 d1T x0 x1 a2A (τ_19 8) q7 next1 R E
noncomputable def c82 : Code := Tryd.f82.body.getD .skip
def h82 : Hint := (sQ (.block (.loop [8] (sQ (.seq (.cond .none .none) (.seq (.block (sQ .none)) .none))))))
theorem f5i (x0 x1 : Value) (w : World) (R : RT) (E : Pan) : F82 x0 x1 w R E = callX Tryd.prog [] c82 h82 [x0, x1] w R E := by kernel_rfl
theorem f5j {x0 x1 : Value} (h : F82 x0 x1 w R E) : Cv Tryd.prog 82 #[x0, x1] w R E := by
 refine g8 (args := [x0, x1]) (c := c82) (h := h82) (rs := []) Tryd.func82 (by kernel_rfl) (by kernel_rfl) (nB (by kernel_rfl)) (by kernel_rfl) (by kernel_rfl) (by kernel_rfl) ?_
 rw [← f5i]
 exact h
def c0g (x0 x3 x4 : Value) (w : World) (R : RT) (E : Pan) : Prop :=
 ∀ _τ : Fr, (dX w fun a4i =>
 qP Tryd.prog (xNil x0) fun f5k =>
 qP Tryd.prog (fA 90 f5k 4) fun d1U =>
 qP Tryd.prog (fA 63 x3 1) fun d1V =>
 qL Tryd.prog a4i (blk d1U) (lA 87 d1U) fun d1W =>
 qL Tryd.prog a4i (blk d1V) (lA 9 d1V) fun f5l =>
 qL Tryd.prog a4i (blk d1W) (xV (Instr.lookup 87 d1W f5l false)) fun c4k =>
 qP Tryd.prog (xNil c4k) fun f5m =>
 oP E (sA 2 f5m x4) a4i fun _z_31 B8 =>
 keepX [] a4i B8 (R (Value.tuple #[]) B8))
def c6v (x0 x3 : Value) (w : World) (next2 : NT) (R : RT) (E : Pan) : Prop :=
 oP E (fA 63 x3 3) w fun e3W S3 =>
 oP E (lA 25 e3W) S3 fun e3X a0K =>
 oP E (iA 25 e3X (vI 0)) a0K fun e3Y a1P =>
 oP E (lA 27 e3Y) a1P fun e3Z a0L =>
 oP E (xCall (fC 134) [x0, e3Z]) a0L fun e4a P9 =>
 xcond e4a
 (oP E (fA 63 x3 4) P9 fun e4b S4 =>
 oP E (lA 42 e4b) S4 fun e4c a1D =>
 oP E (xCall (fC 82) [x0, e4c]) a1D fun _t90_119 P3 =>
 next2 [] P3)
 (R (Value.tuple #[]) P9)
def d7c (x0 x1 : Value) (w : World) (R : RT) (E : Pan) : Prop :=
 oP E (xV (Instr.box 63 x1)) w fun G5 w_2 =>
 oP E (fA 63 G5 0) w_2 fun a2z w_4 =>
 oP E (lA 3 a2z) w_4 fun a1k w_6 =>
 oP E (xBin .eql 3 (.tmp 10) (.const (vI 1)) a1k (vI 1)) w_6 fun T5 w_8 =>
 xcond T5
 (oP E (fA 63 G5 2) w_8 fun b7M m7 =>
 oP E (lA 22 b7M) m7 fun b3F o4 =>
 oP E (iA 22 b3F (vI 0)) o4 fun a7S o3 =>
 oP E (lA 24 a7S) o3 fun c2k p7 =>
 oP E (xCall (fC 130) [x0, c2k]) p7 fun b0o p8 =>
 oP E (eX b0o 0) p8 fun c4F q7 =>
 oP E (eX b0o 1) q7 fun c4G r8 =>
 xcut (fun b9M C3 => c0g x0 G5 (nth b9M 0) C3 R E) fun j1 =>
 xcond c4G
 (oP E (xCall (fC 131) [x0]) r8 fun _t26_35 E9 =>
 j1 [c4F] E9)
 (oP E (fA 63 G5 2) r8 fun c3E C7 =>
 oP E (lA 22 c3E) C7 fun b3c D5 =>
 oP E (iA 22 b3c (vI 0)) D5 fun c2u G4 =>
 oP E (lA 24 c2u) G4 fun c2v F0 =>
 oP E (xCall (fC 132) [x0, c2v]) F0 fun c2w K9 =>
 j1 [c2w] K9))
 (oP E (xBin .eql 3 (.tmp 10) (.const (vI 2)) a1k (vI 2)) w_8 fun f5n J0 =>
 xcond f5n
 (oP E (fA 63 G5 2) J0 fun f5o G2 =>
 oP E (lA 22 f5o) G2 fun f5p E1 =>
 oP E (iA 22 f5p (vI 0)) E1 fun f5q L2 =>
 oP E (lA 24 f5q) L2 fun f5r M3 =>
 oP E (xCall (fC 132) [x0, f5r]) M3 fun c3L L3 =>
 oP E (fA 63 G5 2) L3 fun f5s N5 =>
 oP E (lA 22 f5s) N5 fun f5t M4 =>
 oP E (iA 22 f5t (vI 1)) M4 fun f5u M5 =>
 oP E (lA 24 f5u) M5 fun c3N N6 =>
 oP E (xCall (fC 132) [x0, c3N]) N6 fun b7Z N7 =>
 oP E (fA 63 G5 1) N7 fun f5v L4 =>
 oP E (lA 9 f5v) L4 fun f5w O1 =>
 oP E (xCall (fC 133) [x0, f5w, c3L]) O1 fun f5x P0 =>
 oP E (xNil f5x) P0 fun f5y R0 =>
 oP E (sA 2 f5y b7Z) R0 fun _z_77 N0 =>
 R (Value.tuple #[]) N0)
 (oP E (xBin .eql 3 (.tmp 10) (.const (vI 3)) a1k (vI 3)) J0 fun f5z R1 =>
 xcond f5z
 (oP E (fA 63 G5 3) R1 fun b3Y P6 =>
 oP E (lA 25 b3Y) P6 fun b3Z O2 =>
 oP E (iA 25 b3Z (vI 0)) O2 fun b4a R2 =>
 oP E (lA 27 b4a) R2 fun b4b N1 =>
 oP E (xCall (fC 134) [x0, b4b]) N1 fun f5A V4 =>
 xcond f5A
 (oP E (fA 63 G5 4) V4 fun f5B a0x =>
 oP E (lA 42 f5B) a0x fun f5C a0q =>
 oP E (xCall (fC 82) [x0, f5C]) a0q fun _t74_95 W8 =>
 R (Value.tuple #[]) W8)
 (oP E (fA 63 G5 5) V4 fun f5D a0r =>
 oP E (lA 42 f5D) a0r fun f5E R6 =>
 oP E (xCall (fC 82) [x0, f5E]) R6 fun _t78_101 M8 =>
 R (Value.tuple #[]) M8))
 (oP E (xBin .eql 3 (.tmp 10) (.const (vI 4)) a1k (vI 4)) R1 fun e4d N8 =>
 xcond e4d
 (xloop [] [] N8 fun _ a1l next2 =>
 c6v x0 G5 a1l next2 R E)
 (oP E (xBin .eql 3 (.tmp 10) (.const (vI 6)) a1k (vI 6)) N8 fun e4e a3p =>
 xcond e4e
 (oP E (fA 63 G5 3) a3p fun e4f a3Q =>
 oP E (lA 25 e4f) a3Q fun e4g a3q =>
 oP E (iA 25 e4g (vI 0)) a3q fun e4h a3R =>
 oP E (lA 27 e4h) a3R fun e4i a1E =>
 oP E (xCall (fC 134) [x0, e4i]) a1E fun e4j a1F =>
 oP E (xV (Op.unary .not e4j)) a1F fun e4k a2B =>
 xcond e4k
 (oP E (xCall (fC 135) [x0, (vI 2), (vI 0)]) a2B fun _t101_137 a3P =>
 R (Value.tuple #[]) a3P)
 (R (Value.tuple #[]) a2B))
 (oP E (xBin .eql 3 (.tmp 10) (.const (vI 5)) a1k (vI 5)) a3p fun d7d a4y =>
 xcond d7d
 (oP E (fA 63 G5 3) a4y fun d7e a4z =>
 oP E (lA 25 d7e) a4z fun d7f a4A =>
 oP E (iA 25 d7f (vI 0)) a4A fun d7g a7m =>
 oP E (lA 27 d7g) a7m fun d7h a5C =>
 oP E (xCall (fC 134) [x0, d7h]) a5C fun c4H a7n =>
 oP E (xCall (fC 131) [x0]) a7n fun _t111_151 b1o =>
 oP E (xNil x0) b1o fun d7i b1p =>
 oP E (fA 90 d7i 3) b1p fun d7j a9v =>
 oP E (lA 46 d7j) a9v fun d7k b1q =>
 oP E (xV (Instr.build 55 #[(2, c4H)])) b1q fun d7l b8k =>
 oP E (xV (Instr.buildSlice 46 1 #[(0, d7l)])) b8k fun d7m b8l =>
 oP E (xBuiltin .append #[46, 46] 46 [false, false] [d7k, d7m]) b8l fun d7n b8m =>
 oP E (xNil x0) b8m fun d7o b8n =>
 oP E (fA 90 d7o 3) b8n fun d7p a5M =>
 oP E (sA 46 d7p d7n) a5M fun _z_169 b8o =>
 oP E (xV (Op.unary .not c4H)) b8o fun d7q b4X =>
 xcond d7q
 (oP E (xCall (fC 136) [x0, (vI 4)]) b4X fun _t126_173 b8p =>
 R (Value.tuple #[]) b8p)
 (R (Value.tuple #[]) b4X))
 (oP E (xCall (fC 131) [x0]) a4y fun _t12_175 b8q =>
 R (Value.tuple #[]) b8q))))))
noncomputable def f5F : Code := Tryd.f111.body.getD .skip
def f5G : Hint := (sQ (sQ (.block (sQ (.cond (sQ (.cut [4] (sQ (.cond .none .none)) (.reg [(0, 8589934592, 1), (1, 17179869184, 8589934592), (2, 34359738368, 17179869184), (4, 68719476736, 34359738368), (0, 137438953472, 8), (16, 274877906944, 137438953472), (40, 549755813888, 343597383680), (0, 1099511627776, 16), (255, 2199023255552, 549755813888), (511, 0, 3298534883328)] [104, 104, 104, 96, 104, 72, 40, 104, 104, 0] (.early 0 (.early 1 (.early 2 (.early 4 (.early 7 (.load 3 (.load 5 (.load 6 (.early 8 (.step 9 .done))))))))))))) (sQ (.cond (sQ (sQ .none)) (sQ (.cond (sQ (.cond .none .none)) (sQ (.cond (.block (.loop [] (.seq (sQ (.cond .none .none)) (.block .none)))) (sQ (.cond (sQ (.cond .none .none)) (sQ (.cond (sQ (sQ (sQ (sQ (.cond .none .none))))) .none)))))))))))))))
theorem e4l (x0 x1 : Value) (w : World) (R : RT) (E : Pan) : d7c x0 x1 w R E = callX Tryd.prog [] f5F f5G [x0, x1] w R E := by kernel_rfl
theorem e4m {x0 x1 : Value} (h : d7c x0 x1 w R E) : Cv Tryd.prog 111 #[x0, x1] w R E := by
 refine g8 (args := [x0, x1]) (c := f5F) (h := f5G) (rs := []) Tryd.func111 (by kernel_rfl) (by kernel_rfl) (nB (by kernel_rfl)) (by kernel_rfl) (by kernel_rfl) (by kernel_rfl) ?_
 rw [← e4l]
 exact h
def d7r (x0 x1 : Value) (w : World) (R : RT) (E : Pan) : Prop :=
 oP E (xV (Instr.box 24 x1)) w fun G5 w_2 =>
 oP E (fA 24 G5 0) w_2 fun a3j w_4 =>
 oP E (lA 3 a3j) w_4 fun a7V w_6 =>
 oP E (xBin .eql 3 (.tmp 7) (.const (vI 2)) a7V (vI 2)) w_6 fun a4F w_8 =>
 xcond a4F
 (dX w_8 fun w_9 =>
 qP Tryd.prog (xNil x0) fun f5H =>
 qP Tryd.prog (fA 90 f5H 4) fun a6B =>
 qP Tryd.prog (fA 24 G5 2) fun d1X =>
 qL Tryd.prog w_9 (blk a6B) (lA 87 a6B) fun a6C =>
 qL Tryd.prog w_9 (blk d1X) (lA 9 d1X) fun f5I =>
 qL Tryd.prog w_9 (blk a6C) (xV (Instr.lookup 87 a6C f5I false)) fun c4I =>
 qP Tryd.prog (xNil c4I) fun d1Y =>
 qL Tryd.prog w_9 (blk d1Y) (lA 2 d1Y) fun a5u =>
 R (Value.tuple #[a5u, (vB true)]) w_9)
 (oP E (lA 24 G5) w_8 fun f5J a3s =>
 oP E (xCall (fC 146) [f5J]) a3s fun d1Z a1N =>
 oP E (eX d1Z 0) a1N fun f5K a4i =>
 oP E (eX d1Z 1) a4i fun f5L b1i =>
 R (Value.tuple #[f5K, f5L]) b1i)
noncomputable def f5M : Code := Tryd.f130.body.getD .skip
def f5N : Hint := (sQ (.seq (sQ (.cond (.seq (.reg [(0, 512, 1), (1, 1024, 512), (2, 2048, 1024), (4, 4096, 2048), (0, 8192, 8), (16, 16384, 8192), (40, 32768, 20480), (64, 65536, 32768), (128, 131072, 65536), (511, 16, 131072), (1023, 32, 0)] [360, 360, 360, 352, 360, 328, 296, 360, 104, 360, 360] (.early 0 (.early 1 (.early 2 (.early 4 (.load 3 (.load 5 (.load 6 (.early 7 (.load 8 (.early 9 (.early 10 .done)))))))))))) .none) .none)) (sQ .none)))
theorem e4n (x0 x1 : Value) (w : World) (R : RT) (E : Pan) : d7r x0 x1 w R E = callX Tryd.prog [.tmp 4, .tmp 5] f5M f5N [x0, x1] w R E := by kernel_rfl
theorem e4o {x0 x1 : Value} (h : d7r x0 x1 w R E) : Cv Tryd.prog 130 #[x0, x1] w R E := by
 refine g8 (args := [x0, x1]) (c := f5M) (h := f5N) (rs := [.tmp 4, .tmp 5]) Tryd.func130 (by kernel_rfl) (by kernel_rfl) (nB (by kernel_rfl)) (by kernel_rfl) (by kernel_rfl) (by kernel_rfl) ?_
 rw [← e4n]
 exact h
def c6w (x0 : Value) (w : World) (R : RT) (E : Pan) : Prop :=
 ∀ _τ : Fr, (oP E (xNil x0) w fun b4A w_2 =>
 oP E (fA 90 b4A 0) w_2 fun a0J w_4 =>
 oP E (lA 3 a0J) w_4 fun a5x w_6 =>
 oP E (xBin .sub 3 (.tmp 12) (.const (vI 1)) a5x (vI 1)) w_6 fun a5y w_8 =>
 oP E (xNil x0) w_8 fun a3O m7 =>
 oP E (fA 90 a3O 0) m7 fun a5z o4 =>
 oP E (sA 3 a5z a5y) o4 fun _z_13 o3 =>
 oP E (xNil x0) o3 fun a2l p7 =>
 oP E (fA 90 a2l 1) p7 fun b2W p8 =>
 oP E (lA 3 b2W) p8 fun c2b q7 =>
 oP E (xBin .add 3 (.tmp 19) (.const (vI 1)) c2b (vI 1)) q7 fun c2c r8 =>
 oP E (xNil x0) r8 fun c4J u1 =>
 oP E (fA 90 c4J 1) u1 fun b2U z6 =>
 oP E (sA 3 b2U c2c) z6 fun _z_27 C0 =>
 R (Value.tuple #[]) C0)
def d7s (x0 : Value) (w : World) (R : RT) (E : Pan) : Prop :=
 xcut (fun _ D3 => c6w x0 D3 R E) fun j1 =>
 oP E (xNil x0) w fun g0I B8 =>
 oP E (fA 90 g0I 0) B8 fun g0J C3 =>
 oP E (lA 3 g0J) C3 fun g0K E9 =>
 oP E (xBin .eql 3 (.tmp 5) (.const (vI 0)) g0K (vI 0)) E9 fun g0L C7 =>
 xcond g0L
 (oP E (xCall (fC 135) [x0, (vI 1), (vI 0)]) C7 fun _t8_39 D5 =>
 j1 [] D5)
 (j1 [] C7)
noncomputable def f5O : Code := Tryd.f131.body.getD .skip
def f5P : Hint := (.cut [] (sQ (.cond .none .none)) (sQ .none))
theorem e4p (x0 : Value) (w : World) (R : RT) (E : Pan) : d7s x0 w R E = callX Tryd.prog [] f5O f5P [x0] w R E := by kernel_rfl
theorem e4q {x0 : Value} (h : d7s x0 w R E) : Cv Tryd.prog 131 #[x0] w R E := by
 refine g8 (args := [x0]) (c := f5O) (h := f5P) (rs := []) Tryd.func131 (by kernel_rfl) (by kernel_rfl) (nB (by kernel_rfl)) (by kernel_rfl) (by kernel_rfl) (by kernel_rfl) ?_
 rw [← e4p]
 exact h
def c0h (x0 x3 x7 : Value) (w : World) (R : RT) (E : Pan) : Prop :=
 ∀ _τ : Fr, (oP E (fA 24 x3 0) w fun f5Q o4 =>
 oP E (lA 3 f5Q) o4 fun b7n o3 =>
 oP E (xBin .eql 3 (.tmp 33) (.const (vI 3)) b7n (vI 3)) o3 fun f5R p7 =>
 xcond f5R
 (oP E (xCall (fC 147) [x0]) p7 fun f5S p8 =>
 R f5S p8)
 (oP E (xBin .eql 3 (.tmp 33) (.const (vI 4)) b7n (vI 4)) p7 fun f5T q7 =>
 xcond f5T
 (dX q7 fun a1N =>
 qP Tryd.prog (fA 24 x3 2) fun d2a =>
 qP Tryd.prog (iA 45 x7 (vI 0)) fun d2b =>
 qL Tryd.prog a1N (blk d2a) (lA 9 d2a) fun f5U =>
 qL Tryd.prog a1N (blk d2b) (lA 2 d2b) fun f5V =>
 oP E (xCall (fC 133) [x0, f5U, f5V]) a1N fun f5W a3i =>
 keepX [] a1N a3i (qP Tryd.prog (xNil f5W) fun d2c =>
 qL Tryd.prog a3i (blk d2c) (lA 2 d2c) fun f5X =>
 R f5X a3i))
 (oP E (xCall (fC 131) [x0]) q7 fun _t50_30 c4E =>
 oP E (fA 24 x3 0) c4E fun f5Y d7b =>
 oP E (lA 3 f5Y) d7b fun b4c a9Y =>
 oP E (xBin .eql 3 (.tmp 52) (.const (vI 5)) b4c (vI 5)) a9Y fun f5Z d3G =>
 xcond f5Z
 (oP E (iA 45 x7 (vI 0)) d3G fun f6a d3R =>
 oP E (lA 2 f6a) d3R fun f6b b9c =>
 oP E (xCall (fC 101) [f6b]) b9c fun d2d b3d =>
 oP E (eX d2d 0) b3d fun f6c a9T =>
 oP E (eX d2d 1) a9T fun f6d b9d =>
 oP E (xCall (fC 148) [x0, f6c, f6d]) b9d fun f6e b1k =>
 R f6e b1k)
 (oP E (xBin .eql 3 (.tmp 52) (.const (vI 6)) b4c (vI 6)) d3G fun f6f c0i =>
 xcond f6f
 (dX c0i fun E1 =>
 qP Tryd.prog (iA 45 x7 (vI 0)) fun d2e =>
 qP Tryd.prog (iA 45 x7 (vI 1)) fun d2f =>
 qL Tryd.prog E1 (blk d2e) (lA 2 d2e) fun f6g =>
 qL Tryd.prog E1 (blk d2f) (lA 2 d2f) fun f6h =>
 oP E (xCall (fC 26) [f6g, f6h]) E1 fun d2g L3 =>
 keepX [] E1 L3 (qP Tryd.prog (eX d2g 0) fun f6i =>
 qP Tryd.prog (eX d2g 1) fun f6j =>
 oP E (xCall (fC 148) [x0, f6i, f6j]) L3 fun f6k M4 =>
 keepX [] L3 M4 (R f6k M4)))
 (oP E (xBin .eql 3 (.tmp 52) (.const (vI 7)) b4c (vI 7)) c0i fun f6l M5 =>
 xcond f6l
 (dX M5 fun b5W =>
 qP Tryd.prog (iA 45 x7 (vI 0)) fun d2h =>
 qP Tryd.prog (iA 45 x7 (vI 1)) fun d2i =>
 qL Tryd.prog b5W (blk d2h) (lA 2 d2h) fun f6m =>
 qL Tryd.prog b5W (blk d2i) (lA 2 d2i) fun f6n =>
 oP E (xCall (fC 27) [f6m, f6n]) b5W fun d2j d7t =>
 keepX [] b5W d7t (qP Tryd.prog (eX d2j 0) fun f6o =>
 qP Tryd.prog (eX d2j 1) fun f6p =>
 oP E (xCall (fC 148) [x0, f6o, f6p]) d7t fun f6q d7u =>
 keepX [] d7t d7u (R f6q d7u)))
 (oP E (xBin .eql 3 (.tmp 52) (.const (vI 8)) b4c (vI 8)) M5 fun f6r c0b =>
 xcond f6r
 (dX c0b fun N0 =>
 qP Tryd.prog (iA 45 x7 (vI 0)) fun d2k =>
 qP Tryd.prog (iA 45 x7 (vI 1)) fun d2l =>
 qL Tryd.prog N0 (blk d2k) (lA 2 d2k) fun f6s =>
 qL Tryd.prog N0 (blk d2l) (lA 2 d2l) fun f6t =>
 oP E (xCall (fC 28) [f6s, f6t]) N0 fun d2m O2 =>
 keepX [] N0 O2 (qP Tryd.prog (eX d2m 0) fun f6u =>
 qP Tryd.prog (eX d2m 1) fun e4r =>
 oP E (xCall (fC 148) [x0, f6u, e4r]) O2 fun e4s N1 =>
 keepX [] O2 N1 (R e4s N1)))
 (oP E (xBin .eql 3 (.tmp 52) (.const (vI 9)) b4c (vI 9)) c0b fun e4t V4 =>
 xcond e4t
 (dX V4 fun b3W =>
 qP Tryd.prog (iA 45 x7 (vI 0)) fun c6x =>
 qP Tryd.prog (iA 45 x7 (vI 1)) fun b4Z =>
 qL Tryd.prog b3W (blk c6x) (lA 2 c6x) fun e4u =>
 qL Tryd.prog b3W (blk b4Z) (lA 2 b4Z) fun a3Y =>
 oP E (xCall (fC 29) [e4u, a3Y]) b3W fun c6y b2j =>
 keepX [] b3W b2j (qP Tryd.prog (eX c6y 0) fun e4v =>
 qP Tryd.prog (eX c6y 1) fun b9Z =>
 oP E (xCall (fC 148) [x0, e4v, b9Z]) b2j fun d7v c1n =>
 keepX [] b2j c1n (R d7v c1n)))
 (dX V4 fun M8 =>
 qP Tryd.prog (iA 45 x7 (vI 0)) fun c4K =>
 qP Tryd.prog (iA 45 x7 (vI 1)) fun c4L =>
 qL Tryd.prog M8 (blk c4K) (lA 2 c4K) fun d7w =>
 qL Tryd.prog M8 (blk c4L) (lA 2 c4L) fun d7x =>
 oP E (xCall (fC 30) [d7w, d7x]) M8 fun c4M a0K =>
 keepX [] M8 a0K (qP Tryd.prog (eX c4M 0) fun d7y =>
 qP Tryd.prog (eX c4M 1) fun d7z =>
 oP E (xCall (fC 148) [x0, d7y, d7z]) a0K fun d7A a0L =>
 keepX [] a0K a0L (R d7A a0L))))))))))
def c6z (x0 _x3 x7 x19 x20 x21 : Value) (w : World) (next2 : NT) (j1 : NT) (_R : RT) (E : Pan) : Prop :=
 oP E (xBin .lss 3 (.tmp 21) (.tmp 20) x21 x20) w fun e4w a1l =>
 xcond e4w
 (oP E (iA 22 x19 x21) a1l fun e4x a3p =>
 oP E (lA 24 e4x) a3p fun e4y a3Q =>
 oP E (xV (Instr.alloc 24 true (.tuple #[]))) a3Q fun d2n a3q =>
 oP E (sA 24 d2n e4y) a3q fun _z_129 a3R =>
 oP E (lA 24 d2n) a3R fun e4z a1E =>
 oP E (xCall (fC 132) [x0, e4z]) a1E fun e4A a1F =>
 oP E (xV (Instr.buildSlice 45 1 #[(0, e4A)])) a1F fun e4B a2B =>
 oP E (xBuiltin .append #[45, 45] 45 [false, false] [x7, e4B]) a2B fun e4C a3P =>
 oP E (xBin .add 3 (.tmp 21) (.const (vI 1)) x21 (vI 1)) a3P fun e4D a4y =>
 next2 [e4C, e4D] a4y)
 (j1 [x7] a1l)
def d7B (x0 x1 : Value) (w : World) (R : RT) (E : Pan) : Prop :=
 oP E (xV (Instr.box 24 x1)) w fun G5 w_2 =>
 oP E (lA 24 G5) w_2 fun c8Y w_4 =>
 oP E (xCall (fC 130) [x0, c8Y]) w_4 fun a3W w_6 =>
 oP E (eX a3W 0) w_6 fun T5 w_8 =>
 oP E (eX a3W 1) w_8 fun a4x m7 =>
 xcond a4x
 (R T5 m7)
 (xcut (fun g0M P9 => c0h x0 G5 (nth g0M 0) P9 R E) fun j1 =>
 oP E (fA 24 G5 3) m7 fun e4E S4 =>
 oP E (lA 22 e4E) S4 fun c6A a1D =>
 oP E (xBuiltin .len #[22] 3 [false] [c6A]) a1D fun e4F P3 =>
 xloop [7, 21] [(nS), (vI 0)] P3 fun τ_141 a4z next2 =>
 c6z x0 G5 (τ_141 7) c6A e4F (τ_141 21) a4z next2 j1 R E)
noncomputable def f6v : Code := Tryd.f132.body.getD .skip
def f6w : Hint := (sQ (.seq (sQ (sQ (.cond (sQ .none) .none))) (sQ (.cut [7] (sQ (.block (.loop [7, 21] (sQ (.seq (.cond .none .none) (.seq (.block (sQ .none)) .none)))))) (.seq (sQ (.block (sQ (.cond (sQ .none) (sQ (.cond (.seq (.reg [(0, 1099511627776, 1), (0, 2199023255552, 8), (2, 4398046511104, 2199023255552), (0, 8796093022208, 128), (8, 17592186044416, 8796093022208), (16, 35184372088832, 17592186044416), (37, 70368744177664, 40681930227712), (64, 140737488355328, 70368744177664), (128, 281474976710656, 140737488355328), (511, 16, 281474976710656)] [292, 292, 288, 292, 292, 260, 0, 292, 36, 292] (.early 0 (.early 1 (.early 3 (.early 4 (.load 2 (.load 5 (.step 6 (.early 7 (.load 8 (.early 9 .done))))))))))) .none) .none)))))) (sQ (.seq (sQ (.block (sQ (.cond (sQ .none) (sQ (.cond (.seq (.reg [(0, 36893488147419103232, 1), (0, 73786976294838206464, 128), (2, 147573952589676412928, 73786976294838206464), (4, 295147905179352825856, 147573952589676412928), (0, 590295810358705651712, 128), (16, 1180591620717411303424, 590295810358705651712), (32, 2361183241434822606848, 1180591620717411303424), (72, 4722366482869645213696, 2656331146614175432704), (128, 9444732965739290427392, 4722366482869645213696), (128, 18889465931478580854784, 4722366482869645213696), (897, 37778931862957161709568, 28371092385365290385408), (2047, 16, 37778931862957161709568)] [72, 72, 72, 64, 72, 72, 8, 0, 72, 72, 0, 72] (.early 0 (.early 1 (.early 2 (.early 4 (.early 5 (.load 3 (.load 6 (.step 7 (.early 8 (.early 9 (.step 10 (.early 11 .done))))))))))))) .none) (sQ (.cond (.seq (.reg [(0, 302231454903657293676544, 1), (0, 604462909807314587353088, 128), (2, 1208925819614629174706176, 604462909807314587353088), (4, 2417851639229258349412352, 1208925819614629174706176), (0, 4835703278458516698824704, 128), (16, 9671406556917033397649408, 4835703278458516698824704), (32, 19342813113834066795298816, 9671406556917033397649408), (72, 38685626227668133590597632, 21760664753063325144711168), (128, 77371252455336267181195264, 38685626227668133590597632), (128, 154742504910672534362390528, 38685626227668133590597632), (897, 309485009821345068724781056, 232415988820912458837262336), (2047, 16, 309485009821345068724781056)] [72, 72, 72, 64, 72, 72, 8, 0, 72, 72, 0, 72] (.early 0 (.early 1 (.early 2 (.early 4 (.early 5 (.load 3 (.load 6 (.step 7 (.early 8 (.early 9 (.step 10 (.early 11 .done))))))))))))) .none) (sQ (.cond (.seq (.reg [(0, 2475880078570760549798248448, 1), (0, 4951760157141521099596496896, 128), (2, 9903520314283042199192993792, 4951760157141521099596496896), (4, 19807040628566084398385987584, 9903520314283042199192993792), (0, 39614081257132168796771975168, 128), (16, 79228162514264337593543950336, 39614081257132168796771975168), (32, 158456325028528675187087900672, 79228162514264337593543950336), (72, 316912650057057350374175801344, 178263365657094759585473888256), (128, 633825300114114700748351602688, 316912650057057350374175801344), (128, 1267650600228229401496703205376, 316912650057057350374175801344), (897, 2535301200456458802993406410752, 1903951780420914862794853056512), (2047, 16, 2535301200456458802993406410752)] [72, 72, 72, 64, 72, 72, 8, 0, 72, 72, 0, 72] (.early 0 (.early 1 (.early 2 (.early 4 (.early 5 (.load 3 (.load 6 (.step 7 (.early 8 (.early 9 (.step 10 (.early 11 .done))))))))))))) .none) (sQ (.cond (.seq (.reg [(0, 20282409603651670423947251286016, 1), (0, 40564819207303340847894502572032, 128), (2, 81129638414606681695789005144064, 40564819207303340847894502572032), (4, 162259276829213363391578010288128, 81129638414606681695789005144064), (0, 324518553658426726783156020576256, 128), (16, 649037107316853453566312041152512, 324518553658426726783156020576256), (32, 1298074214633706907132624082305024, 649037107316853453566312041152512), (72, 2596148429267413814265248164610048, 1460333491462920270524202092593152), (128, 5192296858534827628530496329220096, 2596148429267413814265248164610048), (128, 10384593717069655257060992658440192, 2596148429267413814265248164610048), (897, 20769187434139310514121985316880384, 15597172985208134556015436238946304), (2047, 16, 20769187434139310514121985316880384)] [72, 72, 72, 64, 72, 72, 8, 0, 72, 72, 0, 72] (.early 0 (.early 1 (.early 2 (.early 4 (.early 5 (.load 3 (.load 6 (.step 7 (.early 8 (.early 9 (.step 10 (.early 11 .done))))))))))))) .none) .none)))))))))))) (.seq (.reg [(0, 41538374868278621028243970633760768, 1), (0, 83076749736557242056487941267521536, 128), (2, 166153499473114484112975882535043072, 83076749736557242056487941267521536), (4, 332306998946228968225951765070086144, 166153499473114484112975882535043072), (0, 664613997892457936451903530140172288, 128), (16, 1329227995784915872903807060280344576, 664613997892457936451903530140172288), (32, 2658455991569831745807614120560689152, 1329227995784915872903807060280344576), (72, 5316911983139663491615228241121378304, 2990762990516060714033565885630775296), (128, 10633823966279326983230456482242756608, 5316911983139663491615228241121378304), (128, 21267647932558653966460912964485513216, 5316911983139663491615228241121378304), (897, 42535295865117307932921825928971026432, 31943010273706259570719613417362030592), (2047, 16, 42535295865117307932921825928971026432)] [72, 72, 72, 64, 72, 72, 8, 0, 72, 72, 0, 72] (.early 0 (.early 1 (.early 2 (.early 4 (.early 5 (.load 3 (.load 6 (.step 7 (.early 8 (.early 9 (.step 10 (.early 11 .done))))))))))))) .none))))))))
theorem e4G (x0 x1 : Value) (w : World) (R : RT) (E : Pan) : d7B x0 x1 w R E = callX Tryd.prog [.tmp 4] f6v f6w [x0, x1] w R E := by kernel_rfl
theorem e4H {x0 x1 : Value} (h : d7B x0 x1 w R E) : Cv Tryd.prog 132 #[x0, x1] w R E := by
 refine g8 (args := [x0, x1]) (c := f6v) (h := f6w) (rs := [.tmp 4]) Tryd.func132 (by kernel_rfl) (by kernel_rfl) (nB (by kernel_rfl)) (by kernel_rfl) (by kernel_rfl) (by kernel_rfl) ?_
 rw [← e4G]
 exact h
def c6B (x2 x7 : Value) (w : World) (R : RT) (E : Pan) : Prop :=
 ∀ _τ : Fr, (oP E (iA 45 x7 x2) w fun f6x o4 =>
 R f6x o4)
def d7C (x0 x1 x2 : Value) (w : World) (R : RT) (E : Pan) : Prop :=
 oP E (xCall (fC 131) [x0]) w fun _t9_1 w_2 =>
 oP E (xNil x0) w_2 fun a0J w_4 =>
 oP E (fA 90 a0J 5) w_4 fun a5x w_6 =>
 oP E (lA 88 a5x) w_6 fun a5y w_8 =>
 oP E (xV (Instr.lookup 88 a5y x1 false)) w_8 fun a4x m7 =>
 xcut (fun _ o3 => c6B x2 a4x o3 R E) fun j1 =>
 oP E (xBin .lss 2 (.tmp 16) (.const (vI 0)) x2 (vI 0)) m7 fun a2l p7 =>
 oP E (gsem (asB a2l) false (xBuiltin .len #[45] 3 [false] [(gval (asB a2l) false a4x)])) p7 fun b0o p8 =>
 oP E (gsem (asB a2l) false (xBin .geq 2 (.tmp 19) (.tmp 21) (gval (asB a2l) false x2) b0o)) p8 fun c4F q7 =>
 oP E (xPick a2l (vB true) c4F) q7 fun c4G r8 =>
 xcond c4G
 (oP E (xCall (fC 136) [x0, (vI 3)]) r8 fun _t25_23 u1 =>
 j1 [] u1)
 (j1 [] r8)
noncomputable def f6y : Code := Tryd.f133.body.getD .skip
def f6z : Hint := (sQ (sQ (sQ (.cut [] (sQ (.cond .none .none)) (sQ .none)))))
theorem e4I (x0 x1 x2 : Value) (w : World) (R : RT) (E : Pan) : d7C x0 x1 x2 w R E = callX Tryd.prog [.tmp 6] f6y f6z [x0, x1, x2] w R E := by kernel_rfl
theorem e4J {x0 x1 x2 : Value} (h : d7C x0 x1 x2 w R E) : Cv Tryd.prog 133 #[x0, x1, x2] w R E := by
 refine g8 (args := [x0, x1, x2]) (c := f6y) (h := f6z) (rs := [.tmp 6]) Tryd.func133 (by kernel_rfl) (by kernel_rfl) (nB (by kernel_rfl)) (by kernel_rfl) (by kernel_rfl) (by kernel_rfl) ?_
 rw [← e4I]
 exact h
def d7D (x0 x1 : Value) (w : World) (R : RT) (E : Pan) : Prop :=
 oP E (xV (Instr.box 27 x1)) w fun G5 w_2 =>
 oP E (fA 27 G5 0) w_2 fun a7N w_4 =>
 oP E (lA 3 a7N) w_4 fun b9S w_6 =>
 oP E (xBin .eql 3 (.tmp 8) (.const (vI 4)) b9S (vI 4)) w_6 fun g0N w_8 =>
 xcond g0N
 (oP E (fA 27 G5 3) w_8 fun b4E m7 =>
 oP E (lA 25 b4E) m7 fun f6A o4 =>
 oP E (iA 25 f6A (vI 0)) o4 fun f6B o3 =>
 oP E (lA 27 f6B) o3 fun c4I p7 =>
 oP E (xCall (fC 134) [x0, c4I]) p7 fun f6C p8 =>
 oP E (xV (Op.unary .not f6C)) p8 fun f6D q7 =>
 R f6D q7)
 (oP E (xBin .eql 3 (.tmp 8) (.const (vI 5)) b9S (vI 5)) w_8 fun a5v r8 =>
 xcond a5v
 (oP E (fA 27 G5 3) r8 fun c4J u1 =>
 oP E (lA 25 c4J) u1 fun b2U z6 =>
 oP E (iA 25 b2U (vI 0)) z6 fun b3E C0 =>
 oP E (lA 27 b3E) C0 fun c4N D3 =>
 oP E (xCall (fC 134) [x0, c4N]) D3 fun a8W B8 =>
 oP E (gsem (asB a8W) true (fA 27 G5 3)) B8 fun c2e C3 =>
 oP E (gsem (asB a8W) true (lA 25 c2e)) C3 fun f6E E9 =>
 oP E (gsem (asB a8W) true (iA 25 f6E (vI 1))) E9 fun f6F C7 =>
 oP E (gsem (asB a8W) true (lA 27 f6F)) C7 fun f6G D5 =>
 oP E (gsem (asB a8W) true (xCall (fC 134) [(gval (asB a8W) true x0), f6G])) D5 fun f6H G4 =>
 oP E (xPick a8W f6H (vB false)) G4 fun f6I F0 =>
 R f6I F0)
 (oP E (xBin .eql 3 (.tmp 8) (.const (vI 6)) b9S (vI 6)) r8 fun f6J K9 =>
 xcond f6J
 (oP E (fA 27 G5 3) K9 fun c2f J0 =>
 oP E (lA 25 c2f) J0 fun f6K G2 =>
 oP E (iA 25 f6K (vI 0)) G2 fun f6L E1 =>
 oP E (lA 27 f6L) E1 fun f6M L2 =>
 oP E (xCall (fC 134) [x0, f6M]) L2 fun a8X M3 =>
 oP E (gsem (asB a8X) false (fA 27 G5 3)) M3 fun c4e L3 =>
 oP E (gsem (asB a8X) false (lA 25 c4e)) L3 fun c4O N5 =>
 oP E (gsem (asB a8X) false (iA 25 c4O (vI 1))) N5 fun f6N M4 =>
 oP E (gsem (asB a8X) false (lA 27 f6N)) M4 fun f6O M5 =>
 oP E (gsem (asB a8X) false (xCall (fC 134) [(gval (asB a8X) false x0), f6O])) M5 fun c4f N6 =>
 oP E (xPick a8X (vB true) c4f) N6 fun c4g N7 =>
 R c4g N7)
 (oP E (xBin .eql 3 (.tmp 8) (.const (vI 3)) b9S (vI 3)) K9 fun f6P L4 =>
 xcond f6P
 (oP E (fA 27 G5 2) L4 fun f6Q O1 =>
 oP E (lA 22 f6Q) O1 fun c4P P0 =>
 oP E (iA 22 c4P (vI 0)) P0 fun f6R R0 =>
 oP E (lA 24 f6R) R0 fun c4Q N0 =>
 oP E (xCall (fC 132) [x0, c4Q]) N0 fun f6S R1 =>
 oP E (fA 27 G5 2) R1 fun f6T P6 =>
 oP E (lA 22 f6T) P6 fun f6U O2 =>
 oP E (iA 22 f6U (vI 1)) O2 fun c4h R2 =>
 oP E (lA 24 c4h) R2 fun c4i N1 =>
 oP E (xCall (fC 132) [x0, c4i]) N1 fun a3A V4 =>
 oP E (xCall (fC 131) [x0]) V4 fun _t65_91 a0x =>
 oP E (fA 27 G5 1) a0x fun c4j a0q =>
 oP E (lA 3 c4j) a0q fun f6V W8 =>
 oP E (xCall (fC 75) [f6V, f6S, a3A]) W8 fun b2Y a0r =>
 R b2Y a0r)
 (oP E (xCall (fC 131) [x0]) L4 fun _t72_99 R6 =>
 oP E (fA 27 G5 0) R6 fun b8Z M8 =>
 oP E (lA 3 b8Z) M8 fun b9a N8 =>
 oP E (xBin .eql 3 (.tmp 74) (.const (vI 1)) b9a (vI 1)) N8 fun e4K S3 =>
 R e4K S3))))
noncomputable def f6W : Code := Tryd.f134.body.getD .skip
def f6X : Hint := (sQ (.seq (sQ (.block (sQ (.cond (sQ .none) (sQ (.cond (sQ .none) (sQ (.cond (sQ .none) (sQ (.cond (sQ (sQ (sQ (sQ .none)))) .none)))))))))) (sQ (sQ .none))))
theorem e4L (x0 x1 : Value) (w : World) (R : RT) (E : Pan) : d7D x0 x1 w R E = callX Tryd.prog [.tmp 4] f6W f6X [x0, x1] w R E := by kernel_rfl
theorem e4M {x0 x1 : Value} (h : d7D x0 x1 w R E) : Cv Tryd.prog 134 #[x0, x1] w R E := by
 refine g8 (args := [x0, x1]) (c := f6W) (h := f6X) (rs := [.tmp 4]) Tryd.func134 (by kernel_rfl) (by kernel_rfl) (nB (by kernel_rfl)) (by kernel_rfl) (by kernel_rfl) (by kernel_rfl) ?_
 rw [← e4L]
 exact h
def d7E (_x0 x1 x2 : Value) (w : World) (R : RT) (E : Pan) : Prop :=
 oP E (xV (Instr.build 93 #[(0, x1), (1, x2)])) w fun a9S w_2 =>
 oP E (xV (Instr.makeInterface 93 a9S)) w_2 fun a2z w_4 =>
 oP E (xV (Instr.panic a2z)) w_4 fun _z_5 w_6 =>
 R (Value.tuple #[]) w_6
noncomputable def f6Y : Code := Tryd.f135.body.getD .skip
def f6Z : Hint := .none
theorem e4N (x0 x1 x2 : Value) (w : World) (R : RT) (E : Pan) : d7E x0 x1 x2 w R E = callX Tryd.prog [] f6Y f6Z [x0, x1, x2] w R E := by kernel_rfl
theorem e4O {x0 x1 x2 : Value} (h : d7E x0 x1 x2 w R E) : Cv Tryd.prog 135 #[x0, x1, x2] w R E := by
 refine g8 (args := [x0, x1, x2]) (c := f6Y) (h := f6Z) (rs := []) Tryd.func135 (by kernel_rfl) (by kernel_rfl) (nB (by kernel_rfl)) (by kernel_rfl) (by kernel_rfl) (by kernel_rfl) ?_
 rw [← e4N]
 exact h
def d7F (x0 x1 : Value) (w : World) (R : RT) (E : Pan) : Prop :=
 oP E (xBin .neq 3 (.tmp 4) (.const (vI 0)) x1 (vI 0)) w fun b1m w_2 =>
 xcond b1m
 (oP E (xCall (fC 135) [x0, (vI 3), x1]) w_2 fun _t8_3 w_4 =>
 R (Value.tuple #[]) w_4)
 (R (Value.tuple #[]) w_2)
noncomputable def f7a : Code := Tryd.f136.body.getD .skip
def f7b : Hint := (sQ (.cond .none .none))
theorem e4P (x0 x1 : Value) (w : World) (R : RT) (E : Pan) : d7F x0 x1 w R E = callX Tryd.prog [] f7a f7b [x0, x1] w R E := by kernel_rfl
theorem e4Q {x0 x1 : Value} (h : d7F x0 x1 w R E) : Cv Tryd.prog 136 #[x0, x1] w R E := by
 refine g8 (args := [x0, x1]) (c := f7a) (h := f7b) (rs := []) Tryd.func136 (by kernel_rfl) (by kernel_rfl) (nB (by kernel_rfl)) (by kernel_rfl) (by kernel_rfl) (by kernel_rfl) ?_
 rw [← e4P]
 exact h
def c8Z (x0 : Value) (w : World) (R : RT) (E : Pan) : Prop :=
 oP E (xV (Instr.box 24 x0)) w fun u4 w_2 =>
 oP E (fA 24 u4 0) w_2 fun b9g w_4 =>
 oP E (lA 3 b9g) w_4 fun a6N w_6 =>
 oP E (xBin .eql 3 (.tmp 6) (.const (vI 1)) a6N (vI 1)) w_6 fun a9R w_8 =>
 xcond a9R
 (oP E (fA 24 u4 1) w_8 fun a6O m7 =>
 oP E (lA 2 a6O) m7 fun a9u o4 =>
 R (Value.tuple #[a9u, (vB true)]) o4)
 (oP E (fA 24 u4 0) w_8 fun c2F o3 =>
 oP E (lA 3 c2F) o3 fun c2G p7 =>
 oP E (xBin .eql 3 (.tmp 12) (.const (vI 5)) c2G (vI 5)) p7 fun a5D p8 =>
 oP E (gsem (asB a5D) true (fA 24 u4 3)) p8 fun a7U q7 =>
 oP E (gsem (asB a5D) true (lA 22 a7U)) q7 fun b3a r8 =>
 oP E (gsem (asB a5D) true (iA 22 b3a (vI 0))) r8 fun c2s u1 =>
 oP E (gsem (asB a5D) true (fA 24 c2s 0)) u1 fun c2t z6 =>
 oP E (gsem (asB a5D) true (lA 3 c2t)) z6 fun a7W C0 =>
 oP E (gsem (asB a5D) true (xBin .eql 3 (.tmp 19) (.const (vI 1)) a7W (vI 1))) C0 fun f7c D3 =>
 oP E (xPick a5D f7c (vB false)) D3 fun b7s B8 =>
 xcond b7s
 (oP E (fA 24 u4 3) B8 fun c2n C3 =>
 oP E (lA 22 c2n) C3 fun f7d E9 =>
 oP E (iA 22 f7d (vI 0)) E9 fun f7e C7 =>
 oP E (fA 24 f7e 1) C7 fun f7f D5 =>
 oP E (lA 2 f7f) D5 fun f7g G4 =>
 oP E (xV (Op.unary .neg f7g)) G4 fun f7h F0 =>
 R (Value.tuple #[f7h, (vB true)]) F0)
 (R (Value.tuple #[(vI 0), (vB false)]) B8))
noncomputable def f7i : Code := Tryd.f146.body.getD .skip
def f7j : Hint := (sQ (.seq (.block (sQ (.cond (sQ .none) (sQ (.cond (sQ .none) .none))))) (sQ .none)))
theorem e4R (x0 : Value) (w : World) (R : RT) (E : Pan) : c8Z x0 w R E = callX Tryd.prog [.tmp 2, .tmp 3] f7i f7j [x0] w R E := by kernel_rfl
theorem e4S {x0 : Value} (h : c8Z x0 w R E) : Cv Tryd.prog 146 #[x0] w R E := by
 refine g8 (args := [x0]) (c := f7i) (h := f7j) (rs := [.tmp 2, .tmp 3]) Tryd.func146 (by kernel_rfl) (by kernel_rfl) (nB (by kernel_rfl)) (by kernel_rfl) (by kernel_rfl) (by kernel_rfl) ?_
 rw [← e4R]
 exact h
def c6C (x0 : Value) (w : World) (R : RT) (E : Pan) : Prop :=
 ∀ _τ : Fr, (oP E (xCall (fC 131) [x0]) w fun _t13_1 w_2 =>
 oP E (xNil x0) w_2 fun c8S w_4 =>
 oP E (fA 90 c8S 2) w_4 fun g0O w_6 =>
 oP E (lA 45 g0O) w_6 fun g0P w_8 =>
 oP E (iA 45 g0P (vI 0)) w_8 fun c9a m7 =>
 oP E (lA 2 c9a) m7 fun a6H o4 =>
 oP E (xNil x0) o4 fun f7k o3 =>
 oP E (fA 90 f7k 2) o3 fun f7l p7 =>
 oP E (lA 45 f7l) p7 fun f7m p8 =>
 oP E (xV (Instr.sliceAt 45 f7m (some (vI 1)) none none)) p8 fun f7n q7 =>
 oP E (xNil x0) q7 fun f7o r8 =>
 oP E (fA 90 f7o 2) r8 fun f7p u1 =>
 oP E (sA 45 f7p f7n) u1 fun _z_25 z6 =>
 oP E (xNil x0) z6 fun f7q C0 =>
 oP E (fA 90 f7q 3) C0 fun f7r D3 =>
 oP E (lA 46 f7r) D3 fun f7s B8 =>
 oP E (xV (Instr.build 55 #[(0, (vB true)), (1, a6H)])) B8 fun b3g C3 =>
 oP E (xV (Instr.buildSlice 46 1 #[(0, b3g)])) C3 fun b0C E9 =>
 oP E (xBuiltin .append #[46, 46] 46 [false, false] [f7s, b0C]) E9 fun b3J C7 =>
 oP E (xNil x0) C7 fun b8B D5 =>
 oP E (fA 90 b8B 3) D5 fun c4R G4 =>
 oP E (sA 46 c4R b3J) G4 fun _z_43 F0 =>
 R a6H F0)
def d7G (x0 : Value) (w : World) (R : RT) (E : Pan) : Prop :=
 xcut (fun _ K9 => c6C x0 K9 R E) fun j1 =>
 oP E (xNil x0) w fun c1m J0 =>
 oP E (fA 90 c1m 2) J0 fun g0Q G2 =>
 oP E (lA 45 g0Q) G2 fun g0R E1 =>
 oP E (xBuiltin .len #[45] 3 [false] [g0R]) E1 fun g0S L2 =>
 oP E (xBin .eql 3 (.tmp 8) (.const (vI 0)) g0S (vI 0)) L2 fun g0T M3 =>
 xcond g0T
 (oP E (xCall (fC 135) [x0, (vI 2), (vI 0)]) M3 fun _t11_57 L3 =>
 j1 [] L3)
 (j1 [] M3)
noncomputable def f7t : Code := Tryd.f147.body.getD .skip
def f7u : Hint := (sQ (.cut [] (sQ (.cond .none .none)) (sQ (sQ (sQ (sQ (sQ .none)))))))
theorem e4T (x0 : Value) (w : World) (R : RT) (E : Pan) : d7G x0 w R E = callX Tryd.prog [.tmp 2] f7t f7u [x0] w R E := by kernel_rfl
theorem e4U {x0 : Value} (h : d7G x0 w R E) : Cv Tryd.prog 147 #[x0] w R E := by
 refine g8 (args := [x0]) (c := f7t) (h := f7u) (rs := [.tmp 2]) Tryd.func147 (by kernel_rfl) (by kernel_rfl) (nB (by kernel_rfl)) (by kernel_rfl) (by kernel_rfl) (by kernel_rfl) ?_
 rw [← e4T]
 exact h
def d7H (x0 x1 x2 : Value) (w : World) (R : RT) (E : Pan) : Prop :=
 oP E (xCall (fC 136) [x0, x2]) w fun _t9_1 w_2 =>
 R x1 w_2
noncomputable def f7v : Code := Tryd.f148.body.getD .skip
def f7w : Hint := (sQ (sQ (sQ .none)))
theorem e4V (x0 x1 x2 : Value) (w : World) (R : RT) (E : Pan) : d7H x0 x1 x2 w R E = callX Tryd.prog [.tmp 6] f7v f7w [x0, x1, x2] w R E := by kernel_rfl
theorem e4W {x0 x1 x2 : Value} (h : d7H x0 x1 x2 w R E) : Cv Tryd.prog 148 #[x0, x1, x2] w R E := by
 refine g8 (args := [x0, x1, x2]) (c := f7v) (h := f7w) (rs := [.tmp 6]) Tryd.func148 (by kernel_rfl) (by kernel_rfl) (nB (by kernel_rfl)) (by kernel_rfl) (by kernel_rfl) (by kernel_rfl) ?_
 rw [← e4V]
 exact h
end Go.Proofs.YtnhkdkcgdcgmdaaDoor
