/- The second reading of some of the program's functions, printed by gen2.py off the code; each is held against the code by the kernel. -/
import Derived.Test.YtnhkdkcgdcgmdaaDoorProg
import Derived.Test.YtnhkdkcgdcgmdaaDoorzDK0
import Derived.KernelRfl
import Derived.Test.YtnhkdkcgdcgmdaaDoorzDGz
namespace Go.Proofs.YtnhkdkcgdcgmdaaDoor
open Go.RowKit
set_option maxRecDepth 100000
variable {w : World} {R : RT} {E : Pan}
def f8s (x1 x2 x3 x4 x9 x13 : Value) (w : World) (R : RT) (E : Pan) : Prop :=
 ∀ _τ : Fr, (oP E (xBuiltin .len #[45] 3 [false] [x1]) w fun d4L b1a =>
 oP E (xBin .eql 3 (.tmp 141) (.tmp 143) x13 d4L) b1a fun d4M a6Z =>
 xcond d4M
 (R (vB true) a6Z)
 (oP E (xBuiltin .append #[45, 45] 45 [true, false] [(nS), x1]) a6Z fun b6l b1b =>
 oP E (xBuiltin .len #[45] 3 [false] [b6l]) b1b fun d4N b7c =>
 oP E (xBin .sub 3 (.tmp 149) (.const (vI 1)) d4N (vI 1)) b7c fun d4O b7h =>
 oP E (iA 45 b6l d4O) b7h fun d4P b4n =>
 oP E (sA 2 d4P x3) b4n fun _z_157 b7i =>
 oP E (lA 44 x4) b7i fun d4Q c8a =>
 oP E (xCall (fC 18) [d4Q, b6l, x2]) c8a fun c3I c8b =>
 oP E (eX c3I 0) c8b fun d4R c8c =>
 oP E (eX c3I 1) c8c fun d4S c8d =>
 oP E (xV (Instr.alloc 49 true (.tuple #[]))) c8d fun c5R a7f =>
 oP E (sA 49 c5R d4R) a7f fun _z_169 c8e =>
 oP E (xBin .eql 29 (.tmp 160) (.const (vI 0)) d4S (vI 0)) c8e fun b1P c0M =>
 oP E (gsem (asB b1P) true (lA 49 x9)) c0M fun d4T c8f =>
 oP E (gsem (asB b1P) true (lA 49 c5R)) c8f fun d4U c8g =>
 oP E (gsem (asB b1P) true (xCall (fC 20) [d4T, d4U])) c8g fun d4V f8t =>
 oP E (xPick b1P d4V (vB false)) f8t fun d4W b4I =>
 R d4W b4I))
def f8u (_x1 _x2 _x3 _x4 _x9 x13 x14 : Value) (w : World) (next2 : NT) (_R : RT) (E : Pan) : Prop :=
 ∀ _τ : Fr, (oP E (xBin .add 3 (.tmp 114) (.const (vI 1)) x14 (vI 1)) w fun d4X f8v =>
 next2 [x13, d4X] f8v)
def f8w (x1 x2 x3 x4 x9 x13 x14 : Value) (w : World) (next2 : NT) (j1 : NT) (R : RT) (E : Pan) : Prop :=
 oP E (fA 49 x9 3) w fun d4Y f8x =>
 oP E (lA 46 d4Y) f8x fun d4Z f8y =>
 oP E (xBuiltin .len #[46] 3 [false] [d4Z]) f8y fun d5a f8z =>
 oP E (xBin .lss 3 (.tmp 109) (.tmp 112) x14 d5a) f8z fun d5b d7C =>
 xcond d5b
 (xcut (fun f8A f8B => f8u x1 x2 x3 x4 x9 (nth f8A 0) x14 f8B next2 R E) fun j3 =>
 oP E (fA 49 x9 3) d7C fun d5c f8C =>
 oP E (lA 46 d5c) f8C fun d5d f8D =>
 oP E (iA 46 d5d x14) f8D fun d5e f8E =>
 oP E (fA 55 d5e 0) f8E fun d5f f8F =>
 oP E (lA 4 d5f) f8F fun d5g d7D =>
 xcond d5g
 (dX d7D fun b7S =>
 qP Tryd.prog (xBuiltin .len #[45] 3 [false] [x1]) fun d5h =>
 qP Tryd.prog (xBin .geq 3 (.tmp 122) (.tmp 124) x13 d5h) fun a0o =>
 qP Tryd.prog (gsem (asB a0o) false (fA 49 x9 3)) fun c3J =>
 qP Tryd.prog (gsem (asB a0o) false (iA 45 (gval (asB a0o) false x1) (gval (asB a0o) false x13))) fun c3K =>
 qL Tryd.prog b7S (blk c3J) (gsem (asB a0o) false (lA 46 c3J)) fun d5i =>
 qP Tryd.prog (gsem (asB a0o) false (iA 46 d5i (gval (asB a0o) false x14))) fun d5j =>
 qP Tryd.prog (gsem (asB a0o) false (fA 55 d5j 1)) fun c3L =>
 qL Tryd.prog b7S (blk c3L) (gsem (asB a0o) false (lA 2 c3L)) fun d5k =>
 qL Tryd.prog b7S (blk c3K) (gsem (asB a0o) false (lA 2 c3K)) fun d5l =>
 qP Tryd.prog (gsem (asB a0o) false (xBin .neq 2 (.tmp 132) (.tmp 136) d5k d5l)) fun d5m =>
 qP Tryd.prog (xPick a0o (vB true) d5m) fun d5n =>
 xcond d5n
 (R (vB false) b7S)
 (oP E (xBin .add 3 (.tmp 139) (.const (vI 1)) x13 (vI 1)) b7S fun d5o f8G =>
 j3 [d5o] f8G))
 (j3 [x13] d7D))
 (j1 [x13] d7C)
def F4 (x0 x1 x2 x3 : Value) (w : World) (R : RT) (E : Pan) : Prop :=
 oP E (xV (Instr.box 44 x0)) w fun a9z w_2 =>
 oP E (xCall (fC 17) []) w_2 fun c0H w_4 =>
 oP E (xV (Op.unary .not c0H)) w_4 fun c8h w_6 =>
 xcond c8h
 (R (vB false) w_6)
 (oP E (xBin .lss 3 (.tmp 19) (.const (vI 0)) x2 (vI 0)) w_6 fun c8i w_8 =>
 oP E (gsem (asB c8i) false (xBin .gtr 3 (.tmp 22) (.const (vI 2000)) (gval (asB c8i) false x2) (vI 2000))) w_8 fun b4D m4 =>
 oP E (xPick c8i (vB true) b4D) m4 fun a6u o0 =>
 oP E (gsem (asB a6u) false (xBuiltin .len #[45] 3 [false] [(gval (asB a6u) false x1)])) o0 fun f0Q m8 =>
 oP E (gsem (asB a6u) false (xBin .gtr 3 (.tmp 27) (.const (vI 2000)) f0Q (vI 2000))) m8 fun f0R o8 =>
 oP E (xPick a6u (vB true) f0R) o8 fun f0S p6 =>
 xcond f0S
 (R (vB true) p6)
 (oP E (lA 44 a9z) p6 fun f0T p7 =>
 oP E (xCall (fC 18) [f0T, x1, x2]) p7 fun d0W q9 =>
 oP E (eX d0W 0) q9 fun f0U t8 =>
 oP E (eX d0W 1) t8 fun d0X z8 =>
 oP E (xV (Instr.alloc 49 true (.tuple #[]))) z8 fun a1T B9 =>
 oP E (sA 49 a1T f0U) B9 fun _z_29 D3 =>
 oP E (lA 44 a9z) D3 fun f0V B4 =>
 oP E (xBin .add 3 (.tmp 40) (.const (vI 1)) x2 (vI 1)) B4 fun f0W C6 =>
 oP E (xCall (fC 18) [f0V, x1, f0W]) C6 fun d0Y E5 =>
 oP E (eX d0Y 0) E5 fun f0X D4 =>
 oP E (eX d0Y 1) D4 fun d0Z D6 =>
 oP E (xV (Instr.alloc 49 true (.tuple #[]))) D6 fun b3B G0 =>
 oP E (sA 49 b3B f0X) G0 fun _z_43 E7 =>
 oP E (xBin .neq 29 (.tmp 45) (.const (vI 0)) d0X (vI 0)) E7 fun f0Y K7 =>
 xcond f0Y
 (oP E (xBin .eql 29 (.tmp 47) (.tmp 48) d0X d0Z) K7 fun f0Z J0 =>
 R f0Z J0)
 (oP E (xBin .neq 29 (.tmp 50) (.const (vI 0)) d0Z (vI 0)) K7 fun a8B F7 =>
 oP E (gsem (asB a8B) false (fA 49 b3B 3)) F7 fun f1a E2 =>
 oP E (gsem (asB a8B) false (lA 46 f1a)) E2 fun f1b L0 =>
 oP E (gsem (asB a8B) false (fA 49 a1T 3)) L0 fun f1c L4 =>
 oP E (gsem (asB a8B) false (lA 46 f1c)) L4 fun f1d L1 =>
 oP E (gsem (asB a8B) false (xCall (fC 19) [f1b, f1d])) L1 fun f1e N8 =>
 oP E (gsem (asB a8B) false (xV (Op.unary .not f1e))) N8 fun f1f L5 =>
 oP E (xPick a8B (vB true) f1f) L5 fun b0q M4 =>
 oP E (gsem (asB b0q) false (fA 49 b3B 2)) M4 fun f1g N9 =>
 oP E (gsem (asB b0q) false (lA 3 f1g)) N9 fun f1h O0 =>
 oP E (gsem (asB b0q) false (fA 49 a1T 2)) O0 fun f1i L2 =>
 oP E (gsem (asB b0q) false (lA 3 f1i)) L2 fun f1j O4 =>
 oP E (gsem (asB b0q) false (xBin .lss 3 (.tmp 62) (.tmp 64) f1h f1j)) O4 fun f1k O5 =>
 oP E (xPick b0q (vB true) f1k) O5 fun a8C Q7 =>
 oP E (gsem (asB a8C) false (fA 49 b3B 2)) Q7 fun f1l N0 =>
 oP E (gsem (asB a8C) false (lA 3 f1l)) N0 fun f1m R8 =>
 oP E (gsem (asB a8C) false (fA 49 a1T 2)) R8 fun f1n P9 =>
 oP E (gsem (asB a8C) false (lA 3 f1n)) P9 fun f1o O6 =>
 oP E (gsem (asB a8C) false (xBin .add 3 (.tmp 71) (.const (vI 1)) f1o (vI 1))) O6 fun f1p R9 =>
 oP E (gsem (asB a8C) false (xBin .gtr 3 (.tmp 69) (.tmp 72) f1m f1p)) R9 fun f1q M5 =>
 oP E (xPick a8C (vB true) f1q) M5 fun b3C X6 =>
 oP E (gsem (asB b3C) false (fA 49 a1T 2)) X6 fun f1r a0Q =>
 oP E (gsem (asB b3C) false (lA 3 f1r)) a0Q fun f1s a0y =>
 oP E (gsem (asB b3C) false (xBin .gtr 3 (.tmp 77) (.tmp 78) f1s (gval (asB b3C) false x2))) a0y fun f1t a0e =>
 oP E (xPick b3C (vB true) f1t) a0e fun f1u a0k =>
 xcond f1u
 (R (vB false) a0k)
 (oP E (fA 49 a1T 0) a0k fun f1v T0 =>
 oP E (lA 3 f1v) T0 fun e1h N2 =>
 oP E (xBin .neq 3 (.tmp 82) (.const (vI 1)) e1h (vI 1)) N2 fun b0r O1 =>
 oP E (gsem (asB b0r) true (lA 49 a1T)) O1 fun e1i U1 =>
 oP E (gsem (asB b0r) true (lA 49 b3B)) U1 fun e1j a1u =>
 oP E (gsem (asB b0r) true (xCall (fC 20) [e1i, e1j])) a1u fun e1k a2Y =>
 oP E (gsem (asB b0r) true (xV (Op.unary .not e1k))) a2Y fun e1l a1v =>
 oP E (xPick b0r e1l (vB false)) a1v fun e1m Q8 =>
 xcond e1m
 (R (vB false) Q8)
 (oP E (fA 49 a1T 0) Q8 fun e1n U2 =>
 oP E (lA 3 e1n) U2 fun e1o a2p =>
 oP E (xBin .eql 3 (.tmp 91) (.const (vI 1)) e1o (vI 1)) a2p fun b0s Q0 =>
 oP E (gsem (asB b0s) true (fA 49 a1T 2)) Q0 fun e1p a1H =>
 oP E (gsem (asB b0s) true (lA 3 e1p)) a1H fun e1q a4i =>
 oP E (gsem (asB b0s) true (xBin .neq 3 (.tmp 95) (.tmp 96) e1q (gval (asB b0s) true x2))) a4i fun e1r a5n =>
 oP E (xPick b0s e1r (vB false)) a5n fun a3G a4j =>
 oP E (gsem (asB a3G) false (fA 49 a1T 0)) a4j fun d5p a4k =>
 oP E (gsem (asB a3G) false (lA 3 d5p)) a4k fun d5q a2r =>
 oP E (gsem (asB a3G) false (xBin .neq 3 (.tmp 101) (.const (vI 3)) d5q (vI 3))) a2r fun b1Q a2s =>
 oP E (gsem (asB (gval (asB a3G) false b1Q)) true (fA 49 a1T 1)) a2s fun d5r a3A =>
 oP E (gsem (asB (gval (asB a3G) false b1Q)) true (lA 3 d5r)) a3A fun d5s a5l =>
 oP E (gsem (asB (gval (asB a3G) false b1Q)) true (xBin .neq 3 (.tmp 105) (.const (vI 0)) d5s (vI 0))) a5l fun d5t a6g =>
 oP E (gsem (asB a3G) false (xPick (gval (asB a3G) false b1Q) d5t (vB false))) a6g fun d5u a6Y =>
 oP E (xPick a3G (vB true) d5u) a6Y fun d5v a6h =>
 xcond d5v
 (R (vB false) a6h)
 (xcut (fun f8H f8I => f8s x1 x2 x3 a9z a1T (nth f8H 0) f8I R E) fun j1 =>
 xloop [13, 14] [(vI 0), (vI 0)] a6h fun τ_219 f8J next2 =>
 f8w x1 x2 x3 a9z a1T (τ_219 13) (τ_219 14) f8J next2 j1 R E))))))
noncomputable def c4 : Code := Tryd.f4.body.getD .skip
def h4 : Hint := (sQ (.seq (sQ (.cond (sQ .none) .none)) (.seq (sQ (.cond (sQ .none) .none)) (sQ (sQ (.seq (sQ (.cond (sQ .none) .none)) (.seq (sQ (.cond (sQ .none) .none)) (.seq (sQ (.cond (sQ .none) .none)) (.seq (sQ (.cond (sQ .none) .none)) (sQ (.cut [13] (sQ (.block (.loop [13, 14] (.seq (sQ (.cond .none .none)) (.cut [13] (.block (sQ (.cond (.seq (.seq (.reg [(0, 5316911983139663491615228241121378304, 8192), (0, 10633823966279326983230456482242756608, 2), (2, 21267647932558653966460912964485513216, 10633823966279326983230456482242756608), (5, 42535295865117307932921825928971026432, 26584559915698317458076141205606891520), (8, 85070591730234615865843651857942052864, 42535295865117307932921825928971026432), (16, 170141183460469231731687303715884105728, 85070591730234615865843651857942053376), (48, 340282366920938463463374607431768211456, 255211775190703847597530955573826158592), (16, 680564733841876926926749214863536422912, 85070591730234615865843651857942069248), (208, 1361129467683753853853498429727072845824, 1105917692493050006255967474153246687232), (272, 2722258935367507707706996859454145691648, 1446200059413988469719342081585014898688), (528, 5444517870735015415413993718908291383296, 2807329527097742323572840511312087744512), (16, 10889035741470030830827987437816582766592, 85070591730234615865843651857942052866), (16, 21778071482940061661655974875633165533184, 85070591730234615865843651857942061056), (6160, 43556142965880123323311949751266331066368, 32752177816140327108349805965307690352640), (8208, 87112285931760246646623899502532662132736, 43641213557610357939177793403124273119232), (17424, 174224571863520493293247799005065324265472, 92641874394225496677903736873298895568896), (32784, 348449143727040986586495598010130648530944, 174309642455250727909113642656923266318336)] [17472, 17472, 17472, 17472, 17472, 17472, 17408, 17472, 17472, 17472, 16448, 17472, 17472, 17472, 1088, 17472, 17472] (.early 0 (.early 1 (.early 2 (.early 3 (.early 4 (.early 5 (.early 7 (.early 11 (.early 12 (.early 13 (.load 6 (.early 8 (.early 9 (.load 10 (.load 14 (.early 15 (.early 16 .done)))))))))))))))))) (.cond (sQ .none) .none)) .none) .none))) .none))))) (.seq (sQ (.cond (sQ .none) .none)) (sQ (sQ (sQ (sQ .none))))))))))))))))
def F5 (x0 x1 : Value) (w : World) (R : RT) (E : Pan) : Prop :=
 oP E (xCall (fC 17) []) w fun a9y w_2 =>
 oP E (xV (Op.unary .not a9y)) w_2 fun a2o w_4 =>
 xcond a2o
 (R (vB false) w_4)
 (oP E (xBin .lss 3 (.tmp 10) (.const (vI 0)) x0 (vI 0)) w_4 fun a5c w_6 =>
 oP E (gsem (asB a5c) false (xBin .gtr 3 (.tmp 13) (.const (vI 500)) (gval (asB a5c) false x0) (vI 500))) w_6 fun S2 w_8 =>
 oP E (xPick a5c (vB true) S2) w_8 fun a4h m4 =>
 oP E (gsem (asB a4h) false (xBin .lss 3 (.tmp 17) (.const (vI 0)) (gval (asB a4h) false x1) (vI 0))) m4 fun b3r o0 =>
 oP E (xPick a4h (vB true) b3r) o0 fun a7F m8 =>
 oP E (gsem (asB a7F) false (xBin .gtr 3 (.tmp 21) (.const (vI 2000)) (gval (asB a7F) false x1) (vI 2000))) m8 fun f1w o8 =>
 oP E (xPick a7F (vB true) f1w) o8 fun f1x p6 =>
 xcond f1x
 (R (vB true) p6)
 (oP E (xV (Instr.build 58 #[(0, (Value.string ⟨#[120]⟩))])) p6 fun c1R p7 =>
 oP E (xV (Instr.buildSlice 41 1 #[(0, c1R)])) p7 fun b2H q9 =>
 oP E (xCall (fC 22) [(Value.string ⟨#[120]⟩)]) q9 fun f1y t8 =>
 oP E (xCall (fC 23) [x0]) t8 fun f1z z8 =>
 oP E (xCall (fC 21) [(vI 1), f1y, f1z]) z8 fun f1A B9 =>
 oP E (xV (Instr.buildSlice 25 1 #[(0, f1A)])) B9 fun f1B D3 =>
 oP E (xCall (fC 22) [(Value.string ⟨#[120]⟩)]) D3 fun f1C B4 =>
 oP E (xCall (fC 23) [(vI 1)]) B4 fun f1D C6 =>
 oP E (xCall (fC 25) [(vI 6), f1C, f1D]) C6 fun f1E E5 =>
 oP E (xCall (fC 24) [(Value.string ⟨#[120]⟩), f1E]) E5 fun f1F D4 =>
 oP E (xV (Instr.buildSlice 42 1 #[(0, f1F)])) D4 fun f1G D6 =>
 oP E (xV (Instr.build 63 #[(0, (vI 4)), (3, f1B), (4, f1G)])) D6 fun f1H G0 =>
 oP E (xV (Instr.buildSlice 42 1 #[(0, f1H)])) G0 fun f1I E7 =>
 oP E (xV (Instr.build 44 #[(0, b2H), (1, f1I)])) E7 fun f1J K7 =>
 oP E (xV (Instr.alloc 44 true (.tuple #[]))) K7 fun c0N J0 =>
 oP E (sA 44 c0N f1J) J0 fun _z_49 F7 =>
 oP E (lA 44 c0N) F7 fun c1L E2 =>
 oP E (xCall (fC 18) [c1L, (nS), x1]) E2 fun b7T L0 =>
 oP E (eX b7T 0) L0 fun c3M L4 =>
 oP E (eX b7T 1) L4 fun c3N L1 =>
 oP E (xV (Instr.alloc 49 true (.tuple #[]))) L1 fun b4J N8 =>
 oP E (sA 49 b4J c3M) N8 fun _z_61 L5 =>
 oP E (xBin .neq 29 (.tmp 45) (.const (vI 0)) c3N (vI 0)) L5 fun b3D M4 =>
 oP E (gsem (asB b3D) false (fA 49 b4J 4)) M4 fun c3O N9 =>
 oP E (gsem (asB b3D) false (lA 45 c3O)) N9 fun c3P O0 =>
 oP E (gsem (asB b3D) false (xBuiltin .len #[45] 3 [false] [c3P])) O0 fun f1K L2 =>
 oP E (gsem (asB b3D) false (xBin .neq 3 (.tmp 50) (.const (vI 1)) f1K (vI 1))) L2 fun f1L O4 =>
 oP E (xPick b3D (vB true) f1L) O4 fun a4e O5 =>
 oP E (gsem (asB a4e) false (fA 49 b4J 4)) O5 fun c1M Q7 =>
 oP E (gsem (asB a4e) false (lA 45 c1M)) Q7 fun c3q N0 =>
 oP E (gsem (asB a4e) false (iA 45 c3q (vI 0))) N0 fun c3r R8 =>
 oP E (gsem (asB a4e) false (lA 2 c3r)) R8 fun a8w P9 =>
 oP E (gsem (asB a4e) false (xBin .quo 3 (.tmp 58) (.const (vI 2)) (gval (asB a4e) false x1) (vI 2))) P9 fun c3s O6 =>
 oP E (gsem (asB a4e) false (xBuiltin .min #[3, 3] 3 [false, false] [c3s, (gval (asB a4e) false x0)])) O6 fun c3Q R9 =>
 oP E (gsem (asB a4e) false (xBin .neq 2 (.tmp 57) (.tmp 61) a8w c3Q)) R9 fun c3R M5 =>
 oP E (xPick a4e (vB true) c3R) M5 fun a3l X6 =>
 oP E (gsem (asB a3l) false (fA 49 b4J 2)) X6 fun f1M a0Q =>
 oP E (gsem (asB a3l) false (lA 3 f1M)) a0Q fun c3S a0y =>
 oP E (gsem (asB a3l) false (xBin .mul 3 (.const (vI 2)) (.tmp 68) (vI 2) (gval (asB a3l) false x0))) a0y fun c1N a0e =>
 oP E (gsem (asB a3l) false (xBin .add 3 (.tmp 69) (.const (vI 1)) c1N (vI 1))) a0e fun b2G a0k =>
 oP E (gsem (asB a3l) false (xBuiltin .min #[3, 3] 3 [false, false] [(gval (asB a3l) false x1), b2G])) a0k fun c1O T0 =>
 oP E (gsem (asB a3l) false (xBin .neq 3 (.tmp 66) (.tmp 71) c3S c1O)) T0 fun e1s N2 =>
 oP E (xPick a3l (vB true) e1s) N2 fun e1t O1 =>
 xcond e1t
 (R (vB false) O1)
 (oP E (xBin .mul 3 (.const (vI 2)) (.tmp 75) (vI 2) x0) O1 fun e1u U1 =>
 oP E (xBin .add 3 (.tmp 76) (.const (vI 1)) e1u (vI 1)) U1 fun e1v a1u =>
 oP E (xBin .geq 3 (.tmp 74) (.tmp 77) x1 e1v) a1u fun e1w a2Y =>
 xcond e1w
 (oP E (fA 49 b4J 0) a2Y fun e1x a1v =>
 oP E (lA 3 e1x) a1v fun e1y Q8 =>
 oP E (xBin .eql 3 (.tmp 80) (.const (vI 2)) e1y (vI 2)) Q8 fun e1z U2 =>
 R e1z U2)
 (oP E (fA 49 b4J 0) a2Y fun b9t a2p =>
 oP E (lA 3 b9t) a2p fun b9u Q0 =>
 oP E (xBin .eql 3 (.tmp 83) (.const (vI 1)) b9u (vI 1)) Q0 fun b9v a1H =>
 R b9v a1H))))
noncomputable def c5 : Code := Tryd.f5.body.getD .skip
def h5 : Hint := (sQ (.seq (sQ (.cond (sQ .none) .none)) (.seq (sQ (.cond (sQ .none) .none)) (sQ (sQ (.seq (sQ (.cond (sQ .none) .none)) (.seq (sQ (.cond (sQ .none) .none)) (sQ .none))))))))
def c8j (x0 x1 x2 x7 x8 : Value) (w : World) (R : RT) (E : Pan) : Prop :=
 ∀ _τ : Fr, (oP E (xV (Instr.build 58 #[(0, (Value.string ⟨#[120]⟩))])) w fun f1N o0 =>
 oP E (xV (Instr.buildSlice 41 1 #[(0, f1N)])) o0 fun f1O m8 =>
 oP E (xCall (fC 23) [x1]) m8 fun f1P o8 =>
 oP E (xCall (fC 23) [x2]) o8 fun f1Q p6 =>
 oP E (xCall (fC 25) [x0, f1P, f1Q]) p6 fun f1R p7 =>
 oP E (xCall (fC 24) [(Value.string ⟨#[120]⟩), f1R]) p7 fun f1S q9 =>
 oP E (xV (Instr.buildSlice 42 1 #[(0, f1S)])) q9 fun f1T t8 =>
 oP E (xV (Instr.build 44 #[(0, f1O), (1, f1T)])) t8 fun f1U z8 =>
 oP E (xV (Instr.alloc 44 true (.tuple #[]))) z8 fun a1T B9 =>
 oP E (sA 44 a1T f1U) B9 fun _z_29 D3 =>
 oP E (lA 44 a1T) D3 fun f1V B4 =>
 oP E (xCall (fC 18) [f1V, (nS), (vI 10)]) B4 fun d1a C6 =>
 oP E (eX d1a 0) C6 fun f1W E5 =>
 oP E (eX d1a 1) E5 fun f1X D4 =>
 oP E (xV (Instr.alloc 49 true (.tuple #[]))) D4 fun a6v D6 =>
 oP E (sA 49 a6v f1W) D6 fun _z_41 G0 =>
 oP E (xBin .neq 29 (.tmp 77) (.const (vI 0)) f1X (vI 0)) G0 fun b7U E7 =>
 oP E (gsem (asB b7U) false (fA 49 a6v 2)) E7 fun f1Y K7 =>
 oP E (gsem (asB b7U) false (lA 3 f1Y)) K7 fun f1Z J0 =>
 oP E (gsem (asB b7U) false (xBin .neq 3 (.tmp 81) (.const (vI 1)) f1Z (vI 1))) J0 fun f2a F7 =>
 oP E (xPick b7U (vB true) f2a) F7 fun b3E E2 =>
 oP E (gsem (asB b3E) false (fA 49 a6v 4)) E2 fun f2b L0 =>
 oP E (gsem (asB b3E) false (lA 45 f2b)) L0 fun f2c L4 =>
 oP E (gsem (asB b3E) false (xBuiltin .len #[45] 3 [false] [f2c])) L4 fun f2d L1 =>
 oP E (gsem (asB b3E) false (xBin .neq 3 (.tmp 87) (.const (vI 1)) f2d (vI 1))) L1 fun f2e N8 =>
 oP E (xPick b3E (vB true) f2e) N8 fun b3F L5 =>
 oP E (gsem (asB b3F) false (fA 49 a6v 1)) L5 fun f2f M4 =>
 oP E (gsem (asB b3F) false (lA 3 f2f)) M4 fun f2g N9 =>
 oP E (gsem (asB b3F) false (xBin .neq 3 (.tmp 92) (.tmp 93) f2g (gval (asB b3F) false x8))) N9 fun f2h O0 =>
 oP E (xPick b3F (vB true) f2h) O0 fun f2i L2 =>
 xcond f2i
 (R (vB false) L2)
 (oP E (xBin .neq 3 (.tmp 96) (.const (vI 0)) x8 (vI 0)) L2 fun f2j O4 =>
 xcond f2j
 (oP E (fA 49 a6v 0) O4 fun f2k O5 =>
 oP E (lA 3 f2k) O5 fun f2l Q7 =>
 oP E (xBin .eql 3 (.tmp 99) (.const (vI 3)) f2l (vI 3)) Q7 fun a7u N0 =>
 oP E (gsem (asB a7u) true (fA 49 a6v 4)) N0 fun e1A R8 =>
 oP E (gsem (asB a7u) true (lA 45 e1A)) R8 fun e1B P9 =>
 oP E (gsem (asB a7u) true (iA 45 e1B (vI 0))) P9 fun e1C O6 =>
 oP E (gsem (asB a7u) true (lA 2 e1C)) O6 fun e1D R9 =>
 oP E (gsem (asB a7u) true (xBin .eql 2 (.tmp 105) (.const (vI 0)) e1D (vI 0))) R9 fun e1E M5 =>
 oP E (xPick a7u e1E (vB false)) M5 fun e1F X6 =>
 R e1F X6)
 (oP E (fA 49 a6v 0) O4 fun e1G a0Q =>
 oP E (lA 3 e1G) a0Q fun b4K a0y =>
 oP E (xBin .eql 3 (.tmp 109) (.const (vI 2)) b4K (vI 2)) a0y fun a3H a0e =>
 oP E (gsem (asB a3H) true (fA 49 a6v 4)) a0e fun e1H a0k =>
 oP E (gsem (asB a3H) true (lA 45 e1H)) a0k fun b9C T0 =>
 oP E (gsem (asB a3H) true (iA 45 b9C (vI 0))) T0 fun d5w N2 =>
 oP E (gsem (asB a3H) true (lA 2 d5w)) N2 fun d5x O1 =>
 oP E (gsem (asB a3H) true (xBin .eql 2 (.tmp 115) (.tmp 116) d5x (gval (asB a3H) true x7))) O1 fun d5y U1 =>
 oP E (xPick a3H d5y (vB false)) U1 fun d5z a1u =>
 R d5z a1u)))
def F6 (x0 x1 x2 : Value) (w : World) (R : RT) (E : Pan) : Prop :=
 oP E (xCall (fC 17) []) w fun f8K w_2 =>
 oP E (xV (Op.unary .not f8K)) w_2 fun b7u w_4 =>
 xcond b7u
 (R (vB false) w_4)
 (oP E (xBin .eql 2 (.tmp 14) (.const (vI (-9223372036854775808))) x1 (vI (-9223372036854775808))) w_4 fun b1L w_6 =>
 oP E (gsem (asB b1L) false (xBin .eql 2 (.tmp 17) (.const (vI (-9223372036854775808))) (gval (asB b1L) false x2) (vI (-9223372036854775808)))) w_6 fun f8L w_8 =>
 oP E (xPick b1L (vB true) f8L) w_8 fun f8M m4 =>
 xcond f8M
 (R (vB true) m4)
 (xcut (fun d7E a2Y => c8j x0 x1 x2 (nth d7E 0) (nth d7E.tail 0) a2Y R E) fun j1 =>
 oP E (xBin .eql 3 (.tmp 20) (.const (vI 6)) x0 (vI 6)) m4 fun e1I a1v =>
 xcond e1I
 (oP E (xCall (fC 26) [x1, x2]) a1v fun c5S Q8 =>
 oP E (eX c5S 0) Q8 fun e1J U2 =>
 oP E (eX c5S 1) U2 fun e1K a2p =>
 j1 [e1J, e1K] a2p)
 (oP E (xBin .eql 3 (.tmp 20) (.const (vI 7)) x0 (vI 7)) a1v fun e1L Q0 =>
 xcond e1L
 (oP E (xCall (fC 27) [x1, x2]) Q0 fun c5T a1H =>
 oP E (eX c5T 0) a1H fun e1M a4i =>
 oP E (eX c5T 1) a4i fun e1N a5n =>
 j1 [e1M, e1N] a5n)
 (oP E (xBin .eql 3 (.tmp 20) (.const (vI 8)) x0 (vI 8)) Q0 fun e1O a4j =>
 xcond e1O
 (oP E (xCall (fC 28) [x1, x2]) a4j fun c5U a4k =>
 oP E (eX c5U 0) a4k fun e1P a2r =>
 oP E (eX c5U 1) a2r fun e1Q a2s =>
 j1 [e1P, e1Q] a2s)
 (oP E (xBin .eql 3 (.tmp 20) (.const (vI 9)) x0 (vI 9)) a4j fun e1R a3A =>
 xcond e1R
 (oP E (xCall (fC 29) [x1, x2]) a3A fun c5V a5l =>
 oP E (eX c5V 0) a5l fun e1S a6g =>
 oP E (eX c5V 1) a6g fun e1T a6Y =>
 j1 [e1S, e1T] a6Y)
 (oP E (xBin .eql 3 (.tmp 20) (.const (vI 10)) x0 (vI 10)) a3A fun e1U a6h =>
 xcond e1U
 (oP E (xCall (fC 30) [x1, x2]) a6h fun c5W b1a =>
 oP E (eX c5W 0) b1a fun e1V a6Z =>
 oP E (eX c5W 1) a6Z fun e1W b1b =>
 j1 [e1V, e1W] b1b)
 (R (vB true) a6h)))))))
noncomputable def c6 : Code := Tryd.f6.body.getD .skip
def h6 : Hint := (sQ (.seq (sQ (.cond (sQ .none) .none)) (.seq (sQ (.cond (sQ .none) .none)) (sQ (.cut [7, 8] (sQ (.block (sQ (.cond .none (sQ (.cond .none (sQ (.cond .none (sQ (.cond .none (sQ (.cond .none (sQ .none))))))))))))) (sQ (sQ (.seq (sQ (.cond (sQ .none) .none)) (.seq (sQ (.cond (sQ .none) .none)) (sQ .none))))))))))
theorem f8N (x0 x1 x2 : Value) (w : World) (R : RT) (E : Pan) : F6 x0 x1 x2 w R E = callX Tryd.prog [.tmp 6] c6 h6 [x0, x1, x2] w R E := by kernel_rfl
theorem f8O {x0 x1 x2 : Value} (h : F6 x0 x1 x2 w R E) : Cv Tryd.prog 6 #[x0, x1, x2] w R E := by
 refine g8 (args := [x0, x1, x2]) (c := c6) (h := h6) (rs := [.tmp 6]) Tryd.func6 (by kernel_rfl) (by kernel_rfl) (nB (by kernel_rfl)) (by kernel_rfl) (by kernel_rfl) (by kernel_rfl) ?_
 rw [← f8N]
 exact h
noncomputable def c7 : Code := Tryd.f7.body.getD .skip
def h7 : Hint := (sQ (.seq (sQ (.cond (sQ .none) .none)) (.seq (sQ (.cond (sQ .none) .none)) (sQ (sQ (.seq (sQ (.cond (sQ .none) .none)) (sQ (.seq (sQ (.cond (sQ .none) .none)) (.seq (sQ (.cond (sQ .none) .none)) (.seq (sQ (.cond (sQ .none) .none)) (sQ (.cut [13] (sQ (.cond .none .none)) (sQ .none)))))))))))))
def F17 (w : World) (R : RT) (E : Pan) : Prop :=
 oP E (xV (Instr.build 24 #[(0, (vI 2)), (2, (Value.string ⟨#[120]⟩))])) w fun b0Y w_2 =>
 oP E (xV (Instr.build 24 #[(0, (vI 1)), (1, (vI 2))])) w_2 fun a2V w_4 =>
 oP E (xV (Instr.buildSlice 22 2 #[(0, b0Y), (1, a2V)])) w_4 fun a7J w_6 =>
 oP E (xV (Instr.build 24 #[(0, (vI 6)), (3, a7J)])) w_6 fun a3b w_8 =>
 oP E (xV (Instr.alloc 24 true (.tuple #[]))) w_8 fun f2m m4 =>
 oP E (sA 24 f2m a3b) m4 fun _z_11 o0 =>
 oP E (xV (Instr.build 58 #[(0, (Value.string ⟨#[120]⟩))])) o0 fun b0Z m8 =>
 oP E (xV (Instr.buildSlice 41 1 #[(0, b0Z)])) m8 fun b2Q o8 =>
 oP E (xV (Instr.build 24 #[(0, (vI 1)), (1, (vI 1))])) o8 fun b2R p6 =>
 oP E (xV (Instr.buildSlice 22 1 #[(0, b2R)])) p6 fun b2S p7 =>
 oP E (xV (Instr.build 63 #[(0, (vI 1)), (1, (Value.string ⟨#[120]⟩)), (2, b2S)])) p7 fun f2n q9 =>
 oP E (lA 24 f2m) q9 fun c1w t8 =>
 oP E (xV (Instr.buildSlice 22 1 #[(0, c1w)])) t8 fun f2o z8 =>
 oP E (xV (Instr.build 63 #[(0, (vI 1)), (1, (Value.string ⟨#[120]⟩)), (2, f2o)])) z8 fun f2p B9 =>
 oP E (xV (Instr.buildSlice 42 2 #[(0, f2n), (1, f2p)])) B9 fun f2q D3 =>
 oP E (xV (Instr.build 44 #[(0, b2Q), (1, f2q)])) D3 fun f2r B4 =>
 oP E (xV (Instr.alloc 44 true (.tuple #[]))) B4 fun d7F C6 =>
 oP E (sA 44 d7F f2r) C6 fun _z_35 E5 =>
 oP E (lA 44 d7F) E5 fun c1B D4 =>
 oP E (xCall (fC 18) [c1B, (nS), (vI 9)]) D4 fun b6Q D6 =>
 oP E (eX b6Q 0) D6 fun c2h G0 =>
 oP E (eX b6Q 1) G0 fun c2i E7 =>
 oP E (xV (Instr.alloc 49 true (.tuple #[]))) E7 fun b7V K7 =>
 oP E (sA 49 b7V c2h) K7 fun _z_47 J0 =>
 oP E (xBin .eql 29 (.tmp 24) (.const (vI 0)) c2i (vI 0)) J0 fun b7W F7 =>
 oP E (gsem (asB b7W) true (fA 49 b7V 0)) F7 fun f2s E2 =>
 oP E (gsem (asB b7W) true (lA 3 f2s)) E2 fun f2t L0 =>
 oP E (gsem (asB b7W) true (xBin .eql 3 (.tmp 28) (.const (vI 2)) f2t (vI 2))) L0 fun b7X L4 =>
 oP E (xPick b7W b7X (vB false)) L4 fun b0t L1 =>
 oP E (gsem (asB b0t) true (fA 49 b7V 2)) L1 fun b2V N8 =>
 oP E (gsem (asB b0t) true (lA 3 b2V)) N8 fun b2W L5 =>
 oP E (gsem (asB b0t) true (xBin .eql 3 (.tmp 33) (.const (vI 2)) b2W (vI 2))) L5 fun b2X M4 =>
 oP E (xPick b0t b2X (vB false)) M4 fun a7L N9 =>
 oP E (gsem (asB a7L) true (fA 49 b7V 4)) N9 fun f2u O0 =>
 oP E (gsem (asB a7L) true (lA 45 f2u)) O0 fun f2v L2 =>
 oP E (gsem (asB a7L) true (xBuiltin .len #[45] 3 [false] [f2v])) L2 fun f2w O4 =>
 oP E (gsem (asB a7L) true (xBin .eql 3 (.tmp 39) (.const (vI 1)) f2w (vI 1))) O4 fun f2x O5 =>
 oP E (xPick a7L f2x (vB false)) O5 fun b0u Q7 =>
 oP E (gsem (asB b0u) true (fA 49 b7V 4)) Q7 fun f2y N0 =>
 oP E (gsem (asB b0u) true (lA 45 f2y)) N0 fun f2z R8 =>
 oP E (gsem (asB b0u) true (iA 45 f2z (vI 0))) R8 fun f2A P9 =>
 oP E (gsem (asB b0u) true (lA 2 f2A)) P9 fun f2B O6 =>
 oP E (gsem (asB b0u) true (xBin .eql 2 (.tmp 46) (.const (vI 3)) f2B (vI 3))) O6 fun f2C R9 =>
 oP E (xPick b0u f2C (vB false)) R9 fun f2D M5 =>
 R f2D M5
noncomputable def c17 : Code := Tryd.f17.body.getD .skip
def h17 : Hint := (sQ (sQ (sQ (sQ (sQ .none)))))
theorem f2E (w : World) (R : RT) (E : Pan) : F17  w R E = callX Tryd.prog [.tmp 0] c17 h17 [] w R E := by kernel_rfl
theorem f2F (h : F17  w R E) : Cv Tryd.prog 17 #[] w R E := by
 refine g8 (args := []) (c := c17) (h := h17) (rs := [.tmp 0]) Tryd.func17 (by kernel_rfl) (by kernel_rfl) (Nat.zero_le _) (by kernel_rfl) (by kernel_rfl) (by kernel_rfl) ?_
 rw [← f2E]
 exact h
def c3T (x6 x14 : Value) (w : World) (R : RT) (E : Pan) : Prop :=
 ∀ _τ : Fr, (oP E (lA 49 x14) w fun e1X O4 =>
 oP E (sA 49 x6 e1X) O4 fun _z_73 O5 =>
 xcell Tryd.prog 49 x6 O5 fun g2U =>
 R (Value.tuple #[g2U, (vI 0)]) O5)
def d1b (_x6 _x10 _x14 _x89 _x90 x91 : Value) (w : World) (next3 : NT) (_R : RT) (E : Pan) : Prop :=
 ∀ _τ : Fr, (oP E (xBin .add 3 (.tmp 91) (.const (vI 1)) x91 (vI 1)) w fun e1Y g2V =>
 next3 [e1Y] g2V)
def c3U (x6 x10 x14 x89 x90 x91 : Value) (w : World) (next3 : NT) (j2 : NT) (R : RT) (E : Pan) : Prop :=
 oP E (xBin .lss 3 (.tmp 91) (.tmp 90) x91 x90) w fun f2G f2H =>
 xcond f2G
 (xcut (fun _ b9D => d1b x6 x10 x14 x89 x90 x91 b9D next3 R E) fun j4 =>
 oP E (iA 41 x89 x91) f2H fun f2I b3G =>
 oP E (lA 58 f2I) b3G fun f2J g2W =>
 oP E (xV (Instr.alloc 58 true (.tuple #[]))) g2W fun b7Y g2X =>
 oP E (sA 58 b7Y f2J) g2X fun _z_96 b1R =>
 oP E (fA 58 b7Y 1) b1R fun f2K c3V =>
 oP E (lA 3 f2K) c3V fun e1Z b7Z =>
 oP E (xBin .gtr 3 (.tmp 96) (.const (vI 0)) e1Z (vI 0)) b7Z fun e2a b8a =>
 xcond e2a
 (dX b8a fun O1 =>
 qP Tryd.prog (fA 49 x14 5) fun b9E =>
 qP Tryd.prog (xNil x10) fun d5A =>
 qP Tryd.prog (fA 90 d5A 5) fun c3W =>
 qP Tryd.prog (fA 58 b7Y 0) fun c3X =>
 qL Tryd.prog O1 (blk b9E) (lA 47 b9E) fun e2b =>
 qL Tryd.prog O1 (blk c3W) (lA 88 c3W) fun c3Y =>
 qL Tryd.prog O1 (blk c3X) (lA 9 c3X) fun d5B =>
 qL Tryd.prog O1 (blk c3Y) (xV (Instr.lookup 88 c3Y d5B false)) fun d5C =>
 oP E (xV (Instr.buildSlice 47 1 #[(0, d5C)])) O1 fun d5D Q8 =>
 keepX [(blk b9E)] O1 Q8 (opK Tryd.prog E (xBuiltin .append #[47, 47] 47 [false, false] [e2b, d5D]) Q8 fun d5E U2 =>
 keepX [] Q8 U2 (qP Tryd.prog (fA 49 x14 5) fun d5F =>
 oP E (sA 47 d5F d5E) U2 fun _z_118 d7G =>
 keepX [] U2 d7G (j4 [] d7G))))
 (dX b8a fun Q0 =>
 qP Tryd.prog (fA 49 x14 4) fun b6m =>
 qP Tryd.prog (xNil x10) fun d5G =>
 qP Tryd.prog (fA 90 d5G 4) fun c3Z =>
 qP Tryd.prog (fA 58 b7Y 0) fun c4a =>
 qL Tryd.prog Q0 (blk b6m) (lA 45 b6m) fun d5H =>
 qL Tryd.prog Q0 (blk c3Z) (lA 87 c3Z) fun c4b =>
 qL Tryd.prog Q0 (blk c4a) (lA 9 c4a) fun d5I =>
 qL Tryd.prog Q0 (blk c4b) (xV (Instr.lookup 87 c4b d5I false)) fun d5J =>
 qP Tryd.prog (xNil d5J) fun c4c =>
 qL Tryd.prog Q0 (blk c4c) (lA 2 c4c) fun d5K =>
 oP E (xV (Instr.buildSlice 45 1 #[(0, d5K)])) Q0 fun d5L a2r =>
 keepX [(blk b6m)] Q0 a2r (opK Tryd.prog E (xBuiltin .append #[45, 45] 45 [false, false] [d5H, d5L]) a2r fun d5M a2s =>
 keepX [] a2r a2s (qP Tryd.prog (fA 49 x14 4) fun d5N =>
 oP E (sA 45 d5N d5M) a2s fun _z_136 d7H =>
 keepX [] a2s d7H (j4 [] d7H)))))
 (j2 [] f2H)
def d1c (x3 x6 x10 : Value) (w : World) (R : RT) (E : Pan) : Prop :=
 ∀ _τ : Fr, (oP E (fA 44 x3 1) w fun f2L K7 =>
 oP E (lA 42 f2L) K7 fun f2M J0 =>
 oP E (xCall (fC 45) [x10, f2M]) J0 fun f2N F7 =>
 oP E (xV (Instr.alloc 93 true (.tuple #[]))) F7 fun c4d E2 =>
 oP E (sA 93 c4d f2N) E2 fun _z_53 L0 =>
 dX L0 fun b1y =>
 qP Tryd.prog (fA 93 c4d 0) fun c4e =>
 qP Tryd.prog (fA 93 c4d 1) fun c4f =>
 qP Tryd.prog (xNil x10) fun f2O =>
 qP Tryd.prog (fA 90 f2O 1) fun c4g =>
 qP Tryd.prog (xNil x10) fun f2P =>
 qP Tryd.prog (fA 90 f2P 3) fun c4h =>
 qL Tryd.prog b1y (blk c4e) (lA 3 c4e) fun f2Q =>
 qL Tryd.prog b1y (blk c4f) (lA 3 c4f) fun f2R =>
 qL Tryd.prog b1y (blk c4g) (lA 3 c4g) fun f2S =>
 qL Tryd.prog b1y (blk c4h) (lA 46 c4h) fun f2T =>
 qP Tryd.prog (xV (Instr.build 49 #[(0, f2Q), (1, f2R), (2, f2S), (3, f2T)])) fun f2U =>
 oP E (xV (Instr.alloc 49 true (.tuple #[]))) b1y fun c4i O0 =>
 keepX [(blk c4h), (blk c4g), (blk c4f), (blk c4e)] b1y O0 (opK Tryd.prog E (sA 49 c4i f2U) O0 fun _z_69 L2 =>
 keepX [] O0 L2 (xcut (fun _ b9F => c3T x6 c4i b9F R E) fun j2 =>
 oP E (fA 44 x3 0) L2 fun c4j b1d =>
 oP E (lA 41 c4j) b1d fun b3H d5O =>
 oP E (xBuiltin .len #[41] 3 [false] [b3H]) d5O fun c4k d5P =>
 xloop [91] [(vI 0)] d5P fun τ_138 c0O next3 =>
 c3U x6 x10 c4i b3H c4k (τ_138 91) c0O next3 j2 R E)))
def d1d (_x3 _x6 _x10 _x45 _x46 x47 : Value) (w : World) (next5 : NT) (_R : RT) (E : Pan) : Prop :=
 ∀ _τ : Fr, (oP E (xBin .add 3 (.tmp 47) (.const (vI 1)) x47 (vI 1)) w fun e2c f8P =>
 next5 [e2c] f8P)
def d1e (x3 x6 x10 x45 x46 x47 : Value) (w : World) (next5 : NT) (j1 : NT) (R : RT) (E : Pan) : Prop :=
 oP E (xBin .lss 3 (.tmp 47) (.tmp 46) x47 x46) w fun e2d d7I =>
 xcond e2d
 (xcut (fun _ f8Q => d1d x3 x6 x10 x45 x46 x47 f8Q next5 R E) fun j6 =>
 oP E (iA 41 x45 x47) d7I fun e2e f8R =>
 oP E (lA 58 e2e) f8R fun e2f f8S =>
 oP E (xV (Instr.alloc 58 true (.tuple #[]))) f8S fun b0v f8T =>
 oP E (sA 58 b0v e2f) f8T fun _z_160 f8U =>
 oP E (fA 58 b0v 1) f8U fun e2g f8V =>
 oP E (lA 3 e2g) f8V fun e2h f8W =>
 oP E (xBin .gtr 3 (.tmp 52) (.const (vI 0)) e2h (vI 0)) f8W fun e2i d7J =>
 xcond e2i
 (dX d7J fun a7f =>
 qP Tryd.prog (xNil x10) fun e2j =>
 qP Tryd.prog (fA 90 e2j 5) fun b9G =>
 qP Tryd.prog (fA 58 b0v 0) fun b9H =>
 qP Tryd.prog (fA 58 b0v 1) fun c5X =>
 qL Tryd.prog a7f (blk b9G) (lA 88 b9G) fun e2k =>
 qL Tryd.prog a7f (blk b9H) (lA 9 b9H) fun e2l =>
 qL Tryd.prog a7f (blk c5X) (lA 3 c5X) fun c5Y =>
 oP E (xV (Instr.makeSlice 45 c5Y c5Y)) a7f fun e2m c8k =>
 keepX [(blk b9H), (blk b9G)] a7f c8k (opK Tryd.prog E (xU (Instr.mapUpdate 88 e2k e2l e2m)) c8k fun _z_178 d7K =>
 keepX [] c8k d7K (j6 [] d7K)))
 (dX d7J fun b4I =>
 qP Tryd.prog (xNil x10) fun e2n =>
 qP Tryd.prog (fA 90 e2n 4) fun b9I =>
 qP Tryd.prog (fA 58 b0v 0) fun b9J =>
 qL Tryd.prog b4I (blk b9I) (lA 87 b9I) fun e2o =>
 qL Tryd.prog b4I (blk b9J) (lA 9 b9J) fun e2p =>
 oP E (xV (Instr.alloc 2 true (.tuple #[]))) b4I fun e2q c8l =>
 keepX [(blk b9J), (blk b9I)] b4I c8l (opK Tryd.prog E (xU (Instr.mapUpdate 87 e2o e2p e2q)) c8l fun _z_188 d7L =>
 keepX [] c8l d7L (j6 [] d7L))))
 (j1 [] d7I)
def F18 (x0 x1 x2 : Value) (w : World) (R : RT) (E : Pan) : Prop :=
 oP E (xV (Instr.box 44 x0)) w fun E8 w_2 =>
 oP E (xV (Instr.alloc 49 true (.tuple #[]))) w_2 fun a2V w_4 =>
 oP E (lA 44 E8) w_4 fun c8h w_6 =>
 oP E (xCall (fC 34) [c8h]) w_6 fun d7M w_8 =>
 oP E (eX d7M 0) w_8 fun _t20_9 m4 =>
 oP E (eX d7M 1) m4 fun d1f o0 =>
 oP E (xBin .neq 29 (.tmp 22) (.const (vI 0)) d1f (vI 0)) o0 fun f2V m8 =>
 xcond f2V
 (oP E (xV (Instr.build 49 #[])) m8 fun f2W o8 =>
 oP E (sA 49 a2V f2W) o8 fun _z_17 p6 =>
 xcell Tryd.prog 49 a2V p6 fun g2Y =>
 R (Value.tuple #[g2Y, d1f]) p6)
 (oP E (xBin .lss 3 (.tmp 26) (.const (vI 0)) x2 (vI 0)) m8 fun c4l a1D =>
 oP E (gsem (asB c4l) false (xBin .gtr 3 (.tmp 29) (.const (vI 65536)) (gval (asB c4l) false x2) (vI 65536))) a1D fun f2X a3d =>
 oP E (xPick c4l (vB true) f2X) a3d fun b8b b0U =>
 oP E (gsem (asB b8b) false (xBuiltin .len #[45] 3 [false] [(gval (asB b8b) false x1)])) b0U fun f2Y a2U =>
 oP E (gsem (asB b8b) false (xBin .gtr 3 (.tmp 34) (.const (vI 65536)) f2Y (vI 65536))) a2U fun f2Z d2Y =>
 oP E (xPick b8b (vB true) f2Z) d2Y fun f3a c4m =>
 xcond f3a
 (oP E (xV (Instr.build 49 #[])) c4m fun f3b d5Q =>
 oP E (sA 49 a2V f3b) d5Q fun _z_34 a9E =>
 xcell Tryd.prog 49 a2V a9E fun g2Z =>
 R (Value.tuple #[g2Z, (vI 80)]) a9E)
 (oP E (xV (Instr.makeMap 87 none)) c4m fun f3c D4 =>
 oP E (xV (Instr.makeMap 88 none)) D4 fun f3d D6 =>
 oP E (xV (Instr.build 90 #[(0, x2), (2, x1), (4, f3c), (5, f3d)])) D6 fun f3e G0 =>
 oP E (xV (Instr.box 90 f3e)) G0 fun d1g E7 =>
 xcut (fun _ f8X => d1c E8 a2V d1g f8X R E) fun j1 =>
 oP E (fA 44 E8 0) E7 fun e2r f8Y =>
 oP E (lA 41 e2r) f8Y fun c5Z f8Z =>
 oP E (xBuiltin .len #[41] 3 [false] [c5Z]) f8Z fun e2s f9a =>
 xloop [47] [(vI 0)] f9a fun τ_190 f9b next5 =>
 d1e E8 a2V d1g c5Z e2s (τ_190 47) f9b next5 j1 R E))
noncomputable def c18 : Code := Tryd.f18.body.getD .skip
def h18 : Hint := (sQ (.seq (sQ (sQ (.cond (sQ .none) .none))) (.seq (sQ (.cond (sQ .none) .none)) (sQ (.cut [] (sQ (.block (.loop [47] (sQ (.seq (.cond .none .none) (.cut [] (.block (sQ (sQ (.cond (.reg [(0, 18014398509481984, 1024), (1, 36028797018963968, 18014398509481984), (2, 72057594037927936, 36028797018963968), (4, 144115188075855872, 72057594037927936), (0, 288230376151711744, 4096), (16, 576460752303423488, 288230376151711744), (0, 1152921504606846976, 4096), (64, 2305843009213693952, 1152921504606846976), (128, 4611686018427387904, 2305843009213693952), (511, 0, 5332261958806667264)] [168, 168, 168, 160, 168, 136, 168, 40, 40, 0] (.early 0 (.early 1 (.early 2 (.early 4 (.early 6 (.load 3 (.load 5 (.load 7 (.step 8 (.step 9 .done))))))))))) (.reg [(0, 9223372036854775808, 1024), (1, 18446744073709551616, 9223372036854775808), (2, 36893488147419103232, 18446744073709551616), (4, 73786976294838206464, 36893488147419103232), (0, 147573952589676412928, 4096), (16, 295147905179352825856, 147573952589676412928), (0, 590295810358705651712, 0), (127, 0, 959230691832896684032)] [40, 40, 40, 32, 40, 8, 40, 0] (.early 0 (.early 1 (.early 2 (.early 4 (.load 3 (.load 5 (.step 6 (.step 7 .done))))))))))))) .none)))))) (sQ (.seq (.reg [(0, 37778931862957161709568, 8192), (1, 75557863725914323419136, 37778931862957161709568), (0, 151115727451828646838272, 8192), (4, 302231454903657293676544, 151115727451828646838272), (0, 604462909807314587353088, 1024), (16, 1208925819614629174706176, 604462909807314587353088), (32, 2417851639229258349412352, 1208925819614629174706176), (64, 4835703278458516698824704, 2417851639229258349412352), (0, 9671406556917033397649408, 1024), (256, 19342813113834066795298816, 9671406556917033397649408), (512, 38685626227668133590597632, 19342813113834066795298816), (1024, 77371252455336267181195264, 38685626227668133590597632), (2186, 154742504910672534362390528, 82584745052424355497115648), (0, 16384, 0), (16383, 0, 154742504910672534362406912)] [2186, 2184, 2186, 2178, 2186, 2186, 2186, 2058, 2186, 2186, 2186, 138, 2186, 2186, 0] (.early 0 (.early 2 (.early 4 (.early 5 (.early 6 (.early 8 (.early 9 (.early 10 (.load 1 (.load 3 (.load 7 (.load 11 (.early 12 (.step 13 (.step 14 .done)))))))))))))))) (.cut [] (sQ (.block (.loop [91] (sQ (.seq (.cond .none .none) (.cut [] (.block (sQ (sQ (.cond (.reg [(0, 316912650057057350374175801344, 16384), (1, 633825300114114700748351602688, 316912650057057350374175801344), (0, 1267650600228229401496703205376, 1024), (4, 2535301200456458802993406410752, 1267650600228229401496703205376), (8, 5070602400912917605986812821504, 2535301200456458802993406410752), (16, 10141204801825835211973625643008, 5070602400912917605986812821504), (0, 20282409603651670423947251286016, 65536), (64, 40564819207303340847894502572032, 20282409603651670423947251286016), (160, 81129638414606681695789005144064, 50706024009129176059868128215040), (256, 162259276829213363391578010288128, 81129638414606681695789005144064), (514, 324518553658426726783156020576256, 162893102129327478092326361890816), (2047, 649037107316853453566312041152512, 16384), (4095, 0, 973555660975280180349468061728768)] [418, 416, 418, 418, 418, 386, 418, 290, 162, 2, 0, 418, 0] (.early 0 (.early 2 (.early 3 (.early 4 (.early 6 (.load 1 (.load 5 (.load 7 (.load 8 (.step 9 (.step 10 (.early 11 (.step 12 .done)))))))))))))) (.reg [(0, 1298074214633706907132624082305024, 16384), (1, 2596148429267413814265248164610048, 1298074214633706907132624082305024), (0, 5192296858534827628530496329220096, 1024), (4, 10384593717069655257060992658440192, 5192296858534827628530496329220096), (8, 20769187434139310514121985316880384, 10384593717069655257060992658440192), (16, 41538374868278621028243970633760768, 20769187434139310514121985316880384), (0, 83076749736557242056487941267521536, 65536), (64, 166153499473114484112975882535043072, 83076749736557242056487941267521536), (160, 332306998946228968225951765070086144, 207691874341393105141219853168803840), (256, 664613997892457936451903530140172288, 332306998946228968225951765070086144), (512, 1329227995784915872903807060280344576, 664613997892457936451903530140172288), (1024, 2658455991569831745807614120560689152, 1329227995784915872903807060280344576), (2050, 5316911983139663491615228241121378304, 2661052139999099159621879368725299200), (8191, 10633823966279326983230456482242756608, 16384), (16383, 0, 15950735949418990474845684723364134912)] [1442, 1440, 1442, 1442, 1442, 1410, 1442, 1314, 1186, 1442, 418, 2, 0, 1442, 0] (.early 0 (.early 2 (.early 3 (.early 4 (.early 6 (.load 1 (.load 5 (.load 7 (.load 8 (.early 9 (.load 10 (.step 11 (.step 12 (.early 13 (.step 14 .done)))))))))))))))))))) .none)))))) (sQ .none)))))))))
theorem f3f (x0 x1 x2 : Value) (w : World) (R : RT) (E : Pan) : F18 x0 x1 x2 w R E = callX Tryd.prog [.cell 6 49, .tmp 7] c18 h18 [x0, x1, x2] w R E := by kernel_rfl
theorem f3g {x0 x1 x2 : Value} (h : F18 x0 x1 x2 w R E) : Cv Tryd.prog 18 #[x0, x1, x2] w R E := by
 refine g8 (args := [x0, x1, x2]) (c := c18) (h := h18) (rs := [.cell 6 49, .tmp 7]) Tryd.func18 (by kernel_rfl) (by kernel_rfl) (nB (by kernel_rfl)) (by kernel_rfl) (by kernel_rfl) (by kernel_rfl) ?_
 rw [← f3f]
 exact h
def F23 (x0 : Value) (w : World) (R : RT) (E : Pan) : Prop :=
 oP E (xV (Instr.alloc 24 true (.tuple #[]))) w fun b6h w_2 =>
 oP E (xBin .lss 2 (.tmp 3) (.const (vI 0)) x0 (vI 0)) w_2 fun a5B w_4 =>
 xcond a5B
 (oP E (xV (Op.unary .neg x0)) w_4 fun a4p w_6 =>
 oP E (xV (Instr.build 24 #[(0, (vI 1)), (1, a4p)])) w_6 fun a9x w_8 =>
 oP E (xV (Instr.buildSlice 22 1 #[(0, a9x)])) w_8 fun a6B m4 =>
 oP E (xV (Instr.build 24 #[(0, (vI 5)), (3, a6B)])) m4 fun a9c o0 =>
 oP E (sA 24 b6h a9c) o0 fun _z_13 m8 =>
 xcell Tryd.prog 24 b6h m8 fun d4z =>
 R d4z m8)
 (oP E (xV (Instr.build 24 #[(0, (vI 1)), (1, x0)])) w_4 fun b2z a1Y =>
 oP E (sA 24 b6h b2z) a1Y fun _z_18 a2T =>
 xcell Tryd.prog 24 b6h a2T fun g3a =>
 R g3a a2T)
noncomputable def c23 : Code := Tryd.f23.body.getD .skip
def h23 : Hint := (sQ (.seq (sQ (.cond (sQ .none) .none)) (sQ .none)))
theorem f3h (x0 : Value) (w : World) (R : RT) (E : Pan) : F23 x0 w R E = callX Tryd.prog [.cell 2 24] c23 h23 [x0] w R E := by kernel_rfl
theorem f3i {x0 : Value} (h : F23 x0 w R E) : Cv Tryd.prog 23 #[x0] w R E := by
 refine g8 (args := [x0]) (c := c23) (h := h23) (rs := [.cell 2 24]) Tryd.func23 (by kernel_rfl) (by kernel_rfl) (nB (by kernel_rfl)) (by kernel_rfl) (by kernel_rfl) (by kernel_rfl) ?_
 rw [← f3h]
 exact h
def F24 (x0 x1 : Value) (w : World) (R : RT) (E : Pan) : Prop :=
 oP E (xV (Instr.box 24 x1)) w fun E8 w_2 =>
 oP E (xV (Instr.alloc 63 true (.tuple #[]))) w_2 fun a5B w_4 =>
 oP E (lA 24 E8) w_4 fun a4p w_6 =>
 oP E (xV (Instr.buildSlice 22 1 #[(0, a4p)])) w_6 fun a9x w_8 =>
 oP E (xV (Instr.build 63 #[(0, (vI 1)), (1, x0), (2, a9x)])) w_8 fun a6B m4 =>
 oP E (sA 63 a5B a6B) m4 fun _z_11 o0 =>
 xcell Tryd.prog 63 a5B o0 fun g3b =>
 R g3b o0
noncomputable def c24 : Code := Tryd.f24.body.getD .skip
def h24 : Hint := (sQ (sQ .none))
theorem f3j (x0 x1 : Value) (w : World) (R : RT) (E : Pan) : F24 x0 x1 w R E = callX Tryd.prog [.cell 4 63] c24 h24 [x0, x1] w R E := by kernel_rfl
theorem f3k {x0 x1 : Value} (h : F24 x0 x1 w R E) : Cv Tryd.prog 24 #[x0, x1] w R E := by
 refine g8 (args := [x0, x1]) (c := c24) (h := h24) (rs := [.cell 4 63]) Tryd.func24 (by kernel_rfl) (by kernel_rfl) (nB (by kernel_rfl)) (by kernel_rfl) (by kernel_rfl) (by kernel_rfl) ?_
 rw [← f3j]
 exact h
def F25 (x0 x1 x2 : Value) (w : World) (R : RT) (E : Pan) : Prop :=
 oP E (xV (Instr.box 24 x1)) w fun a9z w_2 =>
 oP E (xV (Instr.box 24 x2)) w_2 fun b2M w_4 =>
 oP E (xV (Instr.alloc 24 true (.tuple #[]))) w_4 fun a4p w_6 =>
 oP E (lA 24 a9z) w_6 fun a3b w_8 =>
 oP E (lA 24 b2M) w_8 fun b2O m4 =>
 oP E (xV (Instr.buildSlice 22 2 #[(0, a3b), (1, b2O)])) m4 fun c2k o0 =>
 oP E (xV (Instr.build 24 #[(0, x0), (3, c2k)])) o0 fun b2Y m8 =>
 oP E (sA 24 a4p b2Y) m8 fun _z_15 o8 =>
 xcell Tryd.prog 24 a4p o8 fun g3c =>
 R g3c o8
noncomputable def c25 : Code := Tryd.f25.body.getD .skip
def h25 : Hint := (sQ (sQ .none))
theorem f3l (x0 x1 x2 : Value) (w : World) (R : RT) (E : Pan) : F25 x0 x1 x2 w R E = callX Tryd.prog [.cell 6 24] c25 h25 [x0, x1, x2] w R E := by kernel_rfl
theorem f3m {x0 x1 x2 : Value} (h : F25 x0 x1 x2 w R E) : Cv Tryd.prog 25 #[x0, x1, x2] w R E := by
 refine g8 (args := [x0, x1, x2]) (c := c25) (h := h25) (rs := [.cell 6 24]) Tryd.func25 (by kernel_rfl) (by kernel_rfl) (nB (by kernel_rfl)) (by kernel_rfl) (by kernel_rfl) (by kernel_rfl) ?_
 rw [← f3l]
 exact h
def d1h (x0 x6 x7 x8 : Value) (w : World) (next1 : NT) (R : RT) (E : Pan) : Prop :=
 oP E (xBin .lss 3 (.tmp 8) (.tmp 7) x8 x7) w fun a2o w_4 =>
 xcond a2o
 (oP E (iA 42 x6 x8) w_4 fun a0V w_6 =>
 oP E (lA 63 a0V) w_6 fun b0X w_8 =>
 oP E (xV (Instr.alloc 63 true (.tuple #[]))) w_8 fun f3n m4 =>
 oP E (sA 63 f3n b0X) m4 fun _z_11 o0 =>
 oP E (lA 63 f3n) o0 fun f3o m8 =>
 oP E (xCall (fC 111) [x0, f3o]) m8 fun _t14_15 o8 =>
 oP E (xBin .add 3 (.tmp 8) (.const (vI 1)) x8 (vI 1)) o8 fun f3p p6 =>
 next1 [f3p] p6)
 (R (Value.tuple #[]) w_4)
def F82 (x0 x1 : Value) (w : World) (R : RT) (E : Pan) : Prop :=
 oP E (xBuiltin .len #[42] 3 [false] [x1]) w fun a2q w_2 =>
 xloop [8] [(vI 0)] w_2 fun τ_19 p7 next1 =>
 d1h x0 x1 a2q (τ_19 8) p7 next1 R E
noncomputable def c82 : Code := Tryd.f82.body.getD .skip
def h82 : Hint := (sQ (.block (.loop [8] (sQ (.seq (.cond .none .none) (.seq (.block (sQ .none)) .none))))))
theorem f3q (x0 x1 : Value) (w : World) (R : RT) (E : Pan) : F82 x0 x1 w R E = callX Tryd.prog [] c82 h82 [x0, x1] w R E := by kernel_rfl
theorem f3r {x0 x1 : Value} (h : F82 x0 x1 w R E) : Cv Tryd.prog 82 #[x0, x1] w R E := by
 refine g8 (args := [x0, x1]) (c := c82) (h := h82) (rs := []) Tryd.func82 (by kernel_rfl) (by kernel_rfl) (nB (by kernel_rfl)) (by kernel_rfl) (by kernel_rfl) (by kernel_rfl) ?_
 rw [← f3q]
 exact h
def b9K (x0 x3 x4 : Value) (w : World) (R : RT) (E : Pan) : Prop :=
 ∀ _τ : Fr, (dX w fun a3d =>
 qP Tryd.prog (xNil x0) fun f3s =>
 qP Tryd.prog (fA 90 f3s 4) fun d1i =>
 qP Tryd.prog (fA 63 x3 1) fun d1j =>
 qL Tryd.prog a3d (blk d1i) (lA 87 d1i) fun d1k =>
 qL Tryd.prog a3d (blk d1j) (lA 9 d1j) fun f3t =>
 qL Tryd.prog a3d (blk d1k) (xV (Instr.lookup 87 d1k f3t false)) fun f3u =>
 qP Tryd.prog (xNil f3u) fun f3v =>
 oP E (sA 2 f3v x4) a3d fun _z_31 B4 =>
 keepX [] a3d B4 (R (Value.tuple #[]) B4))
def c6a (x0 x3 : Value) (w : World) (next2 : NT) (R : RT) (E : Pan) : Prop :=
 oP E (fA 63 x3 3) w fun e2t U1 =>
 oP E (lA 25 e2t) U1 fun e2u a1u =>
 oP E (iA 25 e2u (vI 0)) a1u fun e2v a2Y =>
 oP E (lA 27 e2v) a2Y fun e2w a1v =>
 oP E (xCall (fC 134) [x0, e2w]) a1v fun e2x Q8 =>
 xcond e2x
 (oP E (fA 63 x3 4) Q8 fun e2y U2 =>
 oP E (lA 42 e2y) U2 fun e2z a2p =>
 oP E (xCall (fC 82) [x0, e2z]) a2p fun _t90_119 Q0 =>
 next2 [] Q0)
 (R (Value.tuple #[]) Q8)
def d5R (x0 x1 : Value) (w : World) (R : RT) (E : Pan) : Prop :=
 oP E (xV (Instr.box 63 x1)) w fun E8 w_2 =>
 oP E (fA 63 E8 0) w_2 fun a2o w_4 =>
 oP E (lA 3 a2o) w_4 fun a0V w_6 =>
 oP E (xBin .eql 3 (.tmp 10) (.const (vI 1)) a0V (vI 1)) w_6 fun S2 w_8 =>
 xcond S2
 (oP E (fA 63 E8 2) w_8 fun b7r m4 =>
 oP E (lA 22 b7r) m4 fun b3r o0 =>
 oP E (iA 22 b3r (vI 0)) o0 fun a7F m8 =>
 oP E (lA 24 a7F) m8 fun c1P o8 =>
 oP E (xCall (fC 130) [x0, c1P]) o8 fun a9Z p6 =>
 oP E (eX a9Z 0) p6 fun c4n p7 =>
 oP E (eX a9Z 1) p7 fun c4o q9 =>
 xcut (fun b9r C6 => b9K x0 E8 (nth b9r 0) C6 R E) fun j1 =>
 xcond c4o
 (oP E (xCall (fC 131) [x0]) q9 fun _t26_35 E5 =>
 j1 [c4n] E5)
 (oP E (fA 63 E8 2) q9 fun c3o D4 =>
 oP E (lA 22 c3o) D4 fun b2K D6 =>
 oP E (iA 22 b2K (vI 0)) D6 fun c1Z G0 =>
 oP E (lA 24 c1Z) G0 fun c2a E7 =>
 oP E (xCall (fC 132) [x0, c2a]) E7 fun c2b K7 =>
 j1 [c2b] K7))
 (oP E (xBin .eql 3 (.tmp 10) (.const (vI 2)) a0V (vI 2)) w_8 fun f3w J0 =>
 xcond f3w
 (oP E (fA 63 E8 2) J0 fun f3x F7 =>
 oP E (lA 22 f3x) F7 fun f3y E2 =>
 oP E (iA 22 f3y (vI 0)) E2 fun f3z L0 =>
 oP E (lA 24 f3z) L0 fun f3A L4 =>
 oP E (xCall (fC 132) [x0, f3A]) L4 fun c3w L1 =>
 oP E (fA 63 E8 2) L1 fun f3B N8 =>
 oP E (lA 22 f3B) N8 fun f3C L5 =>
 oP E (iA 22 f3C (vI 1)) L5 fun f3D M4 =>
 oP E (lA 24 f3D) M4 fun c3y N9 =>
 oP E (xCall (fC 132) [x0, c3y]) N9 fun b7H O0 =>
 oP E (fA 63 E8 1) O0 fun f3E L2 =>
 oP E (lA 9 f3E) L2 fun f3F O4 =>
 oP E (xCall (fC 133) [x0, f3F, c3w]) O4 fun f3G O5 =>
 oP E (xNil f3G) O5 fun f3H Q7 =>
 oP E (sA 2 f3H b7H) Q7 fun _z_77 N0 =>
 R (Value.tuple #[]) N0)
 (oP E (xBin .eql 3 (.tmp 10) (.const (vI 3)) a0V (vI 3)) J0 fun f3I R8 =>
 xcond f3I
 (oP E (fA 63 E8 3) R8 fun b3I P9 =>
 oP E (lA 25 b3I) P9 fun b3J O6 =>
 oP E (iA 25 b3J (vI 0)) O6 fun b3K R9 =>
 oP E (lA 27 b3K) R9 fun b3L M5 =>
 oP E (xCall (fC 134) [x0, b3L]) M5 fun f3J X6 =>
 xcond f3J
 (oP E (fA 63 E8 4) X6 fun f3K a0Q =>
 oP E (lA 42 f3K) a0Q fun f3L a0y =>
 oP E (xCall (fC 82) [x0, f3L]) a0y fun _t74_95 a0e =>
 R (Value.tuple #[]) a0e)
 (oP E (fA 63 E8 5) X6 fun f3M a0k =>
 oP E (lA 42 f3M) a0k fun f3N T0 =>
 oP E (xCall (fC 82) [x0, f3N]) T0 fun _t78_101 N2 =>
 R (Value.tuple #[]) N2))
 (oP E (xBin .eql 3 (.tmp 10) (.const (vI 4)) a0V (vI 4)) R8 fun e2A O1 =>
 xcond e2A
 (xloop [] [] O1 fun _ a1H next2 =>
 c6a x0 E8 a1H next2 R E)
 (oP E (xBin .eql 3 (.tmp 10) (.const (vI 6)) a0V (vI 6)) O1 fun e2B a4i =>
 xcond e2B
 (oP E (fA 63 E8 3) a4i fun e2C a5n =>
 oP E (lA 25 e2C) a5n fun e2D a4j =>
 oP E (iA 25 e2D (vI 0)) a4j fun e2E a4k =>
 oP E (lA 27 e2E) a4k fun e2F a2r =>
 oP E (xCall (fC 134) [x0, e2F]) a2r fun e2G a2s =>
 oP E (xV (Op.unary .not e2G)) a2s fun e2H a3A =>
 xcond e2H
 (oP E (xCall (fC 135) [x0, (vI 2), (vI 0)]) a3A fun _t101_137 a5l =>
 R (Value.tuple #[]) a5l)
 (R (Value.tuple #[]) a3A))
 (oP E (xBin .eql 3 (.tmp 10) (.const (vI 5)) a0V (vI 5)) a4i fun d5S a6g =>
 xcond d5S
 (oP E (fA 63 E8 3) a6g fun d5T a6Y =>
 oP E (lA 25 d5T) a6Y fun d5U a6h =>
 oP E (iA 25 d5U (vI 0)) a6h fun d5V b1a =>
 oP E (lA 27 d5V) b1a fun d5W a6Z =>
 oP E (xCall (fC 134) [x0, d5W]) a6Z fun c4p b1b =>
 oP E (xCall (fC 131) [x0]) b1b fun _t111_151 b7c =>
 oP E (xNil x0) b7c fun d5X b7h =>
 oP E (fA 90 d5X 3) b7h fun d5Y b4n =>
 oP E (lA 46 d5Y) b4n fun d5Z b7i =>
 oP E (xV (Instr.build 55 #[(2, c4p)])) b7i fun d6a c8a =>
 oP E (xV (Instr.buildSlice 46 1 #[(0, d6a)])) c8a fun d6b c8b =>
 oP E (xBuiltin .append #[46, 46] 46 [false, false] [d5Z, d6b]) c8b fun d6c c8c =>
 oP E (xNil x0) c8c fun d6d c8d =>
 oP E (fA 90 d6d 3) c8d fun d6e a7f =>
 oP E (sA 46 d6e d6c) a7f fun _z_169 c8e =>
 oP E (xV (Op.unary .not c4p)) c8e fun d6f c0M =>
 xcond d6f
 (oP E (xCall (fC 136) [x0, (vI 4)]) c0M fun _t126_173 c8f =>
 R (Value.tuple #[]) c8f)
 (R (Value.tuple #[]) c0M))
 (oP E (xCall (fC 131) [x0]) a6g fun _t12_175 c8g =>
 R (Value.tuple #[]) c8g))))))
noncomputable def f3O : Code := Tryd.f111.body.getD .skip
def f3P : Hint := (sQ (sQ (.block (sQ (.cond (sQ (.cut [4] (sQ (.cond .none .none)) (.reg [(0, 8589934592, 1), (1, 17179869184, 8589934592), (2, 34359738368, 17179869184), (4, 68719476736, 34359738368), (0, 137438953472, 8), (16, 274877906944, 137438953472), (40, 549755813888, 343597383680), (0, 1099511627776, 16), (255, 2199023255552, 549755813888), (511, 0, 3298534883328)] [104, 104, 104, 96, 104, 72, 40, 104, 104, 0] (.early 0 (.early 1 (.early 2 (.early 4 (.early 7 (.load 3 (.load 5 (.load 6 (.early 8 (.step 9 .done))))))))))))) (sQ (.cond (sQ (sQ .none)) (sQ (.cond (sQ (.cond .none .none)) (sQ (.cond (.block (.loop [] (.seq (sQ (.cond .none .none)) (.block .none)))) (sQ (.cond (sQ (.cond .none .none)) (sQ (.cond (sQ (sQ (sQ (sQ (.cond .none .none))))) .none)))))))))))))))
theorem e2I (x0 x1 : Value) (w : World) (R : RT) (E : Pan) : d5R x0 x1 w R E = callX Tryd.prog [] f3O f3P [x0, x1] w R E := by kernel_rfl
theorem e2J {x0 x1 : Value} (h : d5R x0 x1 w R E) : Cv Tryd.prog 111 #[x0, x1] w R E := by
 refine g8 (args := [x0, x1]) (c := f3O) (h := f3P) (rs := []) Tryd.func111 (by kernel_rfl) (by kernel_rfl) (nB (by kernel_rfl)) (by kernel_rfl) (by kernel_rfl) (by kernel_rfl) ?_
 rw [← e2I]
 exact h
def d6g (x0 x1 : Value) (w : World) (R : RT) (E : Pan) : Prop :=
 oP E (xV (Instr.box 24 x1)) w fun E8 w_2 =>
 oP E (fA 24 E8 0) w_2 fun a2V w_4 =>
 oP E (lA 3 a2V) w_4 fun a7J w_6 =>
 oP E (xBin .eql 3 (.tmp 7) (.const (vI 2)) a7J (vI 2)) w_6 fun a3b w_8 =>
 xcond a3b
 (dX w_8 fun w_9 =>
 qP Tryd.prog (xNil x0) fun f3Q =>
 qP Tryd.prog (fA 90 f3Q 4) fun a6n =>
 qP Tryd.prog (fA 24 E8 2) fun d1l =>
 qL Tryd.prog w_9 (blk a6n) (lA 87 a6n) fun a6o =>
 qL Tryd.prog w_9 (blk d1l) (lA 9 d1l) fun f3R =>
 qL Tryd.prog w_9 (blk a6o) (xV (Instr.lookup 87 a6o f3R false)) fun c4q =>
 qP Tryd.prog (xNil c4q) fun d1m =>
 qL Tryd.prog w_9 (blk d1m) (lA 2 d1m) fun a5d =>
 R (Value.tuple #[a5d, (vB true)]) w_9)
 (oP E (lA 24 E8) w_8 fun f3S a2T =>
 oP E (xCall (fC 146) [f3S]) a2T fun d1n a1D =>
 oP E (eX d1n 0) a1D fun f3T a3d =>
 oP E (eX d1n 1) a3d fun f3U b0U =>
 R (Value.tuple #[f3T, f3U]) b0U)
noncomputable def f3V : Code := Tryd.f130.body.getD .skip
def f3W : Hint := (sQ (.seq (sQ (.cond (.seq (.reg [(0, 512, 1), (1, 1024, 512), (2, 2048, 1024), (4, 4096, 2048), (0, 8192, 8), (16, 16384, 8192), (40, 32768, 20480), (64, 65536, 32768), (128, 131072, 65536), (511, 16, 131072), (1023, 32, 0)] [360, 360, 360, 352, 360, 328, 296, 360, 104, 360, 360] (.early 0 (.early 1 (.early 2 (.early 4 (.load 3 (.load 5 (.load 6 (.early 7 (.load 8 (.early 9 (.early 10 .done)))))))))))) .none) .none)) (sQ .none)))
theorem e2K (x0 x1 : Value) (w : World) (R : RT) (E : Pan) : d6g x0 x1 w R E = callX Tryd.prog [.tmp 4, .tmp 5] f3V f3W [x0, x1] w R E := by kernel_rfl
theorem e2L {x0 x1 : Value} (h : d6g x0 x1 w R E) : Cv Tryd.prog 130 #[x0, x1] w R E := by
 refine g8 (args := [x0, x1]) (c := f3V) (h := f3W) (rs := [.tmp 4, .tmp 5]) Tryd.func130 (by kernel_rfl) (by kernel_rfl) (nB (by kernel_rfl)) (by kernel_rfl) (by kernel_rfl) (by kernel_rfl) ?_
 rw [← e2K]
 exact h
def c6b (x0 : Value) (w : World) (R : RT) (E : Pan) : Prop :=
 ∀ _τ : Fr, (oP E (xNil x0) w fun b4j w_2 =>
 oP E (fA 90 b4j 0) w_2 fun a0x w_4 =>
 oP E (lA 3 a0x) w_4 fun a5g w_6 =>
 oP E (xBin .sub 3 (.tmp 12) (.const (vI 1)) a5g (vI 1)) w_6 fun a5h w_8 =>
 oP E (xNil x0) w_8 fun a3z m4 =>
 oP E (fA 90 a3z 0) m4 fun a5i o0 =>
 oP E (sA 3 a5i a5h) o0 fun _z_13 m8 =>
 oP E (xNil x0) m8 fun a1Z o8 =>
 oP E (fA 90 a1Z 1) o8 fun b2E p6 =>
 oP E (lA 3 b2E) p6 fun c1G p7 =>
 oP E (xBin .add 3 (.tmp 19) (.const (vI 1)) c1G (vI 1)) p7 fun c1H q9 =>
 oP E (xNil x0) q9 fun c4r t8 =>
 oP E (fA 90 c4r 1) t8 fun b2C z8 =>
 oP E (sA 3 b2C c1H) z8 fun _z_27 B9 =>
 R (Value.tuple #[]) B9)
def d6h (x0 : Value) (w : World) (R : RT) (E : Pan) : Prop :=
 xcut (fun _ D3 => c6b x0 D3 R E) fun j1 =>
 oP E (xNil x0) w fun f9c B4 =>
 oP E (fA 90 f9c 0) B4 fun f9d C6 =>
 oP E (lA 3 f9d) C6 fun f9e E5 =>
 oP E (xBin .eql 3 (.tmp 5) (.const (vI 0)) f9e (vI 0)) E5 fun f9f D4 =>
 xcond f9f
 (oP E (xCall (fC 135) [x0, (vI 1), (vI 0)]) D4 fun _t8_39 D6 =>
 j1 [] D6)
 (j1 [] D4)
noncomputable def f3X : Code := Tryd.f131.body.getD .skip
def f3Y : Hint := (.cut [] (sQ (.cond .none .none)) (sQ .none))
theorem e2M (x0 : Value) (w : World) (R : RT) (E : Pan) : d6h x0 w R E = callX Tryd.prog [] f3X f3Y [x0] w R E := by kernel_rfl
theorem e2N {x0 : Value} (h : d6h x0 w R E) : Cv Tryd.prog 131 #[x0] w R E := by
 refine g8 (args := [x0]) (c := f3X) (h := f3Y) (rs := []) Tryd.func131 (by kernel_rfl) (by kernel_rfl) (nB (by kernel_rfl)) (by kernel_rfl) (by kernel_rfl) (by kernel_rfl) ?_
 rw [← e2M]
 exact h
def b9L (x0 x3 x7 : Value) (w : World) (R : RT) (E : Pan) : Prop :=
 ∀ _τ : Fr, (oP E (fA 24 x3 0) w fun f3Z o0 =>
 oP E (lA 3 f3Z) o0 fun b6P m8 =>
 oP E (xBin .eql 3 (.tmp 33) (.const (vI 3)) b6P (vI 3)) m8 fun f4a o8 =>
 xcond f4a
 (oP E (xCall (fC 147) [x0]) o8 fun f4b p6 =>
 R f4b p6)
 (oP E (xBin .eql 3 (.tmp 33) (.const (vI 4)) b6P (vI 4)) o8 fun f4c p7 =>
 xcond f4c
 (dX p7 fun a1D =>
 qP Tryd.prog (fA 24 x3 2) fun d1o =>
 qP Tryd.prog (iA 45 x7 (vI 0)) fun d1p =>
 qL Tryd.prog a1D (blk d1o) (lA 9 d1o) fun f4d =>
 qL Tryd.prog a1D (blk d1p) (lA 2 d1p) fun f4e =>
 oP E (xCall (fC 133) [x0, f4d, f4e]) a1D fun f4f a2U =>
 keepX [] a1D a2U (qP Tryd.prog (xNil f4f) fun d1q =>
 qL Tryd.prog a2U (blk d1q) (lA 2 d1q) fun f4g =>
 R f4g a2U))
 (oP E (xCall (fC 131) [x0]) p7 fun _t50_30 c4m =>
 oP E (fA 24 x3 0) c4m fun f4h d5Q =>
 oP E (lA 3 f4h) d5Q fun b3M a9E =>
 oP E (xBin .eql 3 (.tmp 52) (.const (vI 5)) b3M (vI 5)) a9E fun f4i d2U =>
 xcond f4i
 (oP E (iA 45 x7 (vI 0)) d2U fun f4j d3b =>
 oP E (lA 2 f4j) d3b fun f4k b8J =>
 oP E (xCall (fC 101) [f4k]) b8J fun d1r b5x =>
 oP E (eX d1r 0) b5x fun f4l a7I =>
 oP E (eX d1r 1) a7I fun f4m b8K =>
 oP E (xCall (fC 148) [x0, f4l, f4m]) b8K fun f4n b0W =>
 R f4n b0W)
 (oP E (xBin .eql 3 (.tmp 52) (.const (vI 6)) b3M (vI 6)) d2U fun f4o b9M =>
 xcond f4o
 (dX b9M fun E2 =>
 qP Tryd.prog (iA 45 x7 (vI 0)) fun d1s =>
 qP Tryd.prog (iA 45 x7 (vI 1)) fun d1t =>
 qL Tryd.prog E2 (blk d1s) (lA 2 d1s) fun f4p =>
 qL Tryd.prog E2 (blk d1t) (lA 2 d1t) fun f4q =>
 oP E (xCall (fC 26) [f4p, f4q]) E2 fun d1u L1 =>
 keepX [] E2 L1 (qP Tryd.prog (eX d1u 0) fun f4r =>
 qP Tryd.prog (eX d1u 1) fun f4s =>
 oP E (xCall (fC 148) [x0, f4r, f4s]) L1 fun f4t L5 =>
 keepX [] L1 L5 (R f4t L5)))
 (oP E (xBin .eql 3 (.tmp 52) (.const (vI 7)) b3M (vI 7)) b9M fun f4u M4 =>
 xcond f4u
 (dX M4 fun b3d =>
 qP Tryd.prog (iA 45 x7 (vI 0)) fun d1v =>
 qP Tryd.prog (iA 45 x7 (vI 1)) fun d1w =>
 qL Tryd.prog b3d (blk d1v) (lA 2 d1v) fun f4v =>
 qL Tryd.prog b3d (blk d1w) (lA 2 d1w) fun f4w =>
 oP E (xCall (fC 27) [f4v, f4w]) b3d fun d1x c8m =>
 keepX [] b3d c8m (qP Tryd.prog (eX d1x 0) fun f4x =>
 qP Tryd.prog (eX d1x 1) fun f4y =>
 oP E (xCall (fC 148) [x0, f4x, f4y]) c8m fun f4z d6i =>
 keepX [] c8m d6i (R f4z d6i)))
 (oP E (xBin .eql 3 (.tmp 52) (.const (vI 8)) b3M (vI 8)) M4 fun f4A b9F =>
 xcond f4A
 (dX b9F fun N0 =>
 qP Tryd.prog (iA 45 x7 (vI 0)) fun d1y =>
 qP Tryd.prog (iA 45 x7 (vI 1)) fun d1z =>
 qL Tryd.prog N0 (blk d1y) (lA 2 d1y) fun f4B =>
 qL Tryd.prog N0 (blk d1z) (lA 2 d1z) fun f4C =>
 oP E (xCall (fC 28) [f4B, f4C]) N0 fun d1A O6 =>
 keepX [] N0 O6 (qP Tryd.prog (eX d1A 0) fun f4D =>
 qP Tryd.prog (eX d1A 1) fun e2O =>
 oP E (xCall (fC 148) [x0, f4D, e2O]) O6 fun e2P M5 =>
 keepX [] O6 M5 (R e2P M5)))
 (oP E (xBin .eql 3 (.tmp 52) (.const (vI 9)) b3M (vI 9)) b9F fun e2Q X6 =>
 xcond e2Q
 (dX X6 fun b3G =>
 qP Tryd.prog (iA 45 x7 (vI 0)) fun c6c =>
 qP Tryd.prog (iA 45 x7 (vI 1)) fun b4K =>
 qL Tryd.prog b3G (blk c6c) (lA 2 c6c) fun e2R =>
 qL Tryd.prog b3G (blk b4K) (lA 2 b4K) fun a3H =>
 oP E (xCall (fC 29) [e2R, a3H]) b3G fun c6d b1R =>
 keepX [] b3G b1R (qP Tryd.prog (eX c6d 0) fun e2S =>
 qP Tryd.prog (eX c6d 1) fun b9C =>
 oP E (xCall (fC 148) [x0, e2S, b9C]) b1R fun d6j b7Z =>
 keepX [] b1R b7Z (R d6j b7Z)))
 (dX X6 fun N2 =>
 qP Tryd.prog (iA 45 x7 (vI 0)) fun c4s =>
 qP Tryd.prog (iA 45 x7 (vI 1)) fun c4t =>
 qL Tryd.prog N2 (blk c4s) (lA 2 c4s) fun d6k =>
 qL Tryd.prog N2 (blk c4t) (lA 2 c4t) fun d6l =>
 oP E (xCall (fC 30) [d6k, d6l]) N2 fun c4u a1u =>
 keepX [] N2 a1u (qP Tryd.prog (eX c4u 0) fun d6m =>
 qP Tryd.prog (eX c4u 1) fun d6n =>
 oP E (xCall (fC 148) [x0, d6m, d6n]) a1u fun d6o a1v =>
 keepX [] a1u a1v (R d6o a1v))))))))))
def c6e (x0 _x3 x7 x19 x20 x21 : Value) (w : World) (next2 : NT) (j1 : NT) (_R : RT) (E : Pan) : Prop :=
 oP E (xBin .lss 3 (.tmp 21) (.tmp 20) x21 x20) w fun e2T a1H =>
 xcond e2T
 (oP E (iA 22 x19 x21) a1H fun e2U a4i =>
 oP E (lA 24 e2U) a4i fun e2V a5n =>
 oP E (xV (Instr.alloc 24 true (.tuple #[]))) a5n fun d1B a4j =>
 oP E (sA 24 d1B e2V) a4j fun _z_129 a4k =>
 oP E (lA 24 d1B) a4k fun e2W a2r =>
 oP E (xCall (fC 132) [x0, e2W]) a2r fun e2X a2s =>
 oP E (xV (Instr.buildSlice 45 1 #[(0, e2X)])) a2s fun e2Y a3A =>
 oP E (xBuiltin .append #[45, 45] 45 [false, false] [x7, e2Y]) a3A fun e2Z a5l =>
 oP E (xBin .add 3 (.tmp 21) (.const (vI 1)) x21 (vI 1)) a5l fun e3a a6g =>
 next2 [e2Z, e3a] a6g)
 (j1 [x7] a1H)
def d6p (x0 x1 : Value) (w : World) (R : RT) (E : Pan) : Prop :=
 oP E (xV (Instr.box 24 x1)) w fun E8 w_2 =>
 oP E (lA 24 E8) w_2 fun c8n w_4 =>
 oP E (xCall (fC 130) [x0, c8n]) w_4 fun a3F w_6 =>
 oP E (eX a3F 0) w_6 fun S2 w_8 =>
 oP E (eX a3F 1) w_8 fun a4h m4 =>
 xcond a4h
 (R S2 m4)
 (xcut (fun f9g Q8 => b9L x0 E8 (nth f9g 0) Q8 R E) fun j1 =>
 oP E (fA 24 E8 3) m4 fun e3b U2 =>
 oP E (lA 22 e3b) U2 fun c6f a2p =>
 oP E (xBuiltin .len #[22] 3 [false] [c6f]) a2p fun e3c Q0 =>
 xloop [7, 21] [(nS), (vI 0)] Q0 fun τ_141 a6Y next2 =>
 c6e x0 E8 (τ_141 7) c6f e3c (τ_141 21) a6Y next2 j1 R E)
noncomputable def f4E : Code := Tryd.f132.body.getD .skip
def f4F : Hint := (sQ (.seq (sQ (sQ (.cond (sQ .none) .none))) (sQ (.cut [7] (sQ (.block (.loop [7, 21] (sQ (.seq (.cond .none .none) (.seq (.block (sQ .none)) .none)))))) (.seq (sQ (.block (sQ (.cond (sQ .none) (sQ (.cond (.seq (.reg [(0, 1099511627776, 1), (0, 2199023255552, 8), (2, 4398046511104, 2199023255552), (0, 8796093022208, 128), (8, 17592186044416, 8796093022208), (16, 35184372088832, 17592186044416), (37, 70368744177664, 40681930227712), (64, 140737488355328, 70368744177664), (128, 281474976710656, 140737488355328), (511, 16, 281474976710656)] [292, 292, 288, 292, 292, 260, 0, 292, 36, 292] (.early 0 (.early 1 (.early 3 (.early 4 (.load 2 (.load 5 (.step 6 (.early 7 (.load 8 (.early 9 .done))))))))))) .none) .none)))))) (sQ (.seq (sQ (.block (sQ (.cond (sQ .none) (sQ (.cond (.seq (.reg [(0, 36893488147419103232, 1), (0, 73786976294838206464, 128), (2, 147573952589676412928, 73786976294838206464), (4, 295147905179352825856, 147573952589676412928), (0, 590295810358705651712, 128), (16, 1180591620717411303424, 590295810358705651712), (32, 2361183241434822606848, 1180591620717411303424), (72, 4722366482869645213696, 2656331146614175432704), (128, 9444732965739290427392, 4722366482869645213696), (128, 18889465931478580854784, 4722366482869645213696), (897, 37778931862957161709568, 28371092385365290385408), (2047, 16, 37778931862957161709568)] [72, 72, 72, 64, 72, 72, 8, 0, 72, 72, 0, 72] (.early 0 (.early 1 (.early 2 (.early 4 (.early 5 (.load 3 (.load 6 (.step 7 (.early 8 (.early 9 (.step 10 (.early 11 .done))))))))))))) .none) (sQ (.cond (.seq (.reg [(0, 302231454903657293676544, 1), (0, 604462909807314587353088, 128), (2, 1208925819614629174706176, 604462909807314587353088), (4, 2417851639229258349412352, 1208925819614629174706176), (0, 4835703278458516698824704, 128), (16, 9671406556917033397649408, 4835703278458516698824704), (32, 19342813113834066795298816, 9671406556917033397649408), (72, 38685626227668133590597632, 21760664753063325144711168), (128, 77371252455336267181195264, 38685626227668133590597632), (128, 154742504910672534362390528, 38685626227668133590597632), (897, 309485009821345068724781056, 232415988820912458837262336), (2047, 16, 309485009821345068724781056)] [72, 72, 72, 64, 72, 72, 8, 0, 72, 72, 0, 72] (.early 0 (.early 1 (.early 2 (.early 4 (.early 5 (.load 3 (.load 6 (.step 7 (.early 8 (.early 9 (.step 10 (.early 11 .done))))))))))))) .none) (sQ (.cond (.seq (.reg [(0, 2475880078570760549798248448, 1), (0, 4951760157141521099596496896, 128), (2, 9903520314283042199192993792, 4951760157141521099596496896), (4, 19807040628566084398385987584, 9903520314283042199192993792), (0, 39614081257132168796771975168, 128), (16, 79228162514264337593543950336, 39614081257132168796771975168), (32, 158456325028528675187087900672, 79228162514264337593543950336), (72, 316912650057057350374175801344, 178263365657094759585473888256), (128, 633825300114114700748351602688, 316912650057057350374175801344), (128, 1267650600228229401496703205376, 316912650057057350374175801344), (897, 2535301200456458802993406410752, 1903951780420914862794853056512), (2047, 16, 2535301200456458802993406410752)] [72, 72, 72, 64, 72, 72, 8, 0, 72, 72, 0, 72] (.early 0 (.early 1 (.early 2 (.early 4 (.early 5 (.load 3 (.load 6 (.step 7 (.early 8 (.early 9 (.step 10 (.early 11 .done))))))))))))) .none) (sQ (.cond (.seq (.reg [(0, 20282409603651670423947251286016, 1), (0, 40564819207303340847894502572032, 128), (2, 81129638414606681695789005144064, 40564819207303340847894502572032), (4, 162259276829213363391578010288128, 81129638414606681695789005144064), (0, 324518553658426726783156020576256, 128), (16, 649037107316853453566312041152512, 324518553658426726783156020576256), (32, 1298074214633706907132624082305024, 649037107316853453566312041152512), (72, 2596148429267413814265248164610048, 1460333491462920270524202092593152), (128, 5192296858534827628530496329220096, 2596148429267413814265248164610048), (128, 10384593717069655257060992658440192, 2596148429267413814265248164610048), (897, 20769187434139310514121985316880384, 15597172985208134556015436238946304), (2047, 16, 20769187434139310514121985316880384)] [72, 72, 72, 64, 72, 72, 8, 0, 72, 72, 0, 72] (.early 0 (.early 1 (.early 2 (.early 4 (.early 5 (.load 3 (.load 6 (.step 7 (.early 8 (.early 9 (.step 10 (.early 11 .done))))))))))))) .none) .none)))))))))))) (.seq (.reg [(0, 41538374868278621028243970633760768, 1), (0, 83076749736557242056487941267521536, 128), (2, 166153499473114484112975882535043072, 83076749736557242056487941267521536), (4, 332306998946228968225951765070086144, 166153499473114484112975882535043072), (0, 664613997892457936451903530140172288, 128), (16, 1329227995784915872903807060280344576, 664613997892457936451903530140172288), (32, 2658455991569831745807614120560689152, 1329227995784915872903807060280344576), (72, 5316911983139663491615228241121378304, 2990762990516060714033565885630775296), (128, 10633823966279326983230456482242756608, 5316911983139663491615228241121378304), (128, 21267647932558653966460912964485513216, 5316911983139663491615228241121378304), (897, 42535295865117307932921825928971026432, 31943010273706259570719613417362030592), (2047, 16, 42535295865117307932921825928971026432)] [72, 72, 72, 64, 72, 72, 8, 0, 72, 72, 0, 72] (.early 0 (.early 1 (.early 2 (.early 4 (.early 5 (.load 3 (.load 6 (.step 7 (.early 8 (.early 9 (.step 10 (.early 11 .done))))))))))))) .none))))))))
theorem e3d (x0 x1 : Value) (w : World) (R : RT) (E : Pan) : d6p x0 x1 w R E = callX Tryd.prog [.tmp 4] f4E f4F [x0, x1] w R E := by kernel_rfl
theorem e3e {x0 x1 : Value} (h : d6p x0 x1 w R E) : Cv Tryd.prog 132 #[x0, x1] w R E := by
 refine g8 (args := [x0, x1]) (c := f4E) (h := f4F) (rs := [.tmp 4]) Tryd.func132 (by kernel_rfl) (by kernel_rfl) (nB (by kernel_rfl)) (by kernel_rfl) (by kernel_rfl) (by kernel_rfl) ?_
 rw [← e3d]
 exact h
def c6g (x2 x7 : Value) (w : World) (R : RT) (E : Pan) : Prop :=
 ∀ _τ : Fr, (oP E (iA 45 x7 x2) w fun f4G o0 =>
 R f4G o0)
def d6q (x0 x1 x2 : Value) (w : World) (R : RT) (E : Pan) : Prop :=
 oP E (xCall (fC 131) [x0]) w fun _t9_1 w_2 =>
 oP E (xNil x0) w_2 fun a0x w_4 =>
 oP E (fA 90 a0x 5) w_4 fun a5g w_6 =>
 oP E (lA 88 a5g) w_6 fun a5h w_8 =>
 oP E (xV (Instr.lookup 88 a5h x1 false)) w_8 fun a4h m4 =>
 xcut (fun _ m8 => c6g x2 a4h m8 R E) fun j1 =>
 oP E (xBin .lss 2 (.tmp 16) (.const (vI 0)) x2 (vI 0)) m4 fun a1Z o8 =>
 oP E (gsem (asB a1Z) false (xBuiltin .len #[45] 3 [false] [(gval (asB a1Z) false a4h)])) o8 fun a9Z p6 =>
 oP E (gsem (asB a1Z) false (xBin .geq 2 (.tmp 19) (.tmp 21) (gval (asB a1Z) false x2) a9Z)) p6 fun c4n p7 =>
 oP E (xPick a1Z (vB true) c4n) p7 fun c4o q9 =>
 xcond c4o
 (oP E (xCall (fC 136) [x0, (vI 3)]) q9 fun _t25_23 t8 =>
 j1 [] t8)
 (j1 [] q9)
noncomputable def f4H : Code := Tryd.f133.body.getD .skip
def f4I : Hint := (sQ (sQ (sQ (.cut [] (sQ (.cond .none .none)) (sQ .none)))))
theorem e3f (x0 x1 x2 : Value) (w : World) (R : RT) (E : Pan) : d6q x0 x1 x2 w R E = callX Tryd.prog [.tmp 6] f4H f4I [x0, x1, x2] w R E := by kernel_rfl
theorem e3g {x0 x1 x2 : Value} (h : d6q x0 x1 x2 w R E) : Cv Tryd.prog 133 #[x0, x1, x2] w R E := by
 refine g8 (args := [x0, x1, x2]) (c := f4H) (h := f4I) (rs := [.tmp 6]) Tryd.func133 (by kernel_rfl) (by kernel_rfl) (nB (by kernel_rfl)) (by kernel_rfl) (by kernel_rfl) (by kernel_rfl) ?_
 rw [← e3f]
 exact h
def d6r (x0 x1 : Value) (w : World) (R : RT) (E : Pan) : Prop :=
 oP E (xV (Instr.box 27 x1)) w fun E8 w_2 =>
 oP E (fA 27 E8 0) w_2 fun a7A w_4 =>
 oP E (lA 3 a7A) w_4 fun b9w w_6 =>
 oP E (xBin .eql 3 (.tmp 8) (.const (vI 4)) b9w (vI 4)) w_6 fun f9h w_8 =>
 xcond f9h
 (oP E (fA 27 E8 3) w_8 fun b4o m4 =>
 oP E (lA 25 b4o) m4 fun f4J o0 =>
 oP E (iA 25 f4J (vI 0)) o0 fun f4K m8 =>
 oP E (lA 27 f4K) m8 fun c4q o8 =>
 oP E (xCall (fC 134) [x0, c4q]) o8 fun f4L p6 =>
 oP E (xV (Op.unary .not f4L)) p6 fun f4M p7 =>
 R f4M p7)
 (oP E (xBin .eql 3 (.tmp 8) (.const (vI 5)) b9w (vI 5)) w_8 fun a5e q9 =>
 xcond a5e
 (oP E (fA 27 E8 3) q9 fun c4r t8 =>
 oP E (lA 25 c4r) t8 fun b2C z8 =>
 oP E (iA 25 b2C (vI 0)) z8 fun b3q B9 =>
 oP E (lA 27 b3q) B9 fun c4v D3 =>
 oP E (xCall (fC 134) [x0, c4v]) D3 fun a8D B4 =>
 oP E (gsem (asB a8D) true (fA 27 E8 3)) B4 fun c1J C6 =>
 oP E (gsem (asB a8D) true (lA 25 c1J)) C6 fun f4N E5 =>
 oP E (gsem (asB a8D) true (iA 25 f4N (vI 1))) E5 fun f4O D4 =>
 oP E (gsem (asB a8D) true (lA 27 f4O)) D4 fun f4P D6 =>
 oP E (gsem (asB a8D) true (xCall (fC 134) [(gval (asB a8D) true x0), f4P])) D6 fun f4Q G0 =>
 oP E (xPick a8D f4Q (vB false)) G0 fun f4R E7 =>
 R f4R E7)
 (oP E (xBin .eql 3 (.tmp 8) (.const (vI 6)) b9w (vI 6)) q9 fun f4S K7 =>
 xcond f4S
 (oP E (fA 27 E8 3) K7 fun c1K J0 =>
 oP E (lA 25 c1K) J0 fun f4T F7 =>
 oP E (iA 25 f4T (vI 0)) F7 fun f4U E2 =>
 oP E (lA 27 f4U) E2 fun f4V L0 =>
 oP E (xCall (fC 134) [x0, f4V]) L0 fun a8E L4 =>
 oP E (gsem (asB a8E) false (fA 27 E8 3)) L4 fun c3N L1 =>
 oP E (gsem (asB a8E) false (lA 25 c3N)) L1 fun c4w N8 =>
 oP E (gsem (asB a8E) false (iA 25 c4w (vI 1))) N8 fun f4W L5 =>
 oP E (gsem (asB a8E) false (lA 27 f4W)) L5 fun f4X M4 =>
 oP E (gsem (asB a8E) false (xCall (fC 134) [(gval (asB a8E) false x0), f4X])) M4 fun c3O N9 =>
 oP E (xPick a8E (vB true) c3O) N9 fun c3P O0 =>
 R c3P O0)
 (oP E (xBin .eql 3 (.tmp 8) (.const (vI 3)) b9w (vI 3)) K7 fun f4Y L2 =>
 xcond f4Y
 (oP E (fA 27 E8 2) L2 fun f4Z O4 =>
 oP E (lA 22 f4Z) O4 fun c4x O5 =>
 oP E (iA 22 c4x (vI 0)) O5 fun f5a Q7 =>
 oP E (lA 24 f5a) Q7 fun c4y N0 =>
 oP E (xCall (fC 132) [x0, c4y]) N0 fun f5b R8 =>
 oP E (fA 27 E8 2) R8 fun f5c P9 =>
 oP E (lA 22 f5c) P9 fun f5d O6 =>
 oP E (iA 22 f5d (vI 1)) O6 fun c3Q R9 =>
 oP E (lA 24 c3Q) R9 fun c3R M5 =>
 oP E (xCall (fC 132) [x0, c3R]) M5 fun a3l X6 =>
 oP E (xCall (fC 131) [x0]) X6 fun _t65_91 a0Q =>
 oP E (fA 27 E8 1) a0Q fun c3S a0y =>
 oP E (lA 3 c3S) a0y fun f5e a0e =>
 oP E (xCall (fC 75) [f5e, f5b, a3l]) a0e fun b2G a0k =>
 R b2G a0k)
 (oP E (xCall (fC 131) [x0]) L2 fun _t72_99 T0 =>
 oP E (fA 27 E8 0) T0 fun b8G N2 =>
 oP E (lA 3 b8G) N2 fun b8H O1 =>
 oP E (xBin .eql 3 (.tmp 74) (.const (vI 1)) b8H (vI 1)) O1 fun e3h U1 =>
 R e3h U1))))
noncomputable def f5f : Code := Tryd.f134.body.getD .skip
def f5g : Hint := (sQ (.seq (sQ (.block (sQ (.cond (sQ .none) (sQ (.cond (sQ .none) (sQ (.cond (sQ .none) (sQ (.cond (sQ (sQ (sQ (sQ .none)))) .none)))))))))) (sQ (sQ .none))))
theorem e3i (x0 x1 : Value) (w : World) (R : RT) (E : Pan) : d6r x0 x1 w R E = callX Tryd.prog [.tmp 4] f5f f5g [x0, x1] w R E := by kernel_rfl
theorem e3j {x0 x1 : Value} (h : d6r x0 x1 w R E) : Cv Tryd.prog 134 #[x0, x1] w R E := by
 refine g8 (args := [x0, x1]) (c := f5f) (h := f5g) (rs := [.tmp 4]) Tryd.func134 (by kernel_rfl) (by kernel_rfl) (nB (by kernel_rfl)) (by kernel_rfl) (by kernel_rfl) (by kernel_rfl) ?_
 rw [← e3i]
 exact h
def d6s (_x0 x1 x2 : Value) (w : World) (R : RT) (E : Pan) : Prop :=
 oP E (xV (Instr.build 93 #[(0, x1), (1, x2)])) w fun a9y w_2 =>
 oP E (xV (Instr.makeInterface 93 a9y)) w_2 fun a2o w_4 =>
 oP E (xV (Instr.panic a2o)) w_4 fun _z_5 w_6 =>
 R (Value.tuple #[]) w_6
noncomputable def f5h : Code := Tryd.f135.body.getD .skip
def f5i : Hint := .none
theorem e3k (x0 x1 x2 : Value) (w : World) (R : RT) (E : Pan) : d6s x0 x1 x2 w R E = callX Tryd.prog [] f5h f5i [x0, x1, x2] w R E := by kernel_rfl
theorem e3l {x0 x1 x2 : Value} (h : d6s x0 x1 x2 w R E) : Cv Tryd.prog 135 #[x0, x1, x2] w R E := by
 refine g8 (args := [x0, x1, x2]) (c := f5h) (h := f5i) (rs := []) Tryd.func135 (by kernel_rfl) (by kernel_rfl) (nB (by kernel_rfl)) (by kernel_rfl) (by kernel_rfl) (by kernel_rfl) ?_
 rw [← e3k]
 exact h
def d6t (x0 x1 : Value) (w : World) (R : RT) (E : Pan) : Prop :=
 oP E (xBin .neq 3 (.tmp 4) (.const (vI 0)) x1 (vI 0)) w fun b0Y w_2 =>
 xcond b0Y
 (oP E (xCall (fC 135) [x0, (vI 3), x1]) w_2 fun _t8_3 w_4 =>
 R (Value.tuple #[]) w_4)
 (R (Value.tuple #[]) w_2)
noncomputable def f5j : Code := Tryd.f136.body.getD .skip
def f5k : Hint := (sQ (.cond .none .none))
theorem e3m (x0 x1 : Value) (w : World) (R : RT) (E : Pan) : d6t x0 x1 w R E = callX Tryd.prog [] f5j f5k [x0, x1] w R E := by kernel_rfl
theorem e3n {x0 x1 : Value} (h : d6t x0 x1 w R E) : Cv Tryd.prog 136 #[x0, x1] w R E := by
 refine g8 (args := [x0, x1]) (c := f5j) (h := f5k) (rs := []) Tryd.func136 (by kernel_rfl) (by kernel_rfl) (nB (by kernel_rfl)) (by kernel_rfl) (by kernel_rfl) (by kernel_rfl) ?_
 rw [← e3m]
 exact h
def c8o (x0 : Value) (w : World) (R : RT) (E : Pan) : Prop :=
 oP E (xV (Instr.box 24 x0)) w fun s8 w_2 =>
 oP E (fA 24 s8 0) w_2 fun b2M w_4 =>
 oP E (lA 3 b2M) w_4 fun a4p w_6 =>
 oP E (xBin .eql 3 (.tmp 6) (.const (vI 1)) a4p (vI 1)) w_6 fun a9x w_8 =>
 xcond a9x
 (oP E (fA 24 s8 1) w_8 fun a6B m4 =>
 oP E (lA 2 a6B) m4 fun a9c o0 =>
 R (Value.tuple #[a9c, (vB true)]) o0)
 (oP E (fA 24 s8 0) w_8 fun b2Y m8 =>
 oP E (lA 3 b2Y) m8 fun c2l o8 =>
 oP E (xBin .eql 3 (.tmp 12) (.const (vI 5)) c2l (vI 5)) o8 fun a5m p6 =>
 oP E (gsem (asB a5m) true (fA 24 s8 3)) p6 fun a7H p7 =>
 oP E (gsem (asB a5m) true (lA 22 a7H)) p7 fun b2I q9 =>
 oP E (gsem (asB a5m) true (iA 22 b2I (vI 0))) q9 fun c1X t8 =>
 oP E (gsem (asB a5m) true (fA 24 c1X 0)) t8 fun c1Y z8 =>
 oP E (gsem (asB a5m) true (lA 3 c1Y)) z8 fun a7K B9 =>
 oP E (gsem (asB a5m) true (xBin .eql 3 (.tmp 19) (.const (vI 1)) a7K (vI 1))) B9 fun f5l D3 =>
 oP E (xPick a5m f5l (vB false)) D3 fun b6U B4 =>
 xcond b6U
 (oP E (fA 24 s8 3) B4 fun c1S C6 =>
 oP E (lA 22 c1S) C6 fun f5m E5 =>
 oP E (iA 22 f5m (vI 0)) E5 fun f5n D4 =>
 oP E (fA 24 f5n 1) D4 fun f5o D6 =>
 oP E (lA 2 f5o) D6 fun f5p G0 =>
 oP E (xV (Op.unary .neg f5p)) G0 fun f5q E7 =>
 R (Value.tuple #[f5q, (vB true)]) E7)
 (R (Value.tuple #[(vI 0), (vB false)]) B4))
noncomputable def f5r : Code := Tryd.f146.body.getD .skip
def f5s : Hint := (sQ (.seq (.block (sQ (.cond (sQ .none) (sQ (.cond (sQ .none) .none))))) (sQ .none)))
theorem e3o (x0 : Value) (w : World) (R : RT) (E : Pan) : c8o x0 w R E = callX Tryd.prog [.tmp 2, .tmp 3] f5r f5s [x0] w R E := by kernel_rfl
theorem e3p {x0 : Value} (h : c8o x0 w R E) : Cv Tryd.prog 146 #[x0] w R E := by
 refine g8 (args := [x0]) (c := f5r) (h := f5s) (rs := [.tmp 2, .tmp 3]) Tryd.func146 (by kernel_rfl) (by kernel_rfl) (nB (by kernel_rfl)) (by kernel_rfl) (by kernel_rfl) (by kernel_rfl) ?_
 rw [← e3o]
 exact h
def c6h (x0 : Value) (w : World) (R : RT) (E : Pan) : Prop :=
 ∀ _τ : Fr, (oP E (xCall (fC 131) [x0]) w fun _t13_1 w_2 =>
 oP E (xNil x0) w_2 fun f9i w_4 =>
 oP E (fA 90 f9i 2) w_4 fun f9j w_6 =>
 oP E (lA 45 f9j) w_6 fun f9k w_8 =>
 oP E (iA 45 f9k (vI 0)) w_8 fun c8p m4 =>
 oP E (lA 2 c8p) m4 fun a6t o0 =>
 oP E (xNil x0) o0 fun f5t m8 =>
 oP E (fA 90 f5t 2) m8 fun f5u o8 =>
 oP E (lA 45 f5u) o8 fun f5v p6 =>
 oP E (xV (Instr.sliceAt 45 f5v (some (vI 1)) none none)) p6 fun f5w p7 =>
 oP E (xNil x0) p7 fun f5x q9 =>
 oP E (fA 90 f5x 2) q9 fun f5y t8 =>
 oP E (sA 45 f5y f5w) t8 fun _z_25 z8 =>
 oP E (xNil x0) z8 fun f5z B9 =>
 oP E (fA 90 f5z 3) B9 fun f5A D3 =>
 oP E (lA 46 f5A) D3 fun f5B B4 =>
 oP E (xV (Instr.build 55 #[(0, (vB true)), (1, a6t)])) B4 fun b2N C6 =>
 oP E (xV (Instr.buildSlice 46 1 #[(0, b2N)])) C6 fun b0n E5 =>
 oP E (xBuiltin .append #[46, 46] 46 [false, false] [f5B, b0n]) E5 fun b3v D4 =>
 oP E (xNil x0) D4 fun b8c D6 =>
 oP E (fA 90 b8c 3) D6 fun c4z G0 =>
 oP E (sA 46 c4z b3v) G0 fun _z_43 E7 =>
 R a6t E7)
def d6u (x0 : Value) (w : World) (R : RT) (E : Pan) : Prop :=
 xcut (fun _ K7 => c6h x0 K7 R E) fun j1 =>
 oP E (xNil x0) w fun c0N J0 =>
 oP E (fA 90 c0N 2) J0 fun f9l F7 =>
 oP E (lA 45 f9l) F7 fun f9m E2 =>
 oP E (xBuiltin .len #[45] 3 [false] [f9m]) E2 fun f9n L0 =>
 oP E (xBin .eql 3 (.tmp 8) (.const (vI 0)) f9n (vI 0)) L0 fun f9o L4 =>
 xcond f9o
 (oP E (xCall (fC 135) [x0, (vI 2), (vI 0)]) L4 fun _t11_57 L1 =>
 j1 [] L1)
 (j1 [] L4)
noncomputable def f5C : Code := Tryd.f147.body.getD .skip
def f5D : Hint := (sQ (.cut [] (sQ (.cond .none .none)) (sQ (sQ (sQ (sQ (sQ .none)))))))
theorem e3q (x0 : Value) (w : World) (R : RT) (E : Pan) : d6u x0 w R E = callX Tryd.prog [.tmp 2] f5C f5D [x0] w R E := by kernel_rfl
theorem e3r {x0 : Value} (h : d6u x0 w R E) : Cv Tryd.prog 147 #[x0] w R E := by
 refine g8 (args := [x0]) (c := f5C) (h := f5D) (rs := [.tmp 2]) Tryd.func147 (by kernel_rfl) (by kernel_rfl) (nB (by kernel_rfl)) (by kernel_rfl) (by kernel_rfl) (by kernel_rfl) ?_
 rw [← e3q]
 exact h
def d6v (x0 x1 x2 : Value) (w : World) (R : RT) (E : Pan) : Prop :=
 oP E (xCall (fC 136) [x0, x2]) w fun _t9_1 w_2 =>
 R x1 w_2
noncomputable def f5E : Code := Tryd.f148.body.getD .skip
def f5F : Hint := (sQ (sQ (sQ .none)))
theorem e3s (x0 x1 x2 : Value) (w : World) (R : RT) (E : Pan) : d6v x0 x1 x2 w R E = callX Tryd.prog [.tmp 6] f5E f5F [x0, x1, x2] w R E := by kernel_rfl
theorem e3t {x0 x1 x2 : Value} (h : d6v x0 x1 x2 w R E) : Cv Tryd.prog 148 #[x0, x1, x2] w R E := by
 refine g8 (args := [x0, x1, x2]) (c := f5E) (h := f5F) (rs := [.tmp 6]) Tryd.func148 (by kernel_rfl) (by kernel_rfl) (nB (by kernel_rfl)) (by kernel_rfl) (by kernel_rfl) (by kernel_rfl) ?_
 rw [← e3s]
 exact h
end Go.Proofs.YtnhkdkcgdcgmdaaDoor
