/- The second reading of some of the program's functions, printed by gen2.py off the code; each is held against the code by the kernel. -/
import Derived.KernelRfl
import Derived.Test.YtnhkdkcgdcgmdaaGreatDoorzXGz
namespace Go.Proofs.YtnhkdkcgdcgmdaaGreatDoor
open Go.RowKit
set_option maxRecDepth 100000
variable {w : World} {R : RT} {E : Pan}
def c1e (x7 x9 w) (R : RT) (_E : Pan) :=
 ∀ _τ : Fr, (R (Value.tuple #[x9, x7]) w)
def c5K (x5 x7 x9 x37 x38 x39 w) (next2 : NT) (j1 : NT) (_R : RT) (E) :=
 oP E (xBin .lss 3 (.tmp 39) (.tmp 38) x39 x38) w fun f b =>
 xcond f
 (oP E (iA 123 x37 x39) b fun g i =>
 oP E (lA 127 g) i fun j k =>
 oP E (xV (Instr.alloc 127 true (.tuple #[]))) k fun a l =>
 oP E (sA 127 a j) l fun _ m =>
 oP E (fA 127 a 0) m fun n o =>
 oP E (lA 9 n) o fun p q =>
 oP E (xV (Instr.lookup 119 x5 p false)) q fun c r =>
 oP E (fA 127 a 1) r fun s t =>
 oP E (lA 3 s) t fun u v =>
 oP E (xBin .eql 3 (.tmp 46) (.tmp 51) c u) v fun y d =>
 xcond y
 (oP E (xBin .add 3 (.tmp 39) (.const (vI 1)) x39 (vI 1)) d fun z aa =>
 next2 [x7, x9, z] aa)
 (oP E (xBin .eql 3 (.tmp 46) (.const (vI 0)) c (vI 0)) d fun ab e =>
 xcond ab
 (oP E (fA 127 a 0) e fun ac ad =>
 oP E (lA 9 ac) ad fun ae af =>
 j1 [(vI 63), ae] af)
 (oP E (fA 127 a 0) e fun ag ah =>
 oP E (lA 9 ag) ah fun ai aj =>
 j1 [(vI 64), ai] aj)))
 (j1 [x7, x9] b)
def F33 (x0 w) (R : RT) (E) :=
 oP E (xV (Instr.box 25 x0)) w fun a l =>
 oP E (lA 25 a) l fun m n =>
 oP E (xCall (fC 24) [m]) n fun e o =>
 oP E (xBin .neq 27 (.tmp 14) (.const (vI 0)) e (vI 0)) o fun p f =>
 xcond p
 (R (Value.tuple #[(eS), e]) f)
 (oP E (fA 25 a 0) f fun q r =>
 oP E (lA 22 q) r fun s t =>
 oP E (xCall (fC 57) [s]) t fun b u =>
 oP E (eX b 0) u fun v y =>
 oP E (eX b 1) y fun z aa =>
 oP E (eX b 2) aa fun c ab =>
 oP E (xBin .neq 27 (.tmp 24) (.const (vI 0)) c (vI 0)) ab fun ac g =>
 xcond ac
 (R (Value.tuple #[z, c]) g)
 (oP E (xV (Instr.build 125 #[])) g fun ad ae =>
 oP E (xV (Instr.box 125 ad)) ae fun i af =>
 oP E (fA 25 a 1) af fun ag ah =>
 oP E (lA 23 ag) ah fun ai aj =>
 oP E (xCall (fC 58) [i, ai]) aj fun _t33_31 ak =>
 xcut (fun j al => c1e (nth j 0) (nth j.tail 0) al R E) fun j1 =>
 oP E (xNil i) ak fun am an =>
 oP E (fA 125 am 0) an fun ao ap =>
 oP E (lA 123 ao) ap fun k aq =>
 oP E (xBuiltin .len #[123] 3 [false] [k]) aq fun ar au =>
 xloop [7, 9, 39] [c, (eS), (vI 0)] au fun d av next2 =>
 c5K v (d 7) (d 9) k ar (d 39) av next2 j1 R E))
def h33 : Hint := (sQ (.scope (hS (sQ (sQ (hC (sQ hN) hN))) (sQ (hS (sQ (hC (sQ hN) hN)) (sQ (sQ (sQ (sQ (hU [7, 9] (sQ (hB (hL [7, 9, 39] (sQ (hS (hC hN hN) (hS (hB (sQ (sQ (hB (sQ (hC hN (sQ (hC (sQ hN) (sQ hN))))))))) hN)))))) (sQ hN)))))))))))
theorem d3A {x0 : Value} (h : F33 x0 w R E) : Cv pG 33 #[x0] w R E := okF (h := h33) Tryz.func33 (by kernel_rfl) (by kernel_rfl) h
def c1f (w) (R : RT) (_E : Pan) :=
 ∀ _τ : Fr, (R (Value.tuple #[(eS), (vI 0)]) w)
def c5L (x1 x9 x10 w) (next3 : NT) (j2 : NT) (R : RT) (E) :=
 oP E (xBuiltin .len #[130] 3 [false] [x9]) w fun m n =>
 oP E (xBin .lss 3 (.tmp 64) (.tmp 66) x10 m) n fun o c =>
 xcond o
 (dX c fun b =>
 qP pG (fA 25 x1 0) fun d =>
 qP pG (iA 130 x9 x10) fun p =>
 qP pG (fA 133 p 0) fun e =>
 qL pG b (blk d) (lA 22 d) fun q =>
 qL pG b (blk e) (lA 9 e) fun r =>
 oP E (xCall (fC 61) [q, r]) b fun f g =>
 keepX [] b g (opK pG E (xBin .lss 3 (.tmp 78) (.const (vI 0)) f (vI 0)) g fun s i =>
 xcond s
 (oP E (iA 130 x9 x10) i fun t u =>
 oP E (fA 133 t 0) u fun v y =>
 oP E (lA 9 v) y fun z aa =>
 R (Value.tuple #[z, (vI 63)]) aa)
 (dX i fun a =>
 qP pG (fA 25 x1 0) fun j =>
 qP pG (iA 130 x9 x10) fun ab =>
 qP pG (fA 133 ab 1) fun k =>
 qL pG a (blk j) (lA 22 j) fun ac =>
 qP pG (iA 22 ac f) fun ad =>
 qP pG (fA 71 ad 1) fun l =>
 qL pG a (blk l) (lA 3 l) fun ae =>
 qP pG (xBin .gtr 3 (.tmp 90) (.const (vI 0)) ae (vI 0)) fun af =>
 qL pG a (blk k) (lA 4 k) fun ag =>
 qP pG (xBin .neq 4 (.tmp 91) (.tmp 96) af ag) fun ah =>
 xcond ah
 (oP E (iA 130 x9 x10) a fun ai aj =>
 oP E (fA 133 ai 0) aj fun ak al =>
 oP E (lA 9 ak) al fun am an =>
 R (Value.tuple #[am, (vI 64)]) an)
 (oP E (xBin .add 3 (.tmp 68) (.const (vI 1)) x10 (vI 1)) a fun ao ap =>
 next3 [ao] ap))))
 (j2 [] c)
def c1g (x1 w) (R : RT) (E) :=
 ∀ _τ : Fr, (oP E (lA 25 x1) w fun a b =>
 oP E (xCall (fC 62) [a]) b fun c d =>
 xcut (fun _ e => c1f e R E) fun j2 =>
 xloop [10] [(vI 0)] d fun f g next3 =>
 c5L x1 c (f 10) g next3 j2 R E)
def c1h (x1 x5 x6 x7 x8 w) (next4 : NT) (R : RT) (E) :=
 ∀ _τ : Fr, (dX w fun a =>
 qP pG (fA 25 x1 0) fun d =>
 qP pG (fA 71 x8 0) fun e =>
 qL pG a (blk d) (lA 22 d) fun i =>
 qP pG (xV (Instr.sliceAt 22 i none (some x7) none)) fun j =>
 qL pG a (blk e) (lA 9 e) fun k =>
 oP E (xCall (fC 61) [j, k]) a fun l b =>
 keepX [] a b (qP pG (xBin .geq 3 (.tmp 43) (.const (vI 0)) l (vI 0)) fun m =>
 xcond m
 (oP E (fA 71 x8 0) b fun n o =>
 oP E (lA 9 n) o fun p q =>
 R (Value.tuple #[p, (vI 60)]) q)
 (oP E (fA 71 x8 1) b fun r s =>
 oP E (lA 3 r) s fun t u =>
 oP E (xBin .gtr 3 (.tmp 49) (.const (vI 1024)) t (vI 1024)) u fun v f =>
 xcond v
 (oP E (fA 71 x8 0) f fun y z =>
 oP E (lA 9 y) z fun aa ab =>
 R (Value.tuple #[aa, (vI 61)]) ab)
 (oP E (xBin .gtr 3 (.tmp 54) (.const (vI 32)) x5 (vI 32)) f fun c ac =>
 oP E (gsem (asB c) false (xBin .gtr 3 (.tmp 57) (.const (vI 16)) (gval (asB c) false x6) (vI 16))) ac fun ad ae =>
 oP E (xPick c (vB true) ad) ae fun af g =>
 xcond af
 (oP E (fA 71 x8 0) g fun ag ah =>
 oP E (lA 9 ag) ah fun ai aj =>
 R (Value.tuple #[ai, (vI 62)]) aj)
 (oP E (xBin .add 3 (.tmp 22) (.const (vI 1)) x7 (vI 1)) g fun ak al =>
 next4 [x5, x6, ak] al)))))
def c5M (x1 x5 x6 x7 w) (next4 : NT) (j1 : NT) (R : RT) (E) :=
 oP E (fA 25 x1 0) w fun e f =>
 oP E (lA 22 e) f fun g i =>
 oP E (xBuiltin .len #[22] 3 [false] [g]) i fun j k =>
 oP E (xBin .lss 3 (.tmp 17) (.tmp 20) x7 j) k fun l b =>
 xcond l
 (oP E (fA 25 x1 0) b fun m n =>
 oP E (lA 22 m) n fun o p =>
 oP E (iA 22 o x7) p fun q r =>
 oP E (lA 71 q) r fun s t =>
 oP E (xV (Instr.alloc 71 true (.tuple #[]))) t fun a u =>
 oP E (sA 71 a s) u fun _ v =>
 xcut (fun c y => c1h x1 (nth c 0) (nth c.tail 0) x7 a y next4 R E) fun j5 =>
 oP E (fA 71 a 1) v fun z aa =>
 oP E (lA 3 z) aa fun ab ac =>
 oP E (xBin .eql 3 (.tmp 30) (.const (vI 0)) ab (vI 0)) ac fun ad d =>
 xcond ad
 (oP E (xBin .add 3 (.tmp 32) (.const (vI 1)) x5 (vI 1)) d fun ae af =>
 j5 [ae, x6] af)
 (oP E (xBin .add 3 (.tmp 34) (.const (vI 1)) x6 (vI 1)) d fun ag ah =>
 j5 [x5, ag] ah))
 (j1 [] b)
def F35 (x0 w) (R : RT) (E) :=
 oP E (xV (Instr.box 25 x0)) w fun a e =>
 oP E (lA 25 a) e fun f g =>
 oP E (xCall (fC 27) [f]) g fun c i =>
 oP E (xBin .neq 3 (.tmp 14) (.const (vI 0)) c (vI 0)) i fun j d =>
 xcond j
 (R (Value.tuple #[(eS), c]) d)
 (xcut (fun _ k => c1g a k R E) fun j1 =>
 xloop [5, 6, 7] [(vI 0), (vI 0), (vI 0)] d fun b l next4 =>
 c5M a (b 5) (b 6) (b 7) l next4 j1 R E)
def h35 : Hint := (sQ (sQ (hS (sQ (hC (sQ hN) hN)) (sQ (hU [] (sQ (hB (hL [5, 6, 7] (hS (sQ (hC hN hN)) (hS (hB (sQ (hU [5, 6] (sQ (hC hN hN)) (hB (hS (.reg [(0, 137438953472, 2), (1, 274877906944, 137438953472), (0, 549755813888, 128), (6, 1099511627776, 824633720832), (0, 2199023255552, 256), (16, 4398046511104, 2199023255552), (40, 8796093022208, 5497558138880), (64, 17592186044416, 8796093022208), (192, 68719476736, 17592186044416)] [34, 32, 34, 34, 34, 2, 0, 34, 34] (.early 0 (.early 2 (.early 4 (.load 1 (.early 3 (.load 5 (.step 6 (.early 7 (.early 8 .done)))))))))) (hC (sQ hN) (sQ (hC (sQ hN) (sQ (hC (sQ hN) hN)))))))))) hN))))) (sQ (hU [] (sQ (hB (hL [10] (hS (sQ (hC hN hN)) (hS (hB (hS (.reg [(0, 1180591620717411303424, 2), (1, 2361183241434822606848, 1180591620717411303424), (0, 4722366482869645213696, 512), (0, 9444732965739290427392, 1024), (12, 18889465931478580854784, 14167099448608935641088), (16, 37778931862957161709568, 18889465931478580854784), (32, 75557863725914323419136, 37778931862957161709568), (66, 151115727451828646838272, 77919046967349146025984), (255, 2048, 151115727451828646838272)] [66, 64, 66, 66, 66, 66, 2, 0, 66] (.early 0 (.early 2 (.early 3 (.early 4 (.early 5 (.load 1 (.load 6 (.step 7 (.early 8 .done)))))))))) (hS (sQ (hC (sQ hN) hN)) (hS (.reg [(0, 38685626227668133590597632, 2), (1, 77371252455336267181195264, 38685626227668133590597632), (0, 154742504910672534362390528, 2048), (6, 309485009821345068724781056, 232113757366008801543585792), (8, 618970019642690137449562112, 309485009821345068724781056), (16, 1237940039285380274899124224, 618970019642690137449562112), (32, 2475880078570760549798248448, 1237940039285380274899124224), (0, 4951760157141521099596496896, 512), (0, 9903520314283042199192993792, 1024), (384, 19807040628566084398385987584, 14855280471424563298789490688), (512, 39614081257132168796771975168, 19807040628566084398385987584), (1024, 79228162514264337593543950336, 39614081257132168796771975168), (2112, 158456325028528675187087900672, 81704042592835098143342198784)] [2082, 2080, 2082, 2082, 2082, 2050, 2082, 2082, 2082, 2082, 2082, 34, 2082] (.early 0 (.early 2 (.early 7 (.early 8 (.early 9 (.early 10 (.load 1 (.early 3 (.early 4 (.load 5 (.early 6 (.load 11 (.early 12 .done)))))))))))))) (hC (sQ hN) hN))))) hN))))) (sQ hN))))))))
theorem d3B {x0 : Value} (h : F35 x0 w R E) : Cv pG 35 #[x0] w R E := okF (h := h35) Tryz.func35 (by kernel_rfl) (by kernel_rfl) h
def c1i (x3 w) (R : RT) (_E : Pan) :=
 ∀ _τ : Fr, (R x3 w)
def c1j (_x1 x3 x4 : Value) (w) (next2 : NT) (_R : RT) (E) :=
 ∀ _τ : Fr, (oP E (xBin .add 3 (.tmp 10) (.const (vI 1)) x4 (vI 1)) w fun a b =>
 next2 [x3, a] b)
def c5N (x1 x3 x4 w) (next2 : NT) (j1 : NT) (R : RT) (E) :=
 oP E (fA 25 x1 0) w fun c d =>
 oP E (lA 22 c) d fun e f =>
 oP E (xBuiltin .len #[22] 3 [false] [e]) f fun g i =>
 oP E (xBin .lss 3 (.tmp 5) (.tmp 8) x4 g) i fun j a =>
 xcond j
 (xcut (fun k l => c1j x1 (nth k 0) x4 l next2 R E) fun j3 =>
 oP E (fA 25 x1 0) a fun m n =>
 oP E (lA 22 m) n fun o p =>
 oP E (iA 22 o x4) p fun q r =>
 oP E (fA 71 q 1) r fun s t =>
 oP E (lA 3 s) t fun u v =>
 oP E (xBin .eql 3 (.tmp 17) (.const (vI 0)) u (vI 0)) v fun y b =>
 xcond y
 (oP E (fA 25 x1 0) b fun z aa =>
 oP E (lA 22 z) aa fun ab ac =>
 oP E (iA 22 ab x4) ac fun ad ae =>
 oP E (fA 71 ad 0) ae fun af ag =>
 oP E (lA 9 af) ag fun ah ai =>
 oP E (xV (Instr.buildSlice 88 1 #[(0, ah)])) ai fun aj ak =>
 oP E (xBuiltin .append #[88, 88] 88 [false, false] [x3, aj]) ak fun al am =>
 j3 [al] am)
 (j3 [x3] b))
 (j1 [x3] a)
def F36 (x0 w) (R : RT) (E) :=
 oP E (xV (Instr.box 25 x0)) w fun b c =>
 xcut (fun d e => c1i (nth d 0) e R E) fun j1 =>
 xloop [3, 4] [(nS), (vI 0)] c fun a f next2 =>
 c5N b (a 3) (a 4) f next2 j1 R E
def h36 : Hint := (sQ (sQ (hU [3] (sQ (hB (hL [3, 4] (hS (sQ (hC hN hN)) (hU [3] (hB (sQ (hC hN hN))) hN))))) (sQ hN))))
theorem d3C {x0 : Value} (h : F36 x0 w R E) : Cv pG 36 #[x0] w R E := okF (h := h36) Tryz.func36 (by kernel_rfl) (by kernel_rfl) h
def c1k (x3 w) (R : RT) (_E : Pan) :=
 ∀ _τ : Fr, (R x3 w)
def c1l (_x1 x3 x4 : Value) (w) (next2 : NT) (_R : RT) (E) :=
 ∀ _τ : Fr, (oP E (xBin .add 3 (.tmp 10) (.const (vI 1)) x4 (vI 1)) w fun a b =>
 next2 [x3, a] b)
def c5O (x1 x3 x4 w) (next2 : NT) (j1 : NT) (R : RT) (E) :=
 oP E (fA 25 x1 0) w fun c d =>
 oP E (lA 22 c) d fun e f =>
 oP E (xBuiltin .len #[22] 3 [false] [e]) f fun g i =>
 oP E (xBin .lss 3 (.tmp 5) (.tmp 8) x4 g) i fun j a =>
 xcond j
 (xcut (fun k l => c1l x1 (nth k 0) x4 l next2 R E) fun j3 =>
 oP E (fA 25 x1 0) a fun m n =>
 oP E (lA 22 m) n fun o p =>
 oP E (iA 22 o x4) p fun q r =>
 oP E (fA 71 q 1) r fun s t =>
 oP E (lA 3 s) t fun u v =>
 oP E (xBin .gtr 3 (.tmp 17) (.const (vI 0)) u (vI 0)) v fun y b =>
 xcond y
 (oP E (fA 25 x1 0) b fun z aa =>
 oP E (lA 22 z) aa fun ab ac =>
 oP E (iA 22 ab x4) ac fun ad ae =>
 oP E (lA 71 ad) ae fun af ag =>
 oP E (xV (Instr.buildSlice 22 1 #[(0, af)])) ag fun ah ai =>
 oP E (xBuiltin .append #[22, 22] 22 [false, false] [x3, ah]) ai fun aj ak =>
 j3 [aj] ak)
 (j3 [x3] b))
 (j1 [x3] a)
def F37 (x0 w) (R : RT) (E) :=
 oP E (xV (Instr.box 25 x0)) w fun b c =>
 xcut (fun d e => c1k (nth d 0) e R E) fun j1 =>
 xloop [3, 4] [(nS), (vI 0)] c fun a f next2 =>
 c5O b (a 3) (a 4) f next2 j1 R E
def h37 : Hint := (sQ (sQ (hU [3] (sQ (hB (hL [3, 4] (hS (sQ (hC hN hN)) (hU [3] (hB (sQ (hC hN hN))) hN))))) (sQ hN))))
theorem d3D {x0 : Value} (h : F37 x0 w R E) : Cv pG 37 #[x0] w R E := okF (h := h37) Tryz.func37 (by kernel_rfl) (by kernel_rfl) h
def c5P (x5 w) (R : RT) (_E : Pan) :=
 ∀ _τ : Fr, (R (Value.tuple #[x5, (eS), (vI 0)]) w)
def c5Q (x5 x6 x13 x14 x15 w) (next2 : NT) (j1 : NT) (R : RT) (E) :=
 oP E (xBin .lss 3 (.tmp 15) (.tmp 14) x15 x14) w fun n c =>
 xcond n
 (oP E (iA 22 x13 x15) c fun o p =>
 oP E (lA 71 o) p fun q r =>
 oP E (xV (Instr.alloc 71 true (.tuple #[]))) r fun a s =>
 oP E (sA 71 a q) s fun _ t =>
 oP E (lA 71 a) t fun u v =>
 oP E (xCall (fC 100) [u]) v fun b y =>
 oP E (xV (Instr.lookup 165 x6 b false)) y fun z aa =>
 oP E (xBin .sub 3 (.tmp 23) (.const (vI 1)) z (vI 1)) aa fun ab ac =>
 oP E (xU (Instr.mapUpdate 165 x6 b ab)) ac fun _ ad =>
 oP E (fA 71 a 0) ad fun ae af =>
 oP E (lA 9 ae) af fun ag ah =>
 oP E (xV (Instr.lookup 119 x5 ag false)) ah fun ai aj =>
 oP E (xBin .neq 3 (.tmp 29) (.const (vI 0)) ai (vI 0)) aj fun ak d =>
 xcond ak
 (dX d fun e =>
 qP pG (fA 71 a 0) fun f =>
 qL pG e (blk f) (lA 9 f) fun al =>
 R (Value.tuple #[(Value.map none), al, (vI 60)]) e)
 (oP E (fA 71 a 1) d fun am an =>
 oP E (lA 3 am) an fun ao ap =>
 oP E (xBin .gtr 3 (.tmp 35) (.const (vI 1024)) ao (vI 1024)) ap fun aq g =>
 xcond aq
 (dX g fun i =>
 qP pG (fA 71 a 0) fun j =>
 qL pG i (blk j) (lA 9 j) fun ar =>
 R (Value.tuple #[(Value.map none), ar, (vI 61)]) i)
 (oP E (xV (Instr.lookup 165 x6 b false)) g fun au av =>
 oP E (xBin .lss 3 (.tmp 42) (.const (vI 0)) au (vI 0)) av fun aw k =>
 xcond aw
 (dX k fun l =>
 qP pG (fA 71 a 0) fun m =>
 qL pG l (blk m) (lA 9 m) fun ax =>
 R (Value.tuple #[(Value.map none), ax, (vI 62)]) l)
 (oP E (fA 71 a 0) k fun ay az =>
 oP E (lA 9 ay) az fun ba bb =>
 oP E (xU (Instr.mapUpdate 119 x5 ba b)) bb fun _ bc =>
 oP E (xBin .add 3 (.tmp 15) (.const (vI 1)) x15 (vI 1)) bc fun bd be =>
 next2 [bd] be))))
 (j1 [] c)
def F57 (x0 w) (R : RT) (E) :=
 oP E (xV (Instr.makeMap 119 none)) w fun b c =>
 oP E (xV (Instr.makeMap 165 none)) c fun a d =>
 oP E (xU (Instr.mapUpdate 165 a (vI 1) (vI 32))) d fun _ e =>
 oP E (xU (Instr.mapUpdate 165 a (vI 2) (vI 16))) e fun _ f =>
 xcut (fun _ g => c5P b g R E) fun j1 =>
 oP E (xBuiltin .len #[22] 3 [false] [x0]) f fun i j =>
 xloop [15] [(vI 0)] j fun k l next2 =>
 c5Q b a x0 i (k 15) l next2 j1 R E
def h57 : Hint := (sQ (sQ (sQ (hU [] (sQ (hB (hL [15] (sQ (hS (hC hN hN) (hS (hB (sQ (sQ (sQ (hS (hB (sQ (hC (hS (.reg [(0, 2147483648, 256), (1, 4294967296, 2147483648), (0, 4, 0), (7, 8, 4294967296), (15, 16, 0)] [2, 0, 2, 2, 2] (.early 0 (.early 2 (.load 1 (.early 3 (.early 4 .done)))))) hN) (sQ (hC (hS (.reg [(0, 137438953472, 256), (1, 274877906944, 137438953472), (0, 4, 0), (7, 8, 274877906944), (15, 16, 0)] [2, 0, 2, 2, 2] (.early 0 (.early 2 (.load 1 (.early 3 (.early 4 .done)))))) hN) (sQ (hC (hS (.reg [(0, 17592186044416, 256), (1, 35184372088832, 17592186044416), (0, 4, 0), (7, 8, 35184372088832), (15, 16, 0)] [2, 0, 2, 2, 2] (.early 0 (.early 2 (.load 1 (.early 3 (.early 4 .done)))))) hN) hN))))))) hN))))) hN)))))) (sQ hN)))))
theorem d3E {x0 : Value} (h : F57 x0 w R E) : Cv pG 57 #[x0] w R E := okF (h := h57) Tryz.func57 (by kernel_rfl) (by kernel_rfl) h
def c1m (_x0 _x10 _x11 x12 : Value) (w) (next1 : NT) (_R : RT) (E) :=
 ∀ _τ : Fr, (oP E (xBin .add 3 (.tmp 12) (.const (vI 1)) x12 (vI 1)) w fun a b =>
 next1 [a] b)
def c1n (x0 x5 _x10 _x11 _x12 : Value) (w) (j2 : NT) (_R : RT) (E) :=
 ∀ _τ : Fr, (oP E (fA 73 x5 4) w fun a b =>
 oP E (lA 23 a) b fun c d =>
 oP E (xCall (fC 58) [x0, c]) d fun _t71_21 e =>
 oP E (fA 73 x5 5) e fun f g =>
 oP E (lA 23 f) g fun i j =>
 oP E (xCall (fC 58) [x0, i]) j fun _t75_27 k =>
 j2 [] k)
def c5R (x0 _x5 _x10 _x11 _x12 x58 x59 x60 : Value) (w) (next6 : NT) (j5 : NT) (_R : RT) (E) :=
 oP E (xBin .lss 3 (.tmp 60) (.tmp 59) x60 x59) w fun c a =>
 xcond c
 (oP E (iA 51 x58 x60) a fun d e =>
 oP E (lA 53 d) e fun f g =>
 oP E (xV (Instr.alloc 53 true (.tuple #[]))) g fun b i =>
 oP E (sA 53 b f) i fun _ j =>
 oP E (lA 53 b) j fun k l =>
 oP E (xCall (fC 102) [x0, k]) l fun _t66_49 m =>
 oP E (xBin .add 3 (.tmp 60) (.const (vI 1)) x60 (vI 1)) m fun n o =>
 next6 [n] o)
 (j5 [] a)
def c1o (x0 x5 x10 x11 x12 w) (j2 : NT) (R : RT) (E) :=
 ∀ _τ : Fr, (xcut (fun _ b => c1n x0 x5 x10 x11 x12 b j2 R E) fun j5 =>
 oP E (fA 73 x5 2) w fun c d =>
 oP E (lA 51 c) d fun a e =>
 oP E (xBuiltin .len #[51] 3 [false] [a]) e fun f g =>
 xloop [60] [(vI 0)] g fun i j next6 =>
 c5R x0 x5 x10 x11 x12 a f (i 60) j next6 j5 R E)
def c5S (x0 _x5 _x10 _x11 _x12 x47 x48 x49 : Value) (w) (next7 : NT) (j4 : NT) (_R : RT) (E) :=
 oP E (xBin .lss 3 (.tmp 49) (.tmp 48) x49 x48) w fun c a =>
 xcond c
 (oP E (iA 57 x47 x49) a fun d e =>
 oP E (lA 59 d) e fun f g =>
 oP E (xV (Instr.alloc 59 true (.tuple #[]))) g fun b i =>
 oP E (sA 59 b f) i fun _ j =>
 oP E (lA 59 b) j fun k l =>
 oP E (xCall (fC 101) [x0, k]) l fun _t55_75 m =>
 oP E (xBin .add 3 (.tmp 49) (.const (vI 1)) x49 (vI 1)) m fun n o =>
 next7 [n] o)
 (j4 [] a)
def c1p (x0 x5 x10 x11 x12 w) (j2 : NT) (R : RT) (E) :=
 ∀ _τ : Fr, (xcut (fun _ b => c1o x0 x5 x10 x11 x12 b j2 R E) fun j4 =>
 oP E (fA 73 x5 3) w fun c d =>
 oP E (lA 57 c) d fun a e =>
 oP E (xBuiltin .len #[57] 3 [false] [a]) e fun f g =>
 xloop [49] [(vI 0)] g fun i j next7 =>
 c5S x0 x5 x10 x11 x12 a f (i 49) j next7 j4 R E)
def c5T (x0 x10 x11 x12 w) (next1 : NT) (R : RT) (E) :=
 oP E (xBin .lss 3 (.tmp 12) (.tmp 11) x12 x11) w fun s k =>
 xcond s
 (xcut (fun _ t => c1m x0 x10 x11 x12 t next1 R E) fun j2 =>
 oP E (iA 23 x10 x12) k fun u v =>
 oP E (lA 73 u) v fun y z =>
 oP E (xV (Instr.alloc 73 true (.tuple #[]))) z fun a aa =>
 oP E (sA 73 a y) aa fun _ ab =>
 xcut (fun _ ac => c1p x0 a x10 x11 x12 ac j2 R E) fun j3 =>
 oP E (fA 73 a 0) ab fun ad ae =>
 oP E (lA 3 ad) ae fun l af =>
 oP E (xBin .eql 3 (.tmp 17) (.const (vI 1)) l (vI 1)) af fun ag m =>
 xcond ag
 (dX m fun b =>
 qP pG (xNil x0) fun ah =>
 qP pG (fA 125 ah 0) fun d =>
 qP pG (fA 73 a 1) fun n =>
 qL pG b (blk d) (lA 123 d) fun ai =>
 qL pG b (blk n) (lA 9 n) fun aj =>
 qP pG (xV (Instr.build 127 #[(0, aj), (1, (vI 1))])) fun ak =>
 oP E (xV (Instr.buildSlice 123 1 #[(0, ak)])) b fun al e =>
 keepX [(blk d)] b e (opK pG E (xBuiltin .append #[123, 123] 123 [false, false] [ai, al]) e fun am f =>
 keepX [] e f (qP pG (xNil x0) fun an =>
 qP pG (fA 125 an 0) fun ao =>
 oP E (sA 123 ao am) f fun _ o =>
 keepX [] f o (j3 [] o))))
 (oP E (xBin .eql 3 (.tmp 17) (.const (vI 2)) l (vI 2)) m fun ap p =>
 xcond ap
 (dX p fun c =>
 qP pG (xNil x0) fun aq =>
 qP pG (fA 125 aq 0) fun g =>
 qP pG (fA 73 a 1) fun q =>
 qL pG c (blk g) (lA 123 g) fun ar =>
 qL pG c (blk q) (lA 9 q) fun au =>
 qP pG (xV (Instr.build 127 #[(0, au), (1, (vI 2))])) fun av =>
 oP E (xV (Instr.buildSlice 123 1 #[(0, av)])) c fun aw i =>
 keepX [(blk g)] c i (opK pG E (xBuiltin .append #[123, 123] 123 [false, false] [ar, aw]) i fun ax j =>
 keepX [] i j (qP pG (xNil x0) fun ay =>
 qP pG (fA 125 ay 0) fun az =>
 oP E (sA 123 az ax) j fun _ r =>
 keepX [] j r (j3 [] r))))
 (j3 [] p)))
 (R (Value.tuple #[]) k)
def F58 (x0 x1 w) (R : RT) (E) :=
 oP E (xBuiltin .len #[23] 3 [false] [x1]) w fun a b =>
 xloop [12] [(vI 0)] b fun c d next1 =>
 c5T x0 x1 a (c 12) d next1 R E
def h58 : Hint := (sQ (hB (hL [12] (sQ (hS (hC hN hN) (hU [] (hB (sQ (hU [] (sQ (hB (sQ (hC (.reg [(0, 1048576, 1), (0, 2097152, 1), (2, 4194304, 2097152), (4, 8388608, 4194304), (8, 16777216, 8388608), (0, 33554432, 32), (32, 67108864, 33554432), (64, 134217728, 67108864), (128, 268435456, 134217728), (272, 536870912, 285212672), (1023, 1073741824, 1048576), (2047, 2147483648, 1073741824), (3071, 0, 2684354560)] [80, 80, 80, 80, 64, 80, 16, 80, 16, 0, 80, 80, 0] (.early 0 (.early 1 (.early 2 (.early 3 (.early 5 (.load 4 (.load 6 (.early 7 (.step 8 (.step 9 (.early 10 (.early 11 (.step 12 .done)))))))))))))) (sQ (hC (.reg [(0, 17179869184, 1), (0, 34359738368, 1), (2, 68719476736, 34359738368), (4, 137438953472, 68719476736), (8, 274877906944, 137438953472), (0, 549755813888, 32), (32, 1099511627776, 549755813888), (64, 2199023255552, 1099511627776), (128, 4398046511104, 2199023255552), (272, 8796093022208, 4672924418048), (1023, 17592186044416, 17179869184), (2047, 35184372088832, 17592186044416), (3071, 0, 43980465111040)] [80, 80, 80, 80, 64, 80, 16, 80, 16, 0, 80, 80, 0] (.early 0 (.early 1 (.early 2 (.early 3 (.early 5 (.load 4 (.load 6 (.early 7 (.step 8 (.step 9 (.early 10 (.early 11 (.step 12 .done)))))))))))))) hN)))))) (hU [] (sQ (hB (hL [49] (sQ (hS (hC hN hN) (hS (hB (sQ hN)) hN)))))) (hU [] (sQ (hB (hL [60] (sQ (hS (hC hN hN) (hS (hB (sQ hN)) hN)))))) (sQ hN)))))) hN))))))
theorem d3F {x0 x1 : Value} (h : F58 x0 x1 w R E) : Cv pG 58 #[x0, x1] w R E := okF (h := h58) Tryz.func58 (by kernel_rfl) (by kernel_rfl) h
def c1q (w) (R : RT) (_E : Pan) :=
 ∀ _τ : Fr, (R (vI (-1)) w)
def c5U (x0 x1 x5 w) (next2 : NT) (j1 : NT) (R : RT) (E) :=
 oP E (xBuiltin .len #[22] 3 [false] [x0]) w fun c d =>
 oP E (xBin .lss 3 (.tmp 6) (.tmp 8) x5 c) d fun e a =>
 xcond e
 (oP E (iA 22 x0 x5) a fun f g =>
 oP E (fA 71 f 0) g fun i j =>
 oP E (lA 9 i) j fun k l =>
 oP E (xBin .eql 9 (.tmp 16) (.tmp 17) k x1) l fun m b =>
 xcond m
 (R x5 b)
 (oP E (xBin .add 3 (.tmp 10) (.const (vI 1)) x5 (vI 1)) b fun n o =>
 next2 [n] o))
 (j1 [] a)
def F61 (x0 x1 w) (R : RT) (E) :=
 xcut (fun _ a => c1q a R E) fun j1 =>
 xloop [5] [(vI 0)] w fun b c next2 =>
 c5U x0 x1 (b 5) c next2 j1 R E
def h61 : Hint := (sQ (hU [] (sQ (hB (hL [5] (hS (sQ (hC hN hN)) (hS (hB (sQ (hC (sQ hN) hN))) hN))))) (sQ hN)))
theorem d3G {x0 x1 : Value} (h : F61 x0 x1 w R E) : Cv pG 61 #[x0, x1] w R E := okF (h := h61) Tryz.func61 (by kernel_rfl) (by kernel_rfl) h
def d3H (x0 w) (R : RT) (E) :=
 oP E (xV (Instr.box 71 x0)) w fun b c =>
 oP E (fA 71 b 1) c fun d e =>
 oP E (lA 3 d) e fun f g =>
 oP E (xBin .gtr 3 (.tmp 4) (.const (vI 0)) f (vI 0)) g fun i a =>
 xcond i
 (R (vI 2) a)
 (R (vI 1) a)
def d6E : Hint := (sQ (hS (sQ (hC (sQ hN) hN)) (sQ hN)))
theorem d0u {x0 : Value} (h : d3H x0 w R E) : Cv pG 100 #[x0] w R E := okF (h := d6E) Tryz.func100 (by kernel_rfl) (by kernel_rfl) h
def c2R (x0 x20 x21 x22 w) (next2 : NT) (R : RT) (E) :=
 oP E (xBin .lss 3 (.tmp 22) (.tmp 21) x22 x21) w fun c a =>
 xcond c
 (oP E (iA 57 x20 x22) a fun d e =>
 oP E (lA 59 d) e fun f g =>
 oP E (xV (Instr.alloc 59 true (.tuple #[]))) g fun b i =>
 oP E (sA 59 b f) i fun _ j =>
 oP E (lA 59 b) j fun k l =>
 oP E (xCall (fC 101) [x0, k]) l fun _t28_21 m =>
 oP E (xBin .add 3 (.tmp 22) (.const (vI 1)) x22 (vI 1)) m fun n o =>
 next2 [n] o)
 (R (Value.tuple #[]) a)
def b8n (x0 x3 w) (R : RT) (E) :=
 ∀ _τ : Fr, (oP E (fA 59 x3 3) w fun b c =>
 oP E (lA 57 b) c fun a d =>
 oP E (xBuiltin .len #[57] 3 [false] [a]) d fun e f =>
 xloop [22] [(vI 0)] f fun g i next2 =>
 c2R x0 a e (g 22) i next2 R E)
def c2S (x0 _x3 x9 x10 x11 : Value) (w) (next3 : NT) (j1 : NT) (_R : RT) (E) :=
 oP E (xBin .lss 3 (.tmp 11) (.tmp 10) x11 x10) w fun c a =>
 xcond c
 (oP E (iA 51 x9 x11) a fun d e =>
 oP E (lA 53 d) e fun f g =>
 oP E (xV (Instr.alloc 53 true (.tuple #[]))) g fun b i =>
 oP E (sA 53 b f) i fun _ j =>
 oP E (lA 53 b) j fun k l =>
 oP E (xCall (fC 102) [x0, k]) l fun _t17_47 m =>
 oP E (xBin .add 3 (.tmp 11) (.const (vI 1)) x11 (vI 1)) m fun n o =>
 next3 [n] o)
 (j1 [] a)
def d3I (x0 x1 w) (R : RT) (E) :=
 oP E (xV (Instr.box 59 x1)) w fun a c =>
 xcut (fun _ d => b8n x0 a d R E) fun j1 =>
 oP E (fA 59 a 2) c fun e f =>
 oP E (lA 51 e) f fun b g =>
 oP E (xBuiltin .len #[51] 3 [false] [b]) g fun i j =>
 xloop [11] [(vI 0)] j fun k l next3 =>
 c2S x0 a b i (k 11) l next3 j1 R E
def d6F : Hint := (sQ (hU [] (sQ (hB (hL [11] (sQ (hS (hC hN hN) (hS (hB (sQ hN)) hN)))))) (sQ (hB (hL [22] (sQ (hS (hC hN hN) (hS (hB (sQ hN)) hN))))))))
theorem d0v {x0 x1 : Value} (h : d3I x0 x1 w R E) : Cv pG 101 #[x0, x1] w R E := okF (h := d6F) Tryz.func101 (by kernel_rfl) (by kernel_rfl) h
def c2T (x0 x37 x38 x39 w) (next2 : NT) (R : RT) (E) :=
 oP E (xBin .lss 3 (.tmp 39) (.tmp 38) x39 x38) w fun c a =>
 xcond c
 (oP E (iA 51 x37 x39) a fun d e =>
 oP E (lA 53 d) e fun f g =>
 oP E (xV (Instr.alloc 53 true (.tuple #[]))) g fun b i =>
 oP E (sA 53 b f) i fun _ j =>
 oP E (lA 53 b) j fun k l =>
 oP E (xCall (fC 102) [x0, k]) l fun _t45_21 m =>
 oP E (xBin .add 3 (.tmp 39) (.const (vI 1)) x39 (vI 1)) m fun n o =>
 next2 [n] o)
 (R (Value.tuple #[]) a)
def b8o (x0 x3 w) (R : RT) (E) :=
 ∀ _τ : Fr, (oP E (fA 53 x3 3) w fun b c =>
 oP E (lA 51 b) c fun a d =>
 oP E (xBuiltin .len #[51] 3 [false] [a]) d fun e f =>
 xloop [39] [(vI 0)] f fun g i next2 =>
 c2T x0 a e (g 39) i next2 R E)
def d3J (x0 x1 w) (R : RT) (E) :=
 oP E (xV (Instr.box 53 x1)) w fun a r =>
 xcut (fun _ s => b8o x0 a s R E) fun j1 =>
 oP E (fA 53 a 0) r fun t u =>
 oP E (lA 3 t) u fun k v =>
 oP E (xBin .eql 3 (.tmp 7) (.const (vI 2)) k (vI 2)) v fun y l =>
 xcond y
 (dX l fun b =>
 qP pG (xNil x0) fun z =>
 qP pG (fA 125 z 0) fun d =>
 qP pG (fA 53 a 2) fun m =>
 qL pG b (blk d) (lA 123 d) fun aa =>
 qL pG b (blk m) (lA 9 m) fun ab =>
 qP pG (xV (Instr.build 127 #[(0, ab), (1, (vI 1))])) fun ac =>
 oP E (xV (Instr.buildSlice 123 1 #[(0, ac)])) b fun ad e =>
 keepX [(blk d)] b e (opK pG E (xBuiltin .append #[123, 123] 123 [false, false] [aa, ad]) e fun ae f =>
 keepX [] e f (qP pG (xNil x0) fun af =>
 qP pG (fA 125 af 0) fun ag =>
 oP E (sA 123 ag ae) f fun _ n =>
 keepX [] f n (j1 [] n))))
 (oP E (xBin .eql 3 (.tmp 7) (.const (vI 4)) k (vI 4)) l fun ah o =>
 xcond ah
 (dX o fun c =>
 qP pG (xNil x0) fun ai =>
 qP pG (fA 125 ai 0) fun g =>
 qP pG (fA 53 a 2) fun p =>
 qL pG c (blk g) (lA 123 g) fun aj =>
 qL pG c (blk p) (lA 9 p) fun ak =>
 qP pG (xV (Instr.build 127 #[(0, ak), (1, (vI 2))])) fun al =>
 oP E (xV (Instr.buildSlice 123 1 #[(0, al)])) c fun am i =>
 keepX [(blk g)] c i (opK pG E (xBuiltin .append #[123, 123] 123 [false, false] [aj, am]) i fun an j =>
 keepX [] i j (qP pG (xNil x0) fun ao =>
 qP pG (fA 125 ao 0) fun ap =>
 oP E (sA 123 ap an) j fun _ q =>
 keepX [] j q (j1 [] q))))
 (j1 [] o))
def d6G : Hint := (sQ (hU [] (sQ (hB (sQ (hC (.reg [(0, 1024, 1), (0, 2048, 1), (2, 4096, 2048), (4, 8192, 4096), (8, 16384, 8192), (0, 32768, 8), (32, 65536, 32768), (64, 131072, 65536), (128, 262144, 131072), (272, 524288, 278528), (1023, 1048576, 1024), (2047, 2097152, 1048576), (3071, 0, 2621440)] [80, 80, 80, 80, 64, 80, 16, 80, 16, 0, 80, 80, 0] (.early 0 (.early 1 (.early 2 (.early 3 (.early 5 (.load 4 (.load 6 (.early 7 (.step 8 (.step 9 (.early 10 (.early 11 (.step 12 .done)))))))))))))) (sQ (hC (.reg [(0, 16777216, 1), (0, 33554432, 1), (2, 67108864, 33554432), (4, 134217728, 67108864), (8, 268435456, 134217728), (0, 536870912, 8), (32, 1073741824, 536870912), (64, 2147483648, 1073741824), (128, 4294967296, 2147483648), (272, 8589934592, 4563402752), (1023, 17179869184, 16777216), (2047, 34359738368, 17179869184), (3071, 0, 42949672960)] [80, 80, 80, 80, 64, 80, 16, 80, 16, 0, 80, 80, 0] (.early 0 (.early 1 (.early 2 (.early 3 (.early 5 (.load 4 (.load 6 (.early 7 (.step 8 (.step 9 (.early 10 (.early 11 (.step 12 .done)))))))))))))) hN)))))) (sQ (hB (hL [39] (sQ (hS (hC hN hN) (hS (hB (sQ hN)) hN))))))))
theorem d0w {x0 x1 : Value} (h : d3J x0 x1 w R E) : Cv pG 102 #[x0, x1] w R E := okF (h := d6G) Tryz.func102 (by kernel_rfl) (by kernel_rfl) h
end Go.Proofs.YtnhkdkcgdcgmdaaGreatDoor
