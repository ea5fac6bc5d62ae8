/- The second reading of some of the program's functions, printed by gen2.py off the code; each is held against the code by the kernel. -/
import Derived.KernelRfl
import Derived.Test.YtnhkdkcgdcgmdaaGreatDoorzXGz
namespace Go.Proofs.YtnhkdkcgdcgmdaaGreatDoor
open Go.RowKit
set_option maxRecDepth 100000
variable {w : World} {R : RT} {E : Pan}
def c7J (x2 x3 x7 x10 w) (R : RT) (E) :=
 ∀ _τ : Fr, (oP E (lA 25 x3) w fun c d =>
 oP E (xCall (fC 16) [c, x7, x2]) d fun a e =>
 oP E (eX a 0) e fun f g =>
 oP E (eX a 1) g fun _t95_61 i =>
 oP E (xV (Instr.alloc 42 true (.tuple #[]))) i fun b j =>
 oP E (sA 42 b f) j fun _ k =>
 oP E (lA 42 b) k fun l m =>
 oP E (lA 42 x10) m fun n o =>
 oP E (xCall (fC 18) [l, n]) o fun p q =>
 R p q)
def c7K (_x2 _x3 _x7 _x8 _x10 x13 : Value) (w) (next3 : NT) (_R : RT) (E) :=
 ∀ _τ : Fr, (oP E (xBin .add 3 (.tmp 70) (.const (vI 1)) x13 (vI 1)) w fun a b =>
 next3 [a] b)
def c7L (_x2 _x3 _x7 x8 _x10 x13 x14 : Value) (w) (next5 : NT) (j4 : NT) (_R : RT) (E) :=
 oP E (fA 42 x8 5) w fun b c =>
 oP E (lA 40 b) c fun d e =>
 oP E (iA 40 d x13) e fun f g =>
 oP E (lA 37 f) g fun i j =>
 oP E (xBuiltin .len #[37] 3 [false] [i]) j fun k l =>
 oP E (xBin .lss 3 (.tmp 72) (.tmp 78) x14 k) l fun m a =>
 xcond m
 (oP E (fA 42 x8 5) a fun n o =>
 oP E (lA 40 n) o fun p q =>
 oP E (iA 40 p x13) q fun r s =>
 oP E (lA 37 r) s fun t u =>
 oP E (iA 37 t x14) u fun v y =>
 oP E (sA 2 v (vI 77)) y fun _ z =>
 oP E (xBin .add 3 (.tmp 80) (.const (vI 1)) x14 (vI 1)) z fun aa ab =>
 next5 [aa] ab)
 (j4 [] a)
def c7M (x2 x3 x7 x8 x10 x13 w) (next3 : NT) (j2 : NT) (R : RT) (E) :=
 oP E (fA 42 x8 5) w fun b c =>
 oP E (lA 40 b) c fun d e =>
 oP E (xBuiltin .len #[40] 3 [false] [d]) e fun f g =>
 oP E (xBin .lss 3 (.tmp 65) (.tmp 68) x13 f) g fun i a =>
 xcond i
 (xcut (fun _ j => c7K x2 x3 x7 x8 x10 x13 j next3 R E) fun j4 =>
 xloop [14] [(vI 0)] a fun k l next5 =>
 c7L x2 x3 x7 x8 x10 x13 (k 14) l next5 j4 R E)
 (j2 [] a)
def c7N (x2 x3 x7 x8 x10 w) (R : RT) (E) :=
 ∀ _τ : Fr, (xcut (fun _ a => c7J x2 x3 x7 x10 a R E) fun j2 =>
 xloop [13] [(vI 0)] w fun b c next3 =>
 c7M x2 x3 x7 x8 x10 (b 13) c next3 j2 R E)
def c7O (_x2 _x3 _x7 x8 _x10 x12 : Value) (w) (next6 : NT) (j1 : NT) (_R : RT) (E) :=
 oP E (fA 42 x8 4) w fun b c =>
 oP E (lA 37 b) c fun d e =>
 oP E (xBuiltin .len #[37] 3 [false] [d]) e fun f g =>
 oP E (xBin .lss 3 (.tmp 54) (.tmp 57) x12 f) g fun i a =>
 xcond i
 (oP E (fA 42 x8 4) a fun j k =>
 oP E (lA 37 j) k fun l m =>
 oP E (iA 37 l x12) m fun n o =>
 oP E (sA 2 n (vI 77)) o fun _ p =>
 oP E (xBin .add 3 (.tmp 59) (.const (vI 1)) x12 (vI 1)) p fun q r =>
 next6 [q] r)
 (j1 [] a)
def F5 (x0 x1 x2 w) (R : RT) (E) :=
 oP E (xV (Instr.box 25 x0)) w fun c m =>
 oP E (xCall (fC 14) []) m fun n o =>
 oP E (xV (Op.unary .not n)) o fun p g =>
 xcond p
 (R (vB false) g)
 (oP E (xCall (fC 15) [x1, x2]) g fun q r =>
 oP E (xV (Op.unary .not q)) r fun s i =>
 xcond s
 (R (vB true) i)
 (oP E (xBuiltin .append #[37, 37] 37 [true, false] [(nS), x1]) i fun d t =>
 oP E (lA 25 c) t fun u v =>
 oP E (xCall (fC 16) [u, d, x2]) v fun j y =>
 oP E (eX j 0) y fun z aa =>
 oP E (eX j 1) aa fun ab ac =>
 oP E (xV (Instr.alloc 42 true (.tuple #[]))) ac fun e ad =>
 oP E (sA 42 e z) ad fun _ ae =>
 oP E (lA 25 c) ae fun af ag =>
 oP E (xCall (fC 17) [af, x1, x2]) ag fun k ah =>
 oP E (eX k 0) ah fun ai aj =>
 oP E (eX k 1) aj fun ak al =>
 oP E (xV (Instr.alloc 42 true (.tuple #[]))) al fun f am =>
 oP E (sA 42 f ai) am fun _ an =>
 oP E (xBin .neq 3 (.tmp 39) (.tmp 40) ab ak) an fun a ao =>
 oP E (gsem (asB a) false (lA 42 e)) ao fun ap aq =>
 oP E (gsem (asB a) false (lA 42 f)) aq fun ar au =>
 oP E (gsem (asB a) false (xCall (fC 18) [ap, ar])) au fun av aw =>
 oP E (gsem (asB a) false (xV (Op.unary .not av))) aw fun ax ay =>
 oP E (xPick a (vB true) ax) ay fun b az =>
 oP E (gsem (asB b) false (xCall (fC 19) [(gval (asB b) false d), (gval (asB b) false x1)])) az fun ba bb =>
 oP E (gsem (asB b) false (xV (Op.unary .not ba))) bb fun bc bd =>
 oP E (xPick b (vB true) bc) bd fun be l =>
 xcond be
 (R (vB false) l)
 (xcut (fun _ bf => c7N x2 c d e f bf R E) fun j1 =>
 xloop [12] [(vI 0)] l fun bg bh next6 =>
 c7O x2 c d e f (bg 12) bh next6 j1 R E)))
def h5 : Hint := (sQ (hS (sQ (hC (sQ hN) hN)) (hS (sQ (hC (sQ hN) hN)) (sQ (sQ (sQ (hS (sQ (hC (sQ hN) hN)) (hU [] (sQ (hB (hL [12] (hS (sQ (hC hN hN)) (hS (hB hN) hN))))) (hU [] (sQ (hB (hL [13] (hS (sQ (hC hN hN)) (hU [] (hB (sQ (hB (hL [14] (hS (sQ (hC hN hN)) (hS (hB hN) hN)))))) hN))))) (sQ (sQ hN)))))))))))
theorem d4q {x0 x1 x2 : Value} (h : F5 x0 x1 x2 w R E) : Cv pG 5 #[x0, x1, x2] w R E := okF (h := h5) Tryz.func5 (by kernel_rfl) (by kernel_rfl) h
def F6 (x0 x1 x2 x3 w) (R : RT) (E) :=
 oP E (xV (Instr.box 25 x0)) w fun d o =>
 oP E (xCall (fC 8) []) o fun p q =>
 oP E (xV (Op.unary .not p)) q fun r e =>
 xcond r
 (R (vB false) e)
 (oP E (xBuiltin .len #[37] 3 [false] [x2]) e fun s t =>
 oP E (xBin .gtr 3 (.tmp 17) (.const (vI 2000)) s (vI 2000)) t fun b u =>
 oP E (gsem (asB b) false (xBin .gtr 3 (.tmp 20) (.const (vI 2000)) (gval (asB b) false x3) (vI 2000))) u fun v y =>
 oP E (xPick b (vB true) v) y fun z f =>
 xcond z
 (R (vB true) f)
 (oP E (lA 25 d) f fun aa ab =>
 oP E (xCall (fC 9) [aa, x1]) ab fun g ac =>
 oP E (eX g 0) ac fun ad ae =>
 oP E (eX g 1) ae fun af ag =>
 oP E (xV (Instr.alloc 25 true (.tuple #[]))) ag fun i ah =>
 oP E (sA 25 i ad) ah fun _ ai =>
 oP E (lA 25 d) ai fun aj ak =>
 oP E (xCall (fC 16) [aj, x2, x3]) ak fun j al =>
 oP E (eX j 0) al fun am an =>
 oP E (eX j 1) an fun ao ap =>
 oP E (xV (Instr.alloc 42 true (.tuple #[]))) ap fun k aq =>
 oP E (sA 42 k am) aq fun _ ar =>
 oP E (xBin .neq 27 (.tmp 36) (.const (vI 0)) af (vI 0)) ar fun c au =>
 oP E (gsem (asB c) false (xBin .neq 27 (.tmp 39) (.const (vI 0)) (gval (asB c) false ao) (vI 0))) au fun av aw =>
 oP E (xPick c (vB true) av) aw fun ax l =>
 xcond ax
 (R (vB true) l)
 (oP E (lA 25 i) l fun ay az =>
 oP E (xCall (fC 16) [ay, x2, x3]) az fun m ba =>
 oP E (eX m 0) ba fun bb bc =>
 oP E (eX m 1) bc fun bd be =>
 oP E (xV (Instr.alloc 42 true (.tuple #[]))) be fun n bf =>
 oP E (sA 42 n bb) bf fun _ bg =>
 oP E (xBin .eql 27 (.tmp 49) (.const (vI 0)) bd (vI 0)) bg fun a bh =>
 oP E (gsem (asB a) true (lA 42 k)) bh fun bi bj =>
 oP E (gsem (asB a) true (lA 42 n)) bj fun bk bl =>
 oP E (gsem (asB a) true (xCall (fC 18) [bi, bk])) bl fun bm bn =>
 oP E (xPick a bm (vB false)) bn fun bo bp =>
 R bo bp)))
def h6 : Hint := (sQ (hS (sQ (hC (sQ hN) hN)) (hS (sQ (hC (sQ hN) hN)) (sQ (sQ (hS (sQ (hC (sQ hN) hN)) (sQ (sQ hN))))))))
def h7 : Hint := (sQ (hS (sQ (hC (sQ hN) hN)) (hS (sQ (hC (sQ hN) hN)) (sQ (sQ (hS (sQ (hC (sQ hN) hN)) (sQ (hS (sQ (hC (sQ hN) hN)) (hS (sQ (hC (sQ hN) hN)) (sQ hN))))))))))
def F14 (w) (R : RT) (E) :=
 oP E (xV (Instr.build 53 #[(0, (vI 2)), (2, (Value.string ⟨#[120]⟩))])) w fun j k =>
 oP E (xV (Instr.build 53 #[(0, (vI 1)), (1, (vI 2))])) k fun l m =>
 oP E (xV (Instr.buildSlice 51 2 #[(0, j), (1, l)])) m fun n o =>
 oP E (xV (Instr.build 53 #[(0, (vI 6)), (3, n)])) o fun p q =>
 oP E (xV (Instr.alloc 53 true (.tuple #[]))) q fun f r =>
 oP E (sA 53 f p) r fun _ s =>
 oP E (xV (Instr.build 71 #[(0, (Value.string ⟨#[120]⟩))])) s fun t u =>
 oP E (xV (Instr.buildSlice 22 1 #[(0, t)])) u fun v y =>
 oP E (xV (Instr.build 53 #[(0, (vI 1)), (1, (vI 1))])) y fun z aa =>
 oP E (xV (Instr.buildSlice 51 1 #[(0, z)])) aa fun ab ac =>
 oP E (xV (Instr.build 73 #[(0, (vI 1)), (1, (Value.string ⟨#[120]⟩)), (2, ab)])) ac fun ad ae =>
 oP E (lA 53 f) ae fun af ag =>
 oP E (xV (Instr.buildSlice 51 1 #[(0, af)])) ag fun ah ai =>
 oP E (xV (Instr.build 73 #[(0, (vI 1)), (1, (Value.string ⟨#[120]⟩)), (2, ah)])) ai fun aj ak =>
 oP E (xV (Instr.buildSlice 23 2 #[(0, ad), (1, aj)])) ak fun al am =>
 oP E (xV (Instr.build 25 #[(0, v), (1, al)])) am fun an ao =>
 oP E (xV (Instr.alloc 25 true (.tuple #[]))) ao fun g ap =>
 oP E (sA 25 g an) ap fun _ aq =>
 oP E (lA 25 g) aq fun ar au =>
 oP E (xCall (fC 16) [ar, (nS), (vI 9)]) au fun i av =>
 oP E (eX i 0) av fun aw ax =>
 oP E (eX i 1) ax fun ay az =>
 oP E (xV (Instr.alloc 42 true (.tuple #[]))) az fun b ba =>
 oP E (sA 42 b aw) ba fun _ bb =>
 oP E (xBin .eql 27 (.tmp 24) (.const (vI 0)) ay (vI 0)) bb fun d bc =>
 oP E (gsem (asB d) true (fA 42 b 0)) bc fun bd be =>
 oP E (gsem (asB d) true (lA 3 bd)) be fun bf bg =>
 oP E (gsem (asB d) true (xBin .eql 3 (.tmp 28) (.const (vI 2)) bf (vI 2))) bg fun bh bi =>
 oP E (xPick d bh (vB false)) bi fun e bj =>
 oP E (gsem (asB e) true (fA 42 b 2)) bj fun bk bl =>
 oP E (gsem (asB e) true (lA 3 bk)) bl fun bm bn =>
 oP E (gsem (asB e) true (xBin .eql 3 (.tmp 33) (.const (vI 2)) bm (vI 2))) bn fun bo bp =>
 oP E (xPick e bo (vB false)) bp fun c bq =>
 oP E (gsem (asB c) true (fA 42 b 4)) bq fun br bs =>
 oP E (gsem (asB c) true (lA 37 br)) bs fun bt bu =>
 oP E (gsem (asB c) true (xBuiltin .len #[37] 3 [false] [bt])) bu fun bv bw =>
 oP E (gsem (asB c) true (xBin .eql 3 (.tmp 39) (.const (vI 1)) bv (vI 1))) bw fun bz ca =>
 oP E (xPick c bz (vB false)) ca fun a cb =>
 oP E (gsem (asB a) true (fA 42 b 4)) cb fun cc cd =>
 oP E (gsem (asB a) true (lA 37 cc)) cd fun ce cf =>
 oP E (gsem (asB a) true (iA 37 ce (vI 0))) cf fun cg ch =>
 oP E (gsem (asB a) true (lA 2 cg)) ch fun ci cj =>
 oP E (gsem (asB a) true (xBin .eql 2 (.tmp 46) (.const (vI 3)) ci (vI 3))) cj fun ck cl =>
 oP E (xPick a ck (vB false)) cl fun cm cn =>
 R cm cn
def h14 : Hint := (sQ (sQ (sQ (sQ (sQ hN)))))
theorem d2V (h : F14  w R E) : Cv pG 14 #[] w R E := okF (h := h14) Tryz.func14 (by kernel_rfl) (by kernel_rfl) h
def F15 (x0 x1 w) (R : RT) (E) :=
 oP E (xBuiltin .len #[37] 3 [false] [x0]) w fun c d =>
 oP E (xBin .leq 3 (.tmp 6) (.const (vI 3000)) c (vI 3000)) d fun a e =>
 oP E (gsem (asB a) true (xBin .leq 3 (.tmp 9) (.const (vI 3000)) (gval (asB a) true x1) (vI 3000))) e fun b f =>
 oP E (gsem (asB (gval (asB a) true b)) false (xBin .gtr 3 (.tmp 12) (.const (vI 65536)) (gval (asB (gval (asB a) true b)) false x1) (vI 65536))) f fun g i =>
 oP E (gsem (asB a) true (xPick (gval (asB a) true b) (vB true) g)) i fun j k =>
 oP E (xPick a j (vB false)) k fun l m =>
 R l m
def h15 : Hint := (sQ (sQ hN))
theorem d2W {x0 x1 : Value} (h : F15 x0 x1 w R E) : Cv pG 15 #[x0, x1] w R E := okF (h := h15) Tryz.func15 (by kernel_rfl) (by kernel_rfl) h
def c0Q (x6 x14 w) (R : RT) (E) :=
 ∀ _τ : Fr, (oP E (lA 42 x14) w fun b c =>
 oP E (sA 42 x6 b) c fun _ a =>
 xcell pG 42 x6 a fun d =>
 R (Value.tuple #[d, (vI 0)]) a)
def c5v (_x6 _x10 _x14 _x89 _x90 x91 : Value) (w) (next3 : NT) (_R : RT) (E) :=
 ∀ _τ : Fr, (oP E (xBin .add 3 (.tmp 91) (.const (vI 1)) x91 (vI 1)) w fun a b =>
 next3 [a] b)
def c0R (x6 x10 x14 x89 x90 x91 w) (next3 : NT) (j2 : NT) (R : RT) (E) :=
 oP E (xBin .lss 3 (.tmp 91) (.tmp 90) x91 x90) w fun v k =>
 xcond v
 (xcut (fun _ y => c5v x6 x10 x14 x89 x90 x91 y next3 R E) fun j4 =>
 oP E (iA 22 x89 x91) k fun z aa =>
 oP E (lA 71 z) aa fun ab ac =>
 oP E (xV (Instr.alloc 71 true (.tuple #[]))) ac fun c ad =>
 oP E (sA 71 c ab) ad fun _ ae =>
 oP E (fA 71 c 1) ae fun af ag =>
 oP E (lA 3 af) ag fun ah ai =>
 oP E (xBin .gtr 3 (.tmp 96) (.const (vI 0)) ah (vI 0)) ai fun aj l =>
 xcond aj
 (dX l fun b =>
 qP pG (fA 42 x14 5) fun d =>
 qP pG (xNil x10) fun ak =>
 qP pG (fA 80 ak 5) fun m =>
 qP pG (fA 71 c 0) fun n =>
 qL pG b (blk d) (lA 40 d) fun al =>
 qL pG b (blk m) (lA 78 m) fun o =>
 qL pG b (blk n) (lA 9 n) fun am =>
 qL pG b (blk o) (xV (Instr.lookup 78 o am false)) fun an =>
 oP E (xV (Instr.buildSlice 40 1 #[(0, an)])) b fun ao e =>
 keepX [(blk d)] b e (opK pG E (xBuiltin .append #[40, 40] 40 [false, false] [al, ao]) e fun ap f =>
 keepX [] e f (qP pG (fA 42 x14 5) fun aq =>
 oP E (sA 40 aq ap) f fun _ p =>
 keepX [] f p (j4 [] p))))
 (dX l fun a =>
 qP pG (fA 42 x14 4) fun g =>
 qP pG (xNil x10) fun ar =>
 qP pG (fA 80 ar 4) fun q =>
 qP pG (fA 71 c 0) fun r =>
 qL pG a (blk g) (lA 37 g) fun au =>
 qL pG a (blk q) (lA 77 q) fun s =>
 qL pG a (blk r) (lA 9 r) fun av =>
 qL pG a (blk s) (xV (Instr.lookup 77 s av false)) fun aw =>
 qP pG (xNil aw) fun t =>
 qL pG a (blk t) (lA 2 t) fun ax =>
 oP E (xV (Instr.buildSlice 37 1 #[(0, ax)])) a fun ay i =>
 keepX [(blk g)] a i (opK pG E (xBuiltin .append #[37, 37] 37 [false, false] [au, ay]) i fun az j =>
 keepX [] i j (qP pG (fA 42 x14 4) fun ba =>
 oP E (sA 37 ba az) j fun _ u =>
 keepX [] j u (j4 [] u)))))
 (j2 [] k)
def c5w (x3 x6 x10 w) (R : RT) (E) :=
 ∀ _τ : Fr, (oP E (fA 25 x3 1) w fun l m =>
 oP E (lA 23 l) m fun n o =>
 oP E (xCall (fC 34) [x10, n]) o fun p q =>
 oP E (xV (Instr.alloc 83 true (.tuple #[]))) q fun b r =>
 oP E (sA 83 b p) r fun _ s =>
 dX s fun a =>
 qP pG (fA 83 b 0) fun c =>
 qP pG (fA 83 b 1) fun d =>
 qP pG (xNil x10) fun t =>
 qP pG (fA 80 t 1) fun e =>
 qP pG (xNil x10) fun u =>
 qP pG (fA 80 u 3) fun f =>
 qL pG a (blk c) (lA 3 c) fun v =>
 qL pG a (blk d) (lA 3 d) fun y =>
 qL pG a (blk e) (lA 3 e) fun z =>
 qL pG a (blk f) (lA 39 f) fun aa =>
 qP pG (xV (Instr.build 42 #[(0, v), (1, y), (2, z), (3, aa)])) fun ab =>
 oP E (xV (Instr.alloc 42 true (.tuple #[]))) a fun g i =>
 keepX [(blk f), (blk e), (blk d), (blk c)] a i (opK pG E (sA 42 g ab) i fun _ j =>
 keepX [] i j (xcut (fun _ ac => c0Q x6 g ac R E) fun j2 =>
 oP E (fA 25 x3 0) j fun ad ae =>
 oP E (lA 22 ad) ae fun k af =>
 oP E (xBuiltin .len #[22] 3 [false] [k]) af fun ag ah =>
 xloop [91] [(vI 0)] ah fun ai aj next3 =>
 c0R x6 x10 g k ag (ai 91) aj next3 j2 R E)))
def c5x (_x3 _x6 _x10 _x45 _x46 x47 : Value) (w) (next5 : NT) (_R : RT) (E) :=
 ∀ _τ : Fr, (oP E (xBin .add 3 (.tmp 47) (.const (vI 1)) x47 (vI 1)) w fun a b =>
 next5 [a] b)
def c5y (x3 x6 x10 x45 x46 x47 w) (next5 : NT) (j1 : NT) (R : RT) (E) :=
 oP E (xBin .lss 3 (.tmp 47) (.tmp 46) x47 x46) w fun q k =>
 xcond q
 (xcut (fun _ r => c5x x3 x6 x10 x45 x46 x47 r next5 R E) fun j6 =>
 oP E (iA 22 x45 x47) k fun s t =>
 oP E (lA 71 s) t fun u v =>
 oP E (xV (Instr.alloc 71 true (.tuple #[]))) v fun a y =>
 oP E (sA 71 a u) y fun _ z =>
 oP E (fA 71 a 1) z fun aa ab =>
 oP E (lA 3 aa) ab fun ac ad =>
 oP E (xBin .gtr 3 (.tmp 52) (.const (vI 0)) ac (vI 0)) ad fun ae l =>
 xcond ae
 (dX l fun b =>
 qP pG (xNil x10) fun af =>
 qP pG (fA 80 af 5) fun d =>
 qP pG (fA 71 a 0) fun e =>
 qP pG (fA 71 a 1) fun m =>
 qL pG b (blk d) (lA 78 d) fun ag =>
 qL pG b (blk e) (lA 9 e) fun ah =>
 qL pG b (blk m) (lA 3 m) fun n =>
 oP E (xV (Instr.makeSlice 37 n n)) b fun ai f =>
 keepX [(blk e), (blk d)] b f (opK pG E (xU (Instr.mapUpdate 78 ag ah ai)) f fun _ o =>
 keepX [] f o (j6 [] o)))
 (dX l fun c =>
 qP pG (xNil x10) fun aj =>
 qP pG (fA 80 aj 4) fun g =>
 qP pG (fA 71 a 0) fun i =>
 qL pG c (blk g) (lA 77 g) fun ak =>
 qL pG c (blk i) (lA 9 i) fun al =>
 oP E (xV (Instr.alloc 2 true (.tuple #[]))) c fun am j =>
 keepX [(blk i), (blk g)] c j (opK pG E (xU (Instr.mapUpdate 77 ak al am)) j fun _ p =>
 keepX [] j p (j6 [] p))))
 (j1 [] k)
def F16 (x0 x1 x2 w) (R : RT) (E) :=
 oP E (xV (Instr.box 25 x0)) w fun b n =>
 oP E (xV (Instr.alloc 42 true (.tuple #[]))) n fun a o =>
 oP E (lA 25 b) o fun p q =>
 oP E (xCall (fC 33) [p]) q fun e r =>
 oP E (eX e 0) r fun _t20_9 s =>
 oP E (eX e 1) s fun f t =>
 oP E (xBin .neq 27 (.tmp 22) (.const (vI 0)) f (vI 0)) t fun u g =>
 xcond u
 (oP E (xV (Instr.build 42 #[])) g fun v y =>
 oP E (sA 42 a v) y fun _ i =>
 xcell pG 42 a i fun z =>
 R (Value.tuple #[z, f]) i)
 (oP E (xBin .lss 3 (.tmp 26) (.const (vI 0)) x2 (vI 0)) g fun d aa =>
 oP E (gsem (asB d) false (xBin .gtr 3 (.tmp 29) (.const (vI 65536)) (gval (asB d) false x2) (vI 65536))) aa fun ab ac =>
 oP E (xPick d (vB true) ab) ac fun c ad =>
 oP E (gsem (asB c) false (xBuiltin .len #[37] 3 [false] [(gval (asB c) false x1)])) ad fun ae af =>
 oP E (gsem (asB c) false (xBin .gtr 3 (.tmp 34) (.const (vI 65536)) ae (vI 65536))) af fun ag ah =>
 oP E (xPick c (vB true) ag) ah fun ai j =>
 xcond ai
 (oP E (xV (Instr.build 42 #[])) j fun aj ak =>
 oP E (sA 42 a aj) ak fun _ k =>
 xcell pG 42 a k fun al =>
 R (Value.tuple #[al, (vI 80)]) k)
 (oP E (xV (Instr.makeMap 77 none)) j fun am an =>
 oP E (xV (Instr.makeMap 78 none)) an fun ao ap =>
 oP E (xV (Instr.build 80 #[(0, x2), (2, x1), (4, am), (5, ao)])) ap fun aq ar =>
 oP E (xV (Instr.box 80 aq)) ar fun l au =>
 xcut (fun _ av => c5w b a l av R E) fun j1 =>
 oP E (fA 25 b 0) au fun aw ax =>
 oP E (lA 22 aw) ax fun m ay =>
 oP E (xBuiltin .len #[22] 3 [false] [m]) ay fun az ba =>
 xloop [47] [(vI 0)] ba fun bb bc next5 =>
 c5y b a l m az (bb 47) bc next5 j1 R E))
def h16 : Hint := (sQ (hS (sQ (sQ (hC (sQ hN) hN))) (hS (sQ (hC (sQ hN) hN)) (sQ (hU [] (sQ (hB (hL [47] (sQ (hS (hC hN hN) (hU [] (hB (sQ (sQ (hC (.reg [(0, 18014398509481984, 1024), (1, 36028797018963968, 18014398509481984), (2, 72057594037927936, 36028797018963968), (4, 144115188075855872, 72057594037927936), (0, 288230376151711744, 4096), (16, 576460752303423488, 288230376151711744), (0, 1152921504606846976, 4096), (64, 2305843009213693952, 1152921504606846976), (128, 4611686018427387904, 2305843009213693952), (511, 0, 5332261958806667264)] [168, 168, 168, 160, 168, 136, 168, 40, 40, 0] (.early 0 (.early 1 (.early 2 (.early 4 (.early 6 (.load 3 (.load 5 (.load 7 (.step 8 (.step 9 .done))))))))))) (.reg [(0, 9223372036854775808, 1024), (1, 18446744073709551616, 9223372036854775808), (2, 36893488147419103232, 18446744073709551616), (4, 73786976294838206464, 36893488147419103232), (0, 147573952589676412928, 4096), (16, 295147905179352825856, 147573952589676412928), (0, 590295810358705651712, 0), (127, 0, 959230691832896684032)] [40, 40, 40, 32, 40, 8, 40, 0] (.early 0 (.early 1 (.early 2 (.early 4 (.load 3 (.load 5 (.step 6 (.step 7 .done))))))))))))) hN)))))) (sQ (hS (.reg [(0, 37778931862957161709568, 8192), (1, 75557863725914323419136, 37778931862957161709568), (0, 151115727451828646838272, 8192), (4, 302231454903657293676544, 151115727451828646838272), (0, 604462909807314587353088, 1024), (16, 1208925819614629174706176, 604462909807314587353088), (32, 2417851639229258349412352, 1208925819614629174706176), (64, 4835703278458516698824704, 2417851639229258349412352), (0, 9671406556917033397649408, 1024), (256, 19342813113834066795298816, 9671406556917033397649408), (512, 38685626227668133590597632, 19342813113834066795298816), (1024, 77371252455336267181195264, 38685626227668133590597632), (2186, 154742504910672534362390528, 82584745052424355497115648), (0, 16384, 0), (16383, 0, 154742504910672534362406912)] [2186, 2184, 2186, 2178, 2186, 2186, 2186, 2058, 2186, 2186, 2186, 138, 2186, 2186, 0] (.early 0 (.early 2 (.early 4 (.early 5 (.early 6 (.early 8 (.early 9 (.early 10 (.load 1 (.load 3 (.load 7 (.load 11 (.early 12 (.step 13 (.step 14 .done)))))))))))))))) (hU [] (sQ (hB (hL [91] (sQ (hS (hC hN hN) (hU [] (hB (sQ (sQ (hC (.reg [(0, 316912650057057350374175801344, 16384), (1, 633825300114114700748351602688, 316912650057057350374175801344), (0, 1267650600228229401496703205376, 1024), (4, 2535301200456458802993406410752, 1267650600228229401496703205376), (8, 5070602400912917605986812821504, 2535301200456458802993406410752), (16, 10141204801825835211973625643008, 5070602400912917605986812821504), (0, 20282409603651670423947251286016, 65536), (64, 40564819207303340847894502572032, 20282409603651670423947251286016), (160, 81129638414606681695789005144064, 50706024009129176059868128215040), (256, 162259276829213363391578010288128, 81129638414606681695789005144064), (514, 324518553658426726783156020576256, 162893102129327478092326361890816), (2047, 649037107316853453566312041152512, 16384), (4095, 0, 973555660975280180349468061728768)] [418, 416, 418, 418, 418, 386, 418, 290, 162, 2, 0, 418, 0] (.early 0 (.early 2 (.early 3 (.early 4 (.early 6 (.load 1 (.load 5 (.load 7 (.load 8 (.step 9 (.step 10 (.early 11 (.step 12 .done)))))))))))))) (.reg [(0, 1298074214633706907132624082305024, 16384), (1, 2596148429267413814265248164610048, 1298074214633706907132624082305024), (0, 5192296858534827628530496329220096, 1024), (4, 10384593717069655257060992658440192, 5192296858534827628530496329220096), (8, 20769187434139310514121985316880384, 10384593717069655257060992658440192), (16, 41538374868278621028243970633760768, 20769187434139310514121985316880384), (0, 83076749736557242056487941267521536, 65536), (64, 166153499473114484112975882535043072, 83076749736557242056487941267521536), (160, 332306998946228968225951765070086144, 207691874341393105141219853168803840), (256, 664613997892457936451903530140172288, 332306998946228968225951765070086144), (512, 1329227995784915872903807060280344576, 664613997892457936451903530140172288), (1024, 2658455991569831745807614120560689152, 1329227995784915872903807060280344576), (2050, 5316911983139663491615228241121378304, 2661052139999099159621879368725299200), (8191, 10633823966279326983230456482242756608, 16384), (16383, 0, 15950735949418990474845684723364134912)] [1442, 1440, 1442, 1442, 1442, 1410, 1442, 1314, 1186, 1442, 418, 2, 0, 1442, 0] (.early 0 (.early 2 (.early 3 (.early 4 (.early 6 (.load 1 (.load 5 (.load 7 (.load 8 (.early 9 (.load 10 (.step 11 (.step 12 (.early 13 (.step 14 .done)))))))))))))))))))) hN)))))) (sQ hN)))))))))
theorem d2X {x0 x1 x2 : Value} (h : F16 x0 x1 x2 w R E) : Cv pG 16 #[x0, x1, x2] w R E := okF (h := h16) Tryz.func16 (by kernel_rfl) (by kernel_rfl) h
def c0S (x6 x10 w) (R : RT) (E) :=
 ∀ _τ : Fr, (oP E (xNil x10) w fun b c =>
 oP E (fA 91 b 4) c fun d e =>
 oP E (lA 42 d) e fun f g =>
 oP E (sA 42 x6 f) g fun _ a =>
 xcell pG 42 x6 a fun i =>
 R (Value.tuple #[i, (vI 0)]) a)
def c0T (x3 x6 x10 w) (R : RT) (E) :=
 ∀ _τ : Fr, (oP E (fA 25 x3 1) w fun c d =>
 oP E (lA 23 c) d fun e f =>
 oP E (xCall (fC 38) [x10, e]) f fun _t92_71 g =>
 xcut (fun _ i => c0S x6 x10 i R E) fun j2 =>
 oP E (xNil x10) g fun j k =>
 oP E (fA 91 j 3) k fun l m =>
 oP E (lA 4 l) m fun n a =>
 xcond n
 (oP E (xNil x10) a fun o p =>
 oP E (fA 91 o 4) p fun q r =>
 oP E (fA 42 q 0) r fun s t =>
 oP E (sA 3 s (vI 1)) t fun _ u =>
 j2 [] u)
 (oP E (xNil x10) a fun v y =>
 oP E (fA 91 v 2) y fun z aa =>
 oP E (lA 4 z) aa fun ab ac =>
 oP E (xV (Op.unary .not ab)) ac fun ad b =>
 xcond ad
 (oP E (xNil x10) b fun ae af =>
 oP E (fA 91 ae 4) af fun ag ah =>
 oP E (fA 42 ag 0) ah fun ai aj =>
 oP E (sA 3 ai (vI 2)) aj fun _ ak =>
 j2 [] ak)
 (j2 [] b)))
def c5z (_x3 _x6 x10 x11 x12 : Value) (w) (next3 : NT) (j1 : NT) (_R : RT) (E) :=
 oP E (xBuiltin .len #[22] 3 [false] [x11]) w fun q r =>
 oP E (xBin .lss 3 (.tmp 52) (.tmp 54) x12 q) r fun s k =>
 xcond s
 (dX k fun a =>
 qP pG (xNil x10) fun t =>
 qP pG (fA 91 t 6) fun d =>
 qP pG (iA 22 x11 x12) fun u =>
 qP pG (fA 71 u 0) fun l =>
 qL pG a (blk d) (lA 88 d) fun v =>
 qL pG a (blk l) (lA 9 l) fun y =>
 oP E (xV (Instr.buildSlice 88 1 #[(0, y)])) a fun z e =>
 keepX [(blk d)] a e (opK pG E (xBuiltin .append #[88, 88] 88 [false, false] [v, z]) e fun aa f =>
 keepX [] e f (qP pG (xNil x10) fun ab =>
 qP pG (fA 91 ab 6) fun ac =>
 oP E (sA 88 ac aa) f fun _ m =>
 keepX [] f m (dX m fun b =>
 qP pG (xNil x10) fun ad =>
 qP pG (fA 91 ad 4) fun ae =>
 qP pG (fA 42 ae 5) fun c =>
 qP pG (iA 22 x11 x12) fun af =>
 qP pG (fA 71 af 1) fun n =>
 qL pG b (blk c) (lA 40 c) fun ag =>
 qL pG b (blk n) (lA 3 n) fun o =>
 oP E (xV (Instr.makeSlice 37 o o)) b fun ah g =>
 keepX [(blk c)] b g (opK pG E (xV (Instr.buildSlice 40 1 #[(0, ah)])) g fun ai i =>
 keepX [(blk c)] g i (opK pG E (xBuiltin .append #[40, 40] 40 [false, false] [ag, ai]) i fun aj j =>
 keepX [] i j (qP pG (xNil x10) fun ak =>
 qP pG (fA 91 ak 4) fun al =>
 qP pG (fA 42 al 5) fun am =>
 oP E (sA 40 am aj) j fun _ p =>
 keepX [] j p (opK pG E (xBin .add 3 (.tmp 56) (.const (vI 1)) x12 (vI 1)) p fun an ao =>
 next3 [an] ao))))))))
 (j1 [] k)
def F17 (x0 x1 x2 w) (R : RT) (E) :=
 oP E (xV (Instr.box 25 x0)) w fun b n =>
 oP E (xV (Instr.alloc 42 true (.tuple #[]))) n fun a o =>
 oP E (lA 25 b) o fun p q =>
 oP E (xCall (fC 35) [p]) q fun f r =>
 oP E (eX f 0) r fun _t16_9 s =>
 oP E (eX f 1) s fun g t =>
 oP E (xBin .neq 3 (.tmp 18) (.const (vI 0)) g (vI 0)) t fun u i =>
 xcond u
 (oP E (xV (Instr.build 42 #[])) i fun v y =>
 oP E (sA 42 a v) y fun _ j =>
 xcell pG 42 a j fun z =>
 R (Value.tuple #[z, g]) j)
 (oP E (xBin .lss 3 (.tmp 22) (.const (vI 0)) x2 (vI 0)) i fun e aa =>
 oP E (gsem (asB e) false (xBin .gtr 3 (.tmp 25) (.const (vI 65536)) (gval (asB e) false x2) (vI 65536))) aa fun ab ac =>
 oP E (xPick e (vB true) ab) ac fun c ad =>
 oP E (gsem (asB c) false (xBuiltin .len #[37] 3 [false] [(gval (asB c) false x1)])) ad fun ae af =>
 oP E (gsem (asB c) false (xBin .gtr 3 (.tmp 30) (.const (vI 65536)) ae (vI 65536))) af fun ag ah =>
 oP E (xPick c (vB true) ag) ah fun ai k =>
 xcond ai
 (oP E (xV (Instr.build 42 #[])) k fun aj ak =>
 oP E (sA 42 a aj) ak fun _ l =>
 xcell pG 42 a l fun al =>
 R (Value.tuple #[al, (vI 80)]) l)
 (oP E (lA 25 b) k fun am an =>
 oP E (xCall (fC 36) [am]) an fun ao ap =>
 oP E (xV (Instr.build 91 #[(0, x1), (1, x2), (5, ao)])) ap fun aq ar =>
 oP E (xV (Instr.box 91 aq)) ar fun d au =>
 oP E (xNil d) au fun av aw =>
 oP E (fA 91 av 5) aw fun ax ay =>
 oP E (lA 88 ax) ay fun az ba =>
 oP E (xBuiltin .len #[88] 3 [false] [az]) ba fun m bb =>
 oP E (xV (Instr.makeSlice 37 m m)) bb fun bc bd =>
 oP E (xNil d) bd fun be bf =>
 oP E (fA 91 be 4) bf fun bg bh =>
 oP E (fA 42 bg 4) bh fun bi bj =>
 oP E (sA 37 bi bc) bj fun _ bk =>
 oP E (lA 25 b) bk fun bl bm =>
 oP E (xCall (fC 37) [bl]) bm fun bn bo =>
 xcut (fun _ bp => c0T b a d bp R E) fun j1 =>
 xloop [12] [(vI 0)] bo fun bq br next3 =>
 c5z b a d bn (bq 12) br next3 j1 R E))
def h17 : Hint := (sQ (sQ (hS (sQ (hC (sQ hN) hN)) (hS (sQ (hC (sQ hN) hN)) (sQ (sQ (sQ (hU [] (sQ (hB (hL [12] (hS (sQ (hC hN hN)) (hS (hB (hS (.reg [(0, 288230376151711744, 1024), (0, 576460752303423488, 1024), (2, 1152921504606846976, 576460752303423488), (4, 2305843009213693952, 1152921504606846976), (8, 4611686018427387904, 2305843009213693952), (0, 9223372036854775808, 2048), (0, 18446744073709551616, 4096), (96, 36893488147419103232, 27670116110564327424), (128, 73786976294838206464, 36893488147419103232), (256, 147573952589676412928, 73786976294838206464), (512, 295147905179352825856, 147573952589676412928), (1040, 590295810358705651712, 299759591197780213760), (4095, 1180591620717411303424, 288230376151711744), (8191, 2361183241434822606848, 1180591620717411303424), (12287, 0, 2951479051793528258560)] [528, 528, 528, 528, 512, 528, 528, 528, 528, 16, 16, 0, 528, 528, 0] (.early 0 (.early 1 (.early 2 (.early 3 (.early 5 (.early 6 (.early 7 (.early 8 (.load 4 (.load 9 (.step 10 (.step 11 (.early 12 (.early 13 (.step 14 .done)))))))))))))))) (.reg [(0, 4722366482869645213696, 1024), (0, 9444732965739290427392, 1024), (2, 18889465931478580854784, 9444732965739290427392), (4, 37778931862957161709568, 18889465931478580854784), (8, 75557863725914323419136, 37778931862957161709568), (16, 151115727451828646838272, 75557863725914323419136), (0, 302231454903657293676544, 2048), (0, 604462909807314587353088, 4096), (192, 1208925819614629174706176, 906694364710971881029632), (256, 2417851639229258349412352, 1208925819614629174706176), (512, 4835703278458516698824704, 2417851639229258349412352), (1024, 9671406556917033397649408, 4835703278458516698824704), (2048, 19342813113834066795298816, 9671406556917033397649408), (4128, 38685626227668133590597632, 19493928841285895442137088), (16383, 77371252455336267181195264, 4722366482869645213696), (32767, 154742504910672534362390528, 77371252455336267181195264), (49151, 309485009821345068724781056, 154742504910672534362390528), (81919, 0, 348170636049013202315378688)] [1056, 1056, 1056, 1056, 1056, 1024, 1056, 1056, 1056, 1056, 32, 32, 32, 0, 1056, 1056, 1056, 0] (.early 0 (.early 1 (.early 2 (.early 3 (.early 4 (.early 6 (.early 7 (.early 8 (.early 9 (.load 5 (.load 10 (.step 11 (.step 12 (.step 13 (.early 14 (.early 15 (.early 16 (.step 17 .done))))))))))))))))))))) hN))))) (sQ (hU [] (sQ (hC hN (sQ (hC hN hN)))) (sQ hN)))))))))))
theorem d2Y {x0 x1 x2 : Value} (h : F17 x0 x1 x2 w R E) : Cv pG 17 #[x0, x1, x2] w R E := okF (h := h17) Tryz.func17 (by kernel_rfl) (by kernel_rfl) h
def c0U (w) (R : RT) (_E : Pan) :=
 ∀ _τ : Fr, (R (vB true) w)
def c5A (x2 x3 x6 w) (next3 : NT) (j2 : NT) (R : RT) (E) :=
 oP E (fA 42 x2 5) w fun i j =>
 oP E (lA 40 i) j fun k l =>
 oP E (xBuiltin .len #[40] 3 [false] [k]) l fun m n =>
 oP E (xBin .lss 3 (.tmp 70) (.tmp 73) x6 m) n fun o c =>
 xcond o
 (dX c fun a =>
 qP pG (fA 42 x2 5) fun d =>
 qP pG (fA 42 x3 5) fun e =>
 qL pG a (blk d) (lA 40 d) fun p =>
 qP pG (iA 40 p x6) fun f =>
 qL pG a (blk f) (lA 37 f) fun q =>
 qL pG a (blk e) (lA 40 e) fun r =>
 qP pG (iA 40 r x6) fun g =>
 qL pG a (blk g) (lA 37 g) fun s =>
 oP E (xCall (fC 19) [q, s]) a fun t b =>
 keepX [] a b (qP pG (xV (Op.unary .not t)) fun u =>
 xcond u
 (R (vB false) b)
 (oP E (xBin .add 3 (.tmp 75) (.const (vI 1)) x6 (vI 1)) b fun v y =>
 next3 [v] y)))
 (j2 [] c)
def c0V (x2 x3 w) (R : RT) (E) :=
 ∀ _τ : Fr, (xcut (fun _ a => c0U a R E) fun j2 =>
 xloop [6] [(vI 0)] w fun b c next3 =>
 c5A x2 x3 (b 6) c next3 j2 R E)
def c5B (x2 x3 x5 w) (next4 : NT) (j1 : NT) (R : RT) (E) :=
 oP E (fA 42 x2 3) w fun g i =>
 oP E (lA 39 g) i fun j k =>
 oP E (xBuiltin .len #[39] 3 [false] [j]) k fun l m =>
 oP E (xBin .lss 3 (.tmp 52) (.tmp 55) x5 l) m fun n b =>
 xcond n
 (dX b fun a =>
 qP pG (fA 42 x2 3) fun c =>
 qP pG (fA 42 x3 3) fun d =>
 qL pG a (blk c) (lA 39 c) fun o =>
 qP pG (iA 39 o x5) fun e =>
 qL pG a (blk e) (lA 95 e) fun p =>
 qL pG a (blk d) (lA 39 d) fun q =>
 qP pG (iA 39 q x5) fun f =>
 qL pG a (blk f) (lA 95 f) fun r =>
 qP pG (xBin .neq 95 (.tmp 63) (.tmp 68) p r) fun s =>
 xcond s
 (R (vB false) a)
 (oP E (xBin .add 3 (.tmp 57) (.const (vI 1)) x5 (vI 1)) a fun t u =>
 next4 [t] u))
 (j1 [] b)
def F18 (x0 x1 w) (R : RT) (E) :=
 oP E (xV (Instr.box 42 x0)) w fun a j =>
 oP E (xV (Instr.box 42 x1)) j fun b k =>
 oP E (fA 42 a 0) k fun l m =>
 oP E (lA 3 l) m fun n o =>
 oP E (fA 42 b 0) o fun p q =>
 oP E (lA 3 p) q fun r s =>
 oP E (xBin .neq 3 (.tmp 8) (.tmp 10) n r) s fun f t =>
 oP E (gsem (asB f) false (fA 42 a 1)) t fun u v =>
 oP E (gsem (asB f) false (lA 3 u)) v fun y z =>
 oP E (gsem (asB f) false (fA 42 b 1)) z fun aa ab =>
 oP E (gsem (asB f) false (lA 3 aa)) ab fun ac ad =>
 oP E (gsem (asB f) false (xBin .neq 3 (.tmp 14) (.tmp 16) y ac)) ad fun ae af =>
 oP E (xPick f (vB true) ae) af fun g ag =>
 oP E (gsem (asB g) false (fA 42 a 2)) ag fun ah ai =>
 oP E (gsem (asB g) false (lA 3 ah)) ai fun aj ak =>
 oP E (gsem (asB g) false (fA 42 b 2)) ak fun al am =>
 oP E (gsem (asB g) false (lA 3 al)) am fun an ao =>
 oP E (gsem (asB g) false (xBin .neq 3 (.tmp 21) (.tmp 23) aj an)) ao fun ap aq =>
 oP E (xPick g (vB true) ap) aq fun c ar =>
 oP E (gsem (asB c) false (fA 42 a 3)) ar fun au av =>
 oP E (gsem (asB c) false (lA 39 au)) av fun aw ax =>
 oP E (gsem (asB c) false (xBuiltin .len #[39] 3 [false] [aw])) ax fun ay az =>
 oP E (gsem (asB c) false (fA 42 b 3)) az fun ba bb =>
 oP E (gsem (asB c) false (lA 39 ba)) bb fun bc bd =>
 oP E (gsem (asB c) false (xBuiltin .len #[39] 3 [false] [bc])) bd fun be bf =>
 oP E (gsem (asB c) false (xBin .neq 3 (.tmp 29) (.tmp 32) ay be)) bf fun bg bh =>
 oP E (xPick c (vB true) bg) bh fun e bi =>
 oP E (gsem (asB e) false (fA 42 a 4)) bi fun bj bk =>
 oP E (gsem (asB e) false (lA 37 bj)) bk fun bl bm =>
 oP E (gsem (asB e) false (fA 42 b 4)) bm fun bn bo =>
 oP E (gsem (asB e) false (lA 37 bn)) bo fun bp bq =>
 oP E (gsem (asB e) false (xCall (fC 19) [bl, bp])) bq fun br bs =>
 oP E (gsem (asB e) false (xV (Op.unary .not br))) bs fun bt bu =>
 oP E (xPick e (vB true) bt) bu fun d bv =>
 oP E (gsem (asB d) false (fA 42 a 5)) bv fun bw bz =>
 oP E (gsem (asB d) false (lA 40 bw)) bz fun ca cb =>
 oP E (gsem (asB d) false (xBuiltin .len #[40] 3 [false] [ca])) cb fun cc cd =>
 oP E (gsem (asB d) false (fA 42 b 5)) cd fun ce cf =>
 oP E (gsem (asB d) false (lA 40 ce)) cf fun cg ch =>
 oP E (gsem (asB d) false (xBuiltin .len #[40] 3 [false] [cg])) ch fun ci cj =>
 oP E (gsem (asB d) false (xBin .neq 3 (.tmp 46) (.tmp 49) cc ci)) cj fun ck cl =>
 oP E (xPick d (vB true) ck) cl fun cm i =>
 xcond cm
 (R (vB false) i)
 (xcut (fun _ cn => c0V a b cn R E) fun j1 =>
 xloop [5] [(vI 0)] i fun co cp next4 =>
 c5B a b (co 5) cp next4 j1 R E)
def h18 : Hint := (sQ (hS (sQ (hC (sQ hN) hN)) (hU [] (sQ (hB (hL [5] (hS (sQ (hC hN hN)) (hS (hB (hS (.reg [(0, 576460752303423488, 4), (1, 1152921504606846976, 576460752303423488), (0, 2305843009213693952, 32), (6, 4611686018427387904, 3458764513820540928), (8, 9223372036854775808, 4611686018427387904), (0, 18446744073709551616, 8), (32, 36893488147419103232, 18446744073709551616), (0, 73786976294838206464, 32), (192, 147573952589676412928, 110680464442257309696), (256, 295147905179352825856, 147573952589676412928), (528, 590295810358705651712, 304371277216207601664)] [594, 592, 594, 594, 578, 594, 530, 594, 594, 82, 594] (.early 0 (.early 2 (.early 5 (.early 7 (.load 1 (.early 3 (.load 4 (.load 6 (.early 8 (.load 9 (.early 10 .done)))))))))))) (hC (sQ hN) hN))) hN))))) (hU [] (sQ (hB (hL [6] (hS (sQ (hC hN hN)) (hS (hB (hS (.reg [(0, 151115727451828646838272, 4), (1, 302231454903657293676544, 151115727451828646838272), (0, 604462909807314587353088, 64), (6, 1208925819614629174706176, 906694364710971881029632), (8, 2417851639229258349412352, 1208925819614629174706176), (0, 4835703278458516698824704, 8), (32, 9671406556917033397649408, 4835703278458516698824704), (0, 19342813113834066795298816, 64), (192, 38685626227668133590597632, 29014219670751100192948224), (256, 77371252455336267181195264, 38685626227668133590597632), (528, 154742504910672534362390528, 79789104094565525530607616), (1024, 309485009821345068724781056, 154742504910672534362390528)] [594, 592, 594, 594, 578, 594, 530, 594, 594, 82, 0, 594] (.early 0 (.early 2 (.early 5 (.early 7 (.load 1 (.early 3 (.load 4 (.load 6 (.early 8 (.load 9 (.step 10 (.early 11 .done))))))))))))) (hC (sQ hN) hN))) hN))))) (sQ hN)))))
theorem d2Z {x0 x1 : Value} (h : F18 x0 x1 w R E) : Cv pG 18 #[x0, x1] w R E := okF (h := h18) Tryz.func18 (by kernel_rfl) (by kernel_rfl) h
def c0W (w) (R : RT) (_E : Pan) :=
 ∀ _τ : Fr, (R (vB true) w)
def c5C (x0 x1 x5 w) (next2 : NT) (j1 : NT) (R : RT) (E) :=
 oP E (xBuiltin .len #[37] 3 [false] [x0]) w fun e f =>
 oP E (xBin .lss 3 (.tmp 11) (.tmp 13) x5 e) f fun g b =>
 xcond g
 (dX b fun a =>
 qP pG (iA 37 x0 x5) fun c =>
 qP pG (iA 37 x1 x5) fun d =>
 qL pG a (blk c) (lA 2 c) fun i =>
 qL pG a (blk d) (lA 2 d) fun j =>
 qP pG (xBin .neq 2 (.tmp 20) (.tmp 24) i j) fun k =>
 xcond k
 (R (vB false) a)
 (oP E (xBin .add 3 (.tmp 15) (.const (vI 1)) x5 (vI 1)) a fun l m =>
 next2 [l] m))
 (j1 [] b)
def F19 (x0 x1 w) (R : RT) (E) :=
 oP E (xBuiltin .len #[37] 3 [false] [x0]) w fun b c =>
 oP E (xBuiltin .len #[37] 3 [false] [x1]) c fun d e =>
 oP E (xBin .neq 3 (.tmp 7) (.tmp 9) b d) e fun f a =>
 xcond f
 (R (vB false) a)
 (xcut (fun _ g => c0W g R E) fun j1 =>
 xloop [5] [(vI 0)] a fun i j next2 =>
 c5C x0 x1 (i 5) j next2 j1 R E)
def h19 : Hint := (sQ (hS (sQ (hC (sQ hN) hN)) (hU [] (sQ (hB (hL [5] (hS (sQ (hC hN hN)) (hS (hB (hS (.reg [(0, 131072, 1), (0, 262144, 32), (3, 524288, 393216), (4, 1048576, 524288), (0, 2097152, 2), (0, 4194304, 32), (48, 8388608, 6291456), (64, 16777216, 8388608), (136, 33554432, 17825792)] [136, 136, 136, 128, 136, 136, 136, 8, 136] (.early 0 (.early 1 (.early 2 (.early 4 (.early 5 (.early 6 (.load 3 (.load 7 (.early 8 .done)))))))))) (hC (sQ hN) hN))) hN))))) (sQ hN))))
theorem d3a {x0 x1 : Value} (h : F19 x0 x1 w R E) : Cv pG 19 #[x0, x1] w R E := okF (h := h19) Tryz.func19 (by kernel_rfl) (by kernel_rfl) h
def c5D (x0 x1 x4 w) (next1 : NT) (R : RT) (E) :=
 oP E (xBuiltin .len #[23] 3 [false] [x1]) w fun c d =>
 oP E (xBin .lss 3 (.tmp 5) (.tmp 7) x4 c) d fun a e =>
 oP E (gsem (asB a) true (xCall (fC 63) [(gval (asB a) true x0)])) e fun f g =>
 oP E (xPick a f (vB false)) g fun i b =>
 xcond i
 (oP E (iA 23 x1 x4) b fun j k =>
 oP E (lA 73 j) k fun l m =>
 oP E (xCall (fC 64) [x0, l]) m fun _t20_13 n =>
 oP E (xBin .add 3 (.tmp 13) (.const (vI 1)) x4 (vI 1)) n fun o p =>
 next1 [o] p)
 (R (Value.tuple #[]) b)
def F38 (x0 x1 w) (R : RT) (E) :=
 xloop [4] [(vI 0)] w fun a b next1 =>
 c5D x0 x1 (a 4) b next1 R E
def h38 : Hint := (sQ (hB (hL [4] (hS (sQ (hC hN hN)) (hS (hB hN) hN)))))
theorem d3b {x0 x1 : Value} (h : F38 x0 x1 w R E) : Cv pG 38 #[x0, x1] w R E := okF (h := h38) Tryz.func38 (by kernel_rfl) (by kernel_rfl) h
def c5E (x0 x6 x7 x8 w) (next1 : NT) (R : RT) (E) :=
 oP E (xBin .lss 3 (.tmp 8) (.tmp 7) x8 x7) w fun c a =>
 xcond c
 (oP E (iA 23 x6 x8) a fun d e =>
 oP E (lA 73 d) e fun f g =>
 oP E (xV (Instr.alloc 73 true (.tuple #[]))) g fun b i =>
 oP E (sA 73 b f) i fun _ j =>
 oP E (lA 73 b) j fun k l =>
 oP E (xCall (fC 103) [x0, k]) l fun _t14_15 m =>
 oP E (xBin .add 3 (.tmp 8) (.const (vI 1)) x8 (vI 1)) m fun n o =>
 next1 [n] o)
 (R (Value.tuple #[]) a)
def F60 (x0 x1 w) (R : RT) (E) :=
 oP E (xBuiltin .len #[23] 3 [false] [x1]) w fun a b =>
 xloop [8] [(vI 0)] b fun c d next1 =>
 c5E x0 x1 a (c 8) d next1 R E
def h60 : Hint := (sQ (hB (hL [8] (sQ (hS (hC hN hN) (hS (hB (sQ hN)) hN))))))
theorem d3c {x0 x1 : Value} (h : F60 x0 x1 w R E) : Cv pG 60 #[x0, x1] w R E := okF (h := h60) Tryz.func60 (by kernel_rfl) (by kernel_rfl) h
def F63 (x0 w) (R : RT) (E) :=
 oP E (xNil x0) w fun b c =>
 oP E (fA 91 b 2) c fun d e =>
 oP E (lA 4 d) e fun f g =>
 oP E (xV (Op.unary .not f)) g fun a i =>
 oP E (gsem (asB a) true (xNil (gval (asB a) true x0))) i fun j k =>
 oP E (gsem (asB a) true (fA 91 j 3)) k fun l m =>
 oP E (gsem (asB a) true (lA 4 l)) m fun n o =>
 oP E (gsem (asB a) true (xV (Op.unary .not n))) o fun p q =>
 oP E (xPick a p (vB false)) q fun r s =>
 R r s
def h63 : Hint := (sQ (sQ hN))
theorem d3d {x0 : Value} (h : F63 x0 w R E) : Cv pG 63 #[x0] w R E := okF (h := h63) Tryz.func63 (by kernel_rfl) (by kernel_rfl) h
def c5F (x0 x3 w) (next1 : NT) (R : RT) (E) :=
 oP E (fA 73 x3 3) w fun d e =>
 oP E (lA 57 d) e fun f g =>
 oP E (iA 57 f (vI 0)) g fun i j =>
 oP E (lA 59 i) j fun k l =>
 oP E (xCall (fC 108) [x0, k]) l fun a m =>
 oP E (gsem (asB a) true (xCall (fC 63) [(gval (asB a) true x0)])) m fun n o =>
 oP E (xPick a n (vB false)) o fun p b =>
 xcond p
 (oP E (fA 73 x3 4) b fun q r =>
 oP E (lA 23 q) r fun s t =>
 oP E (xCall (fC 38) [x0, s]) t fun _t57_71 u =>
 oP E (xCall (fC 63) [x0]) u fun v y =>
 oP E (xV (Op.unary .not v)) y fun z c =>
 xcond z
 (R (Value.tuple #[]) c)
 (next1 [] c))
 (R (Value.tuple #[]) b)
def F64 (x0 x1 w) (R : RT) (E) :=
 oP E (xV (Instr.box 73 x1)) w fun a q =>
 oP E (fA 73 a 0) q fun r s =>
 oP E (lA 3 r) s fun b t =>
 oP E (xBin .eql 3 (.tmp 7) (.const (vI 7)) b (vI 7)) t fun u e =>
 xcond u
 (oP E (xCall (fC 105) [x0]) e fun _t11_9 v =>
 R (Value.tuple #[]) v)
 (oP E (xBin .eql 3 (.tmp 7) (.const (vI 1)) b (vI 1)) e fun y f =>
 xcond y
 (oP E (lA 73 a) f fun z aa =>
 oP E (xCall (fC 106) [x0, z]) aa fun _t16_15 ab =>
 R (Value.tuple #[]) ab)
 (oP E (xBin .eql 3 (.tmp 7) (.const (vI 2)) b (vI 2)) f fun ac g =>
 xcond ac
 (oP E (lA 73 a) g fun ad ae =>
 oP E (xCall (fC 107) [x0, ad]) ae fun _t21_21 af =>
 R (Value.tuple #[]) af)
 (oP E (xBin .eql 3 (.tmp 7) (.const (vI 3)) b (vI 3)) g fun ag i =>
 xcond ag
 (oP E (fA 73 a 3) i fun ah ai =>
 oP E (lA 57 ah) ai fun aj ak =>
 oP E (iA 57 aj (vI 0)) ak fun al am =>
 oP E (lA 59 al) am fun an ao =>
 oP E (xCall (fC 108) [x0, an]) ao fun ap aq =>
 oP E (xCall (fC 63) [x0]) aq fun ar au =>
 oP E (xV (Op.unary .not ar)) au fun av c =>
 xcond av
 (R (Value.tuple #[]) c)
 (xcond ap
 (oP E (fA 73 a 4) c fun aw ax =>
 oP E (lA 23 aw) ax fun ay az =>
 oP E (xCall (fC 38) [x0, ay]) az fun _t37_43 ba =>
 R (Value.tuple #[]) ba)
 (oP E (fA 73 a 5) c fun bb bc =>
 oP E (lA 23 bb) bc fun bd be =>
 oP E (xCall (fC 38) [x0, bd]) be fun _t41_49 bf =>
 R (Value.tuple #[]) bf)))
 (oP E (xBin .eql 3 (.tmp 7) (.const (vI 4)) b (vI 4)) i fun bg j =>
 xcond bg
 (xloop [] [] j fun _ bh next1 =>
 c5F x0 a bh next1 R E)
 (oP E (xBin .eql 3 (.tmp 7) (.const (vI 6)) b (vI 6)) j fun bi k =>
 xcond bi
 (oP E (fA 73 a 3) k fun bj bk =>
 oP E (lA 57 bj) bk fun bl bm =>
 oP E (iA 57 bl (vI 0)) bm fun bn bo =>
 oP E (lA 59 bn) bo fun bp bq =>
 oP E (xCall (fC 108) [x0, bp]) bq fun br bs =>
 oP E (xV (Op.unary .not br)) bs fun d bt =>
 oP E (gsem (asB d) true (xCall (fC 63) [(gval (asB d) true x0)])) bt fun bu bv =>
 oP E (xPick d bu (vB false)) bv fun bw l =>
 xcond bw
 (oP E (xNil x0) l fun bz ca =>
 oP E (fA 91 bz 2) ca fun cb cc =>
 oP E (sA 4 cb (vB true)) cc fun _ cd =>
 oP E (xNil x0) cd fun ce cf =>
 oP E (fA 91 ce 4) cf fun cg ch =>
 oP E (fA 42 cg 0) ch fun ci cj =>
 oP E (sA 3 ci (vI 2)) cj fun _ ck =>
 R (Value.tuple #[]) ck)
 (R (Value.tuple #[]) l))
 (oP E (xBin .eql 3 (.tmp 7) (.const (vI 5)) b (vI 5)) k fun cl m =>
 xcond cl
 (oP E (fA 73 a 3) m fun cm cn =>
 oP E (lA 57 cm) cn fun co cp =>
 oP E (iA 57 co (vI 0)) cp fun cq cr =>
 oP E (lA 59 cq) cr fun cs ct =>
 oP E (xCall (fC 108) [x0, cs]) ct fun n cu =>
 oP E (xCall (fC 105) [x0]) cu fun cv cw =>
 oP E (xV (Op.unary .not cv)) cw fun cx o =>
 xcond cx
 (R (Value.tuple #[]) o)
 (oP E (xNil x0) o fun cy cz =>
 oP E (fA 91 cy 4) cz fun da db =>
 oP E (fA 42 da 3) db fun dc dd =>
 oP E (lA 39 dc) dd fun de df =>
 oP E (xV (Instr.build 95 #[(2, n)])) df fun dg dh =>
 oP E (xV (Instr.buildSlice 39 1 #[(0, dg)])) dh fun di dj =>
 oP E (xBuiltin .append #[39, 39] 39 [false, false] [de, di]) dj fun dk dl =>
 oP E (xNil x0) dl fun dm dn =>
 oP E (fA 91 dm 4) dn fun dp dq =>
 oP E (fA 42 dp 3) dq fun dr ds =>
 oP E (sA 39 dr dk) ds fun _ dt =>
 oP E (xV (Op.unary .not n)) dt fun du p =>
 xcond du
 (oP E (xCall (fC 109) [x0, (vI 4)]) p fun _t108_151 dv =>
 R (Value.tuple #[]) dv)
 (R (Value.tuple #[]) p)))
 (R (Value.tuple #[]) m)))))))
def h64 : Hint := (sQ (sQ (hB (sQ (hC hN (sQ (hC hN (sQ (hC hN (sQ (hC (sQ (hS (sQ (hC hN hN)) (sQ (hC hN hN)))) (sQ (hC (hB (hL [] (hS (sQ (hC hN hN)) (hB (sQ (sQ (hC hN hN))))))) (sQ (hC (sQ (hC (sQ hN) hN)) (sQ (hC (sQ (hS (sQ (hC hN hN)) (sQ (sQ (hC hN hN))))) hN)))))))))))))))))
theorem d3e {x0 x1 : Value} (h : F64 x0 x1 w R E) : Cv pG 64 #[x0, x1] w R E := okF (h := h64) Tryz.func64 (by kernel_rfl) (by kernel_rfl) h
def b8d (x0 x3 x4 w) (R : RT) (E) :=
 ∀ _τ : Fr, (dX w fun a =>
 qP pG (xNil x0) fun f =>
 qP pG (fA 80 f 4) fun b =>
 qP pG (fA 73 x3 1) fun c =>
 qL pG a (blk b) (lA 77 b) fun d =>
 qL pG a (blk c) (lA 9 c) fun g =>
 qL pG a (blk d) (xV (Instr.lookup 77 d g false)) fun i =>
 qP pG (xNil i) fun j =>
 oP E (sA 2 j x4) a fun _ e =>
 keepX [] a e (R (Value.tuple #[]) e))
def c2J (x0 x3 w) (next2 : NT) (R : RT) (E) :=
 oP E (fA 73 x3 3) w fun b c =>
 oP E (lA 57 b) c fun d e =>
 oP E (iA 57 d (vI 0)) e fun f g =>
 oP E (lA 59 f) g fun i j =>
 oP E (xCall (fC 135) [x0, i]) j fun k a =>
 xcond k
 (oP E (fA 73 x3 4) a fun l m =>
 oP E (lA 23 l) m fun n o =>
 oP E (xCall (fC 60) [x0, n]) o fun _t90_119 p =>
 next2 [] p)
 (R (Value.tuple #[]) a)
def d3f (x0 x1 w) (R : RT) (E) :=
 oP E (xV (Instr.box 73 x1)) w fun a p =>
 oP E (fA 73 a 0) p fun q r =>
 oP E (lA 3 q) r fun b s =>
 oP E (xBin .eql 3 (.tmp 10) (.const (vI 1)) b (vI 1)) s fun t c =>
 xcond t
 (oP E (fA 73 a 2) c fun u v =>
 oP E (lA 51 u) v fun y z =>
 oP E (iA 51 y (vI 0)) z fun aa ab =>
 oP E (lA 53 aa) ab fun ac ad =>
 oP E (xCall (fC 131) [x0, ac]) ad fun d ae =>
 oP E (eX d 0) ae fun af ag =>
 oP E (eX d 1) ag fun ah e =>
 xcut (fun ai aj => b8d x0 a (nth ai 0) aj R E) fun j1 =>
 xcond ah
 (oP E (xCall (fC 132) [x0]) e fun _t26_35 ak =>
 j1 [af] ak)
 (oP E (fA 73 a 2) e fun al am =>
 oP E (lA 51 al) am fun an ao =>
 oP E (iA 51 an (vI 0)) ao fun ap aq =>
 oP E (lA 53 ap) aq fun ar au =>
 oP E (xCall (fC 133) [x0, ar]) au fun av aw =>
 j1 [av] aw))
 (oP E (xBin .eql 3 (.tmp 10) (.const (vI 2)) b (vI 2)) c fun ax f =>
 xcond ax
 (oP E (fA 73 a 2) f fun ay az =>
 oP E (lA 51 ay) az fun ba bb =>
 oP E (iA 51 ba (vI 0)) bb fun bc bd =>
 oP E (lA 53 bc) bd fun be bf =>
 oP E (xCall (fC 133) [x0, be]) bf fun bg bh =>
 oP E (fA 73 a 2) bh fun bi bj =>
 oP E (lA 51 bi) bj fun bk bl =>
 oP E (iA 51 bk (vI 1)) bl fun bm bn =>
 oP E (lA 53 bm) bn fun bo bp =>
 oP E (xCall (fC 133) [x0, bo]) bp fun bq br =>
 oP E (fA 73 a 1) br fun bs bt =>
 oP E (lA 9 bs) bt fun bu bv =>
 oP E (xCall (fC 134) [x0, bu, bg]) bv fun bw bz =>
 oP E (xNil bw) bz fun ca cb =>
 oP E (sA 2 ca bq) cb fun _ cc =>
 R (Value.tuple #[]) cc)
 (oP E (xBin .eql 3 (.tmp 10) (.const (vI 3)) b (vI 3)) f fun cd g =>
 xcond cd
 (oP E (fA 73 a 3) g fun ce cf =>
 oP E (lA 57 ce) cf fun cg ch =>
 oP E (iA 57 cg (vI 0)) ch fun ci cj =>
 oP E (lA 59 ci) cj fun ck cl =>
 oP E (xCall (fC 135) [x0, ck]) cl fun cm i =>
 xcond cm
 (oP E (fA 73 a 4) i fun cn co =>
 oP E (lA 23 cn) co fun cp cq =>
 oP E (xCall (fC 60) [x0, cp]) cq fun _t74_95 cr =>
 R (Value.tuple #[]) cr)
 (oP E (fA 73 a 5) i fun cs ct =>
 oP E (lA 23 cs) ct fun cu cv =>
 oP E (xCall (fC 60) [x0, cu]) cv fun _t78_101 cw =>
 R (Value.tuple #[]) cw))
 (oP E (xBin .eql 3 (.tmp 10) (.const (vI 4)) b (vI 4)) g fun cx j =>
 xcond cx
 (xloop [] [] j fun _ cy next2 =>
 c2J x0 a cy next2 R E)
 (oP E (xBin .eql 3 (.tmp 10) (.const (vI 6)) b (vI 6)) j fun cz k =>
 xcond cz
 (oP E (fA 73 a 3) k fun da db =>
 oP E (lA 57 da) db fun dc dd =>
 oP E (iA 57 dc (vI 0)) dd fun de df =>
 oP E (lA 59 de) df fun dg dh =>
 oP E (xCall (fC 135) [x0, dg]) dh fun di dj =>
 oP E (xV (Op.unary .not di)) dj fun dk l =>
 xcond dk
 (oP E (xCall (fC 136) [x0, (vI 2), (vI 0)]) l fun _t101_137 dl =>
 R (Value.tuple #[]) dl)
 (R (Value.tuple #[]) l))
 (oP E (xBin .eql 3 (.tmp 10) (.const (vI 5)) b (vI 5)) k fun dm m =>
 xcond dm
 (oP E (fA 73 a 3) m fun dn dp =>
 oP E (lA 57 dn) dp fun dq dr =>
 oP E (iA 57 dq (vI 0)) dr fun ds dt =>
 oP E (lA 59 ds) dt fun du dv =>
 oP E (xCall (fC 135) [x0, du]) dv fun n dw =>
 oP E (xCall (fC 132) [x0]) dw fun _t111_151 dx =>
 oP E (xNil x0) dx fun dy dz =>
 oP E (fA 80 dy 3) dz fun ea eb =>
 oP E (lA 39 ea) eb fun ec ed =>
 oP E (xV (Instr.build 95 #[(2, n)])) ed fun ee ef =>
 oP E (xV (Instr.buildSlice 39 1 #[(0, ee)])) ef fun eg eh =>
 oP E (xBuiltin .append #[39, 39] 39 [false, false] [ec, eg]) eh fun ei ej =>
 oP E (xNil x0) ej fun ek el =>
 oP E (fA 80 ek 3) el fun em en =>
 oP E (sA 39 em ei) en fun _ eo =>
 oP E (xV (Op.unary .not n)) eo fun ep o =>
 xcond ep
 (oP E (xCall (fC 137) [x0, (vI 4)]) o fun _t126_173 eq =>
 R (Value.tuple #[]) eq)
 (R (Value.tuple #[]) o))
 (oP E (xCall (fC 132) [x0]) m fun _t12_175 er =>
 R (Value.tuple #[]) er))))))
def d6k : Hint := (sQ (sQ (hB (sQ (hC (sQ (hU [4] (sQ (hC hN hN)) (.reg [(0, 8589934592, 1), (1, 17179869184, 8589934592), (2, 34359738368, 17179869184), (4, 68719476736, 34359738368), (0, 137438953472, 8), (16, 274877906944, 137438953472), (40, 549755813888, 343597383680), (0, 1099511627776, 16), (255, 2199023255552, 549755813888), (511, 0, 3298534883328)] [104, 104, 104, 96, 104, 72, 40, 104, 104, 0] (.early 0 (.early 1 (.early 2 (.early 4 (.early 7 (.load 3 (.load 5 (.load 6 (.early 8 (.step 9 .done))))))))))))) (sQ (hC (sQ (sQ hN)) (sQ (hC (sQ (hC hN hN)) (sQ (hC (hB (hL [] (hS (sQ (hC hN hN)) (hB hN)))) (sQ (hC (sQ (hC hN hN)) (sQ (hC (sQ (sQ (sQ (sQ (hC hN hN))))) hN)))))))))))))))
theorem c9X {x0 x1 : Value} (h : d3f x0 x1 w R E) : Cv pG 103 #[x0, x1] w R E := okF (h := d6k) Tryz.func103 (by kernel_rfl) (by kernel_rfl) h
def d3g (x0 w) (R : RT) (E) :=
 oP E (xCall (fC 63) [x0]) w fun c d =>
 oP E (xV (Op.unary .not c)) d fun e a =>
 xcond e
 (R (vB false) a)
 (oP E (xNil x0) a fun f g =>
 oP E (fA 91 f 1) g fun i j =>
 oP E (lA 3 i) j fun k l =>
 oP E (xBin .eql 3 (.tmp 9) (.const (vI 0)) k (vI 0)) l fun m b =>
 xcond m
 (oP E (xNil x0) b fun n o =>
 oP E (fA 91 n 3) o fun p q =>
 oP E (sA 4 p (vB true)) q fun _ r =>
 R (vB false) r)
 (oP E (xNil x0) b fun s t =>
 oP E (fA 91 s 1) t fun u v =>
 oP E (lA 3 u) v fun y z =>
 oP E (xBin .sub 3 (.tmp 17) (.const (vI 1)) y (vI 1)) z fun aa ab =>
 oP E (xNil x0) ab fun ac ad =>
 oP E (fA 91 ac 1) ad fun ae af =>
 oP E (sA 3 ae aa) af fun _ ag =>
 oP E (xNil x0) ag fun ah ai =>
 oP E (fA 91 ah 4) ai fun aj ak =>
 oP E (fA 42 aj 2) ak fun al am =>
 oP E (lA 3 al) am fun an ao =>
 oP E (xBin .add 3 (.tmp 25) (.const (vI 1)) an (vI 1)) ao fun ap aq =>
 oP E (xNil x0) aq fun ar au =>
 oP E (fA 91 ar 4) au fun av aw =>
 oP E (fA 42 av 2) aw fun ax ay =>
 oP E (sA 3 ax ap) ay fun _ az =>
 R (vB true) az))
def d6l : Hint := (sQ (hS (sQ (hC (sQ hN) hN)) (hS (sQ (hC (sQ (sQ hN)) hN)) (sQ (sQ (sQ hN))))))
theorem c9Y {x0 : Value} (h : d3g x0 w R E) : Cv pG 105 #[x0] w R E := okF (h := d6l) Tryz.func105 (by kernel_rfl) (by kernel_rfl) h
def d3h (x0 x1 w) (R : RT) (E) :=
 oP E (xV (Instr.box 73 x1)) w fun g o =>
 oP E (fA 73 g 2) o fun p q =>
 oP E (lA 51 p) q fun r s =>
 oP E (iA 51 r (vI 0)) s fun t u =>
 oP E (lA 53 t) u fun v y =>
 oP E (xV (Instr.alloc 53 true (.tuple #[]))) y fun b z =>
 oP E (sA 53 b v) z fun _ aa =>
 oP E (lA 53 b) aa fun ab ac =>
 oP E (xCall (fC 140) [x0, ab]) ac fun ad ae =>
 oP E (lA 53 b) ae fun af ag =>
 oP E (xCall (fC 141) [af]) ag fun i ah =>
 oP E (eX i 0) ah fun _t18_23 ai =>
 oP E (eX i 1) ai fun c aj =>
 oP E (gsem (asB c) false (fA 53 b 0)) aj fun ak al =>
 oP E (gsem (asB c) false (lA 3 ak)) al fun am an =>
 oP E (gsem (asB c) false (xBin .eql 3 (.tmp 23) (.const (vI 2)) am (vI 2))) an fun ao ap =>
 oP E (xPick c (vB true) ao) ap fun d aq =>
 oP E (gsem (asB d) true (xCall (fC 105) [(gval (asB d) true x0)])) aq fun ar au =>
 oP E (gsem (asB d) true (xV (Op.unary .not ar))) au fun av aw =>
 oP E (xPick d av (vB false)) aw fun ax j =>
 xcond ax
 (R (Value.tuple #[]) j)
 (oP E (xCall (fC 63) [x0]) j fun ay k =>
 xcond ay
 (dX k fun a =>
 qP pG (xNil x0) fun az =>
 qP pG (fA 91 az 4) fun ba =>
 qP pG (fA 42 ba 4) fun e =>
 qP pG (xNil x0) fun bb =>
 qP pG (fA 91 bb 5) fun l =>
 qP pG (fA 73 g 1) fun m =>
 qL pG a (blk e) (lA 37 e) fun bc =>
 qL pG a (blk l) (lA 88 l) fun bd =>
 qL pG a (blk m) (lA 9 m) fun be =>
 oP E (xCall (fC 142) [bd, be]) a fun bf f =>
 keepX [(blk e)] a f (qP pG (iA 37 bc bf) fun bg =>
 oP E (sA 2 bg ad) f fun _ n =>
 keepX [] f n (R (Value.tuple #[]) n)))
 (R (Value.tuple #[]) k))
def d6m : Hint := (sQ (sQ (sQ (sQ (hS (sQ (hC hN hN)) (sQ (hC (.reg [(0, 8589934592, 1), (1, 17179869184, 8589934592), (2, 34359738368, 17179869184), (4, 68719476736, 34359738368), (8, 137438953472, 68719476736), (0, 274877906944, 1), (32, 549755813888, 274877906944), (64, 1099511627776, 549755813888), (128, 2199023255552, 1099511627776), (0, 4398046511104, 8), (512, 8796093022208, 4398046511104), (1280, 17592186044416, 10995116277760), (0, 35184372088832, 32), (8191, 70368744177664, 17729624997888), (16383, 0, 105553116266496)] [1296, 1296, 1296, 1296, 1280, 1296, 1296, 1296, 1040, 1296, 272, 16, 1296, 1296, 0] (.early 0 (.early 1 (.early 2 (.early 3 (.early 5 (.early 6 (.early 7 (.early 9 (.early 12 (.load 4 (.load 8 (.load 10 (.step 11 (.early 13 (.step 14 .done)))))))))))))))) hN)))))))
theorem c9Z {x0 x1 : Value} (h : d3h x0 x1 w R E) : Cv pG 106 #[x0, x1] w R E := okF (h := d6m) Tryz.func106 (by kernel_rfl) (by kernel_rfl) h
def b8e (x0 x3 x4 x5 w) (R : RT) (E) :=
 ∀ _τ : Fr, (oP E (xCall (fC 105) [x0]) w fun l m =>
 oP E (xV (Op.unary .not l)) m fun n e =>
 xcond n
 (R (Value.tuple #[]) e)
 (dX e fun a =>
 qP pG (xNil x0) fun o =>
 qP pG (fA 91 o 4) fun p =>
 qP pG (fA 42 p 5) fun c =>
 qP pG (xNil x0) fun q =>
 qP pG (fA 91 q 6) fun f =>
 qP pG (fA 73 x3 1) fun g =>
 qL pG a (blk c) (lA 40 c) fun r =>
 qL pG a (blk f) (lA 88 f) fun s =>
 qL pG a (blk g) (lA 9 g) fun t =>
 oP E (xCall (fC 142) [s, t]) a fun u d =>
 keepX [(blk c)] a d (qP pG (iA 40 r u) fun i =>
 qL pG d (blk i) (lA 37 i) fun j =>
 oP E (xBin .lss 2 (.tmp 38) (.const (vI 0)) x4 (vI 0)) d fun b v =>
 oP E (gsem (asB b) false (xBuiltin .len #[37] 3 [false] [(gval (asB b) false j)])) v fun y z =>
 oP E (gsem (asB b) false (xBin .geq 2 (.tmp 41) (.tmp 43) (gval (asB b) false x4) y)) z fun aa ab =>
 oP E (xPick b (vB true) aa) ab fun ac k =>
 xcond ac
 (oP E (xCall (fC 109) [x0, (vI 3)]) k fun _t47_39 ad =>
 R (Value.tuple #[]) ad)
 (oP E (iA 37 j x4) k fun ae af =>
 oP E (sA 2 ae x5) af fun _ ag =>
 R (Value.tuple #[]) ag))))
def d3i (x0 x1 w) (R : RT) (E) :=
 oP E (xV (Instr.box 73 x1)) w fun a c =>
 oP E (fA 73 a 2) c fun d e =>
 oP E (lA 51 d) e fun f g =>
 oP E (iA 51 f (vI 0)) g fun i j =>
 oP E (lA 53 i) j fun k l =>
 oP E (xCall (fC 140) [x0, k]) l fun m n =>
 xcut (fun o p => b8e x0 a m (nth o 0) p R E) fun j1 =>
 oP E (xCall (fC 63) [x0]) n fun q b =>
 xcond q
 (oP E (fA 73 a 2) b fun r s =>
 oP E (lA 51 r) s fun t u =>
 oP E (iA 51 t (vI 1)) u fun v y =>
 oP E (lA 53 v) y fun z aa =>
 oP E (xCall (fC 140) [x0, z]) aa fun ab ac =>
 j1 [ab] ac)
 (j1 [(vI 0)] b)
def d6n : Hint := (sQ (sQ (sQ (hU [5] (sQ (hC hN hN)) (hS (sQ (hC hN hN)) (hS (.reg [(0, 16777216, 1), (1, 33554432, 16777216), (2, 67108864, 33554432), (4, 134217728, 67108864), (8, 268435456, 134217728), (0, 536870912, 1), (32, 1073741824, 536870912), (64, 2147483648, 1073741824), (128, 4294967296, 2147483648), (0, 8589934592, 8), (512, 17179869184, 8589934592), (1280, 34359738368, 21474836480), (2064, 68719476736, 34628173824), (4096, 137438953472, 68719476736), (16383, 64, 137438953472)] [9488, 9488, 9488, 9488, 9472, 9488, 9488, 9488, 9232, 9488, 8464, 16, 9488, 1296, 9488] (.early 0 (.early 1 (.early 2 (.early 3 (.early 5 (.early 6 (.early 7 (.early 9 (.load 4 (.load 8 (.load 10 (.step 11 (.early 12 (.load 13 (.early 14 .done)))))))))))))))) (hS (sQ (hC (sQ hN) hN)) hN)))))))
theorem d0a {x0 x1 : Value} (h : d3i x0 x1 w R E) : Cv pG 107 #[x0, x1] w R E := okF (h := d6n) Tryz.func107 (by kernel_rfl) (by kernel_rfl) h
def b8f (x0 x3 x5 x6 w) (R : RT) (E) :=
 ∀ _τ : Fr, (oP E (xCall (fC 105) [x0]) w fun a b =>
 oP E (gsem (asB a) true (fA 59 x3 1)) b fun c d =>
 oP E (gsem (asB a) true (lA 3 c)) d fun e f =>
 oP E (gsem (asB a) true (xCall (fC 96) [e, (gval (asB a) true x5), (gval (asB a) true x6)])) f fun g i =>
 oP E (xPick a g (vB false)) i fun j k =>
 R j k)
def d3j (x0 x1 w) (R : RT) (E) :=
 oP E (xV (Instr.box 59 x1)) w fun b n =>
 oP E (fA 59 b 0) n fun o p =>
 oP E (lA 3 o) p fun e q =>
 oP E (xBin .eql 3 (.tmp 8) (.const (vI 1)) e (vI 1)) q fun r g =>
 xcond r
 (oP E (xCall (fC 105) [x0]) g fun s t =>
 R s t)
 (oP E (xBin .eql 3 (.tmp 8) (.const (vI 2)) e (vI 2)) g fun u i =>
 xcond u
 (oP E (xCall (fC 105) [x0]) i fun _t16_13 v =>
 R (vB false) v)
 (oP E (xBin .eql 3 (.tmp 8) (.const (vI 4)) e (vI 4)) i fun y j =>
 xcond y
 (oP E (fA 59 b 3) j fun z aa =>
 oP E (lA 57 z) aa fun ab ac =>
 oP E (iA 57 ab (vI 0)) ac fun ad ae =>
 oP E (lA 59 ad) ae fun af ag =>
 oP E (xCall (fC 108) [x0, af]) ag fun ah ai =>
 oP E (xV (Op.unary .not ah)) ai fun aj ak =>
 R aj ak)
 (oP E (xBin .eql 3 (.tmp 8) (.const (vI 5)) e (vI 5)) j fun al k =>
 xcond al
 (oP E (fA 59 b 3) k fun am an =>
 oP E (lA 57 am) an fun ao ap =>
 oP E (iA 57 ao (vI 0)) ap fun aq ar =>
 oP E (lA 59 aq) ar fun au av =>
 oP E (xCall (fC 108) [x0, au]) av fun f aw =>
 oP E (gsem (asB f) true (xCall (fC 63) [(gval (asB f) true x0)])) aw fun ax ay =>
 oP E (xPick f ax (vB false)) ay fun c az =>
 oP E (gsem (asB c) true (fA 59 b 3)) az fun ba bb =>
 oP E (gsem (asB c) true (lA 57 ba)) bb fun bc bd =>
 oP E (gsem (asB c) true (iA 57 bc (vI 1))) bd fun be bf =>
 oP E (gsem (asB c) true (lA 59 be)) bf fun bg bh =>
 oP E (gsem (asB c) true (xCall (fC 108) [(gval (asB c) true x0), bg])) bh fun bi bj =>
 oP E (xPick c bi (vB false)) bj fun bk bl =>
 R bk bl)
 (oP E (xBin .eql 3 (.tmp 8) (.const (vI 6)) e (vI 6)) k fun bm l =>
 xcond bm
 (oP E (fA 59 b 3) l fun bn bo =>
 oP E (lA 57 bn) bo fun bp bq =>
 oP E (iA 57 bp (vI 0)) bq fun br bs =>
 oP E (lA 59 br) bs fun bt bu =>
 oP E (xCall (fC 108) [x0, bt]) bu fun a bv =>
 oP E (gsem (asB a) false (xCall (fC 63) [(gval (asB a) false x0)])) bv fun d bw =>
 oP E (gsem (asB (gval (asB a) false d)) true (fA 59 b 3)) bw fun bz ca =>
 oP E (gsem (asB (gval (asB a) false d)) true (lA 57 bz)) ca fun cb cc =>
 oP E (gsem (asB (gval (asB a) false d)) true (iA 57 cb (vI 1))) cc fun cd ce =>
 oP E (gsem (asB (gval (asB a) false d)) true (lA 59 cd)) ce fun cf cg =>
 oP E (gsem (asB (gval (asB a) false d)) true (xCall (fC 108) [(gval (asB (gval (asB a) false d)) true x0), cf])) cg fun ch ci =>
 oP E (gsem (asB a) false (xPick (gval (asB a) false d) ch (vB false))) ci fun cj ck =>
 oP E (xPick a (vB true) cj) ck fun cl cm =>
 R cl cm)
 (oP E (fA 59 b 2) l fun cn co =>
 oP E (lA 51 cn) co fun cp cq =>
 oP E (iA 51 cp (vI 0)) cq fun cr cs =>
 oP E (lA 53 cr) cs fun ct cu =>
 oP E (xCall (fC 140) [x0, ct]) cu fun cv cw =>
 xcut (fun cx cy => b8f x0 b cv (nth cx 0) cy R E) fun j1 =>
 oP E (xCall (fC 63) [x0]) cw fun cz m =>
 xcond cz
 (oP E (fA 59 b 2) m fun da db =>
 oP E (lA 51 da) db fun dc dd =>
 oP E (iA 51 dc (vI 1)) dd fun de df =>
 oP E (lA 53 de) df fun dg dh =>
 oP E (xCall (fC 140) [x0, dg]) dh fun di dj =>
 j1 [di] dj)
 (j1 [(vI 0)] m))))))
def d6o : Hint := (sQ (hS (sQ (hB (sQ (hC (sQ hN) (sQ (hC (sQ (sQ hN)) (sQ (hC (sQ hN) (sQ (hC (sQ hN) (sQ (hC (sQ hN) hN)))))))))))) (sQ (sQ (hU [6] (sQ (hC hN hN)) (sQ hN))))))
theorem d0b {x0 x1 : Value} (h : d3j x0 x1 w R E) : Cv pG 108 #[x0, x1] w R E := okF (h := d6o) Tryz.func108 (by kernel_rfl) (by kernel_rfl) h
def d3k (x0 x1 w) (R : RT) (E) :=
 oP E (xNil x0) w fun a b =>
 oP E (fA 91 a 2) b fun c d =>
 oP E (sA 4 c (vB true)) d fun _ e =>
 oP E (xNil x0) e fun f g =>
 oP E (fA 91 f 4) g fun i j =>
 oP E (fA 42 i 0) j fun k l =>
 oP E (sA 3 k (vI 3)) l fun _ m =>
 oP E (xNil x0) m fun n o =>
 oP E (fA 91 n 4) o fun p q =>
 oP E (fA 42 p 1) q fun r s =>
 oP E (sA 3 r x1) s fun _ t =>
 R (Value.tuple #[]) t
def d6p : Hint := (sQ (sQ hN))
theorem d0c {x0 x1 : Value} (h : d3k x0 x1 w R E) : Cv pG 109 #[x0, x1] w R E := okF (h := d6p) Tryz.func109 (by kernel_rfl) (by kernel_rfl) h
def d3l (x0 x1 w) (R : RT) (E) :=
 oP E (xV (Instr.box 53 x1)) w fun b j =>
 oP E (fA 53 b 0) j fun k l =>
 oP E (lA 3 k) l fun m n =>
 oP E (xBin .eql 3 (.tmp 7) (.const (vI 2)) m (vI 2)) n fun o c =>
 xcond o
 (dX c fun a =>
 qP pG (xNil x0) fun p =>
 qP pG (fA 80 p 4) fun d =>
 qP pG (fA 53 b 2) fun e =>
 qL pG a (blk d) (lA 77 d) fun f =>
 qL pG a (blk e) (lA 9 e) fun q =>
 qL pG a (blk f) (xV (Instr.lookup 77 f q false)) fun r =>
 qP pG (xNil r) fun g =>
 qL pG a (blk g) (lA 2 g) fun s =>
 R (Value.tuple #[s, (vB true)]) a)
 (oP E (lA 53 b) c fun t u =>
 oP E (xCall (fC 158) [t]) u fun i v =>
 oP E (eX i 0) v fun y z =>
 oP E (eX i 1) z fun aa ab =>
 R (Value.tuple #[y, aa]) ab)
def d6q : Hint := (sQ (hS (sQ (hC (hS (.reg [(0, 512, 1), (1, 1024, 512), (2, 2048, 1024), (4, 4096, 2048), (0, 8192, 8), (16, 16384, 8192), (40, 32768, 20480), (64, 65536, 32768), (128, 131072, 65536), (511, 16, 131072), (1023, 32, 0)] [360, 360, 360, 352, 360, 328, 296, 360, 104, 360, 360] (.early 0 (.early 1 (.early 2 (.early 4 (.load 3 (.load 5 (.load 6 (.early 7 (.load 8 (.early 9 (.early 10 .done)))))))))))) hN) hN)) (sQ hN)))
theorem d0d {x0 x1 : Value} (h : d3l x0 x1 w R E) : Cv pG 131 #[x0, x1] w R E := okF (h := d6q) Tryz.func131 (by kernel_rfl) (by kernel_rfl) h
def c2K (x0 w) (R : RT) (E) :=
 ∀ _τ : Fr, (oP E (xNil x0) w fun a b =>
 oP E (fA 80 a 0) b fun c d =>
 oP E (lA 3 c) d fun e f =>
 oP E (xBin .sub 3 (.tmp 12) (.const (vI 1)) e (vI 1)) f fun g i =>
 oP E (xNil x0) i fun j k =>
 oP E (fA 80 j 0) k fun l m =>
 oP E (sA 3 l g) m fun _ n =>
 oP E (xNil x0) n fun o p =>
 oP E (fA 80 o 1) p fun q r =>
 oP E (lA 3 q) r fun s t =>
 oP E (xBin .add 3 (.tmp 19) (.const (vI 1)) s (vI 1)) t fun u v =>
 oP E (xNil x0) v fun y z =>
 oP E (fA 80 y 1) z fun aa ab =>
 oP E (sA 3 aa u) ab fun _ ac =>
 R (Value.tuple #[]) ac)
def d3m (x0 w) (R : RT) (E) :=
 xcut (fun _ b => c2K x0 b R E) fun j1 =>
 oP E (xNil x0) w fun c d =>
 oP E (fA 80 c 0) d fun e f =>
 oP E (lA 3 e) f fun g i =>
 oP E (xBin .eql 3 (.tmp 5) (.const (vI 0)) g (vI 0)) i fun j a =>
 xcond j
 (oP E (xCall (fC 136) [x0, (vI 1), (vI 0)]) a fun _t8_39 k =>
 j1 [] k)
 (j1 [] a)
def d6r : Hint := (hU [] (sQ (hC hN hN)) (sQ hN))
theorem d0e {x0 : Value} (h : d3m x0 w R E) : Cv pG 132 #[x0] w R E := okF (h := d6r) Tryz.func132 (by kernel_rfl) (by kernel_rfl) h
def b8g (x0 x3 x7 w) (R : RT) (E) :=
 ∀ _τ : Fr, (oP E (fA 53 x3 0) w fun ay az =>
 oP E (lA 3 ay) az fun o ba =>
 oP E (xBin .eql 3 (.tmp 33) (.const (vI 3)) o (vI 3)) ba fun bb p =>
 xcond bb
 (oP E (xCall (fC 159) [x0]) p fun bc bd =>
 R bc bd)
 (oP E (xBin .eql 3 (.tmp 33) (.const (vI 4)) o (vI 4)) p fun be q =>
 xcond be
 (dX q fun b =>
 qP pG (fA 53 x3 2) fun r =>
 qP pG (iA 37 x7 (vI 0)) fun s =>
 qL pG b (blk r) (lA 9 r) fun bf =>
 qL pG b (blk s) (lA 2 s) fun bg =>
 oP E (xCall (fC 134) [x0, bf, bg]) b fun bh i =>
 keepX [] b i (qP pG (xNil bh) fun t =>
 qL pG i (blk t) (lA 2 t) fun bi =>
 R bi i))
 (oP E (xCall (fC 132) [x0]) q fun _t50_30 bj =>
 oP E (fA 53 x3 0) bj fun bk bl =>
 oP E (lA 3 bk) bl fun a bm =>
 oP E (xBin .eql 3 (.tmp 52) (.const (vI 5)) a (vI 5)) bm fun bn u =>
 xcond bn
 (oP E (iA 37 x7 (vI 0)) u fun bo bp =>
 oP E (lA 2 bo) bp fun bq br =>
 oP E (xCall (fC 112) [bq]) br fun v bs =>
 oP E (eX v 0) bs fun bt bu =>
 oP E (eX v 1) bu fun bv bw =>
 oP E (xCall (fC 160) [x0, bt, bv]) bw fun bz ca =>
 R bz ca)
 (oP E (xBin .eql 3 (.tmp 52) (.const (vI 6)) a (vI 6)) u fun cb y =>
 xcond cb
 (dX y fun c =>
 qP pG (iA 37 x7 (vI 0)) fun z =>
 qP pG (iA 37 x7 (vI 1)) fun aa =>
 qL pG c (blk z) (lA 2 z) fun cc =>
 qL pG c (blk aa) (lA 2 aa) fun cd =>
 oP E (xCall (fC 113) [cc, cd]) c fun ab j =>
 keepX [] c j (qP pG (eX ab 0) fun ce =>
 qP pG (eX ab 1) fun cf =>
 oP E (xCall (fC 160) [x0, ce, cf]) j fun cg ac =>
 keepX [] j ac (R cg ac)))
 (oP E (xBin .eql 3 (.tmp 52) (.const (vI 7)) a (vI 7)) y fun ch ad =>
 xcond ch
 (dX ad fun d =>
 qP pG (iA 37 x7 (vI 0)) fun ae =>
 qP pG (iA 37 x7 (vI 1)) fun af =>
 qL pG d (blk ae) (lA 2 ae) fun ci =>
 qL pG d (blk af) (lA 2 af) fun cj =>
 oP E (xCall (fC 114) [ci, cj]) d fun ag k =>
 keepX [] d k (qP pG (eX ag 0) fun ck =>
 qP pG (eX ag 1) fun cl =>
 oP E (xCall (fC 160) [x0, ck, cl]) k fun cm ah =>
 keepX [] k ah (R cm ah)))
 (oP E (xBin .eql 3 (.tmp 52) (.const (vI 8)) a (vI 8)) ad fun cn ai =>
 xcond cn
 (dX ai fun e =>
 qP pG (iA 37 x7 (vI 0)) fun aj =>
 qP pG (iA 37 x7 (vI 1)) fun ak =>
 qL pG e (blk aj) (lA 2 aj) fun co =>
 qL pG e (blk ak) (lA 2 ak) fun cp =>
 oP E (xCall (fC 115) [co, cp]) e fun al l =>
 keepX [] e l (qP pG (eX al 0) fun cq =>
 qP pG (eX al 1) fun cr =>
 oP E (xCall (fC 160) [x0, cq, cr]) l fun cs am =>
 keepX [] l am (R cs am)))
 (oP E (xBin .eql 3 (.tmp 52) (.const (vI 9)) a (vI 9)) ai fun ct an =>
 xcond ct
 (dX an fun f =>
 qP pG (iA 37 x7 (vI 0)) fun ao =>
 qP pG (iA 37 x7 (vI 1)) fun ap =>
 qL pG f (blk ao) (lA 2 ao) fun cu =>
 qL pG f (blk ap) (lA 2 ap) fun cv =>
 oP E (xCall (fC 116) [cu, cv]) f fun aq m =>
 keepX [] f m (qP pG (eX aq 0) fun cw =>
 qP pG (eX aq 1) fun cx =>
 oP E (xCall (fC 160) [x0, cw, cx]) m fun cy ar =>
 keepX [] m ar (R cy ar)))
 (dX an fun g =>
 qP pG (iA 37 x7 (vI 0)) fun au =>
 qP pG (iA 37 x7 (vI 1)) fun av =>
 qL pG g (blk au) (lA 2 au) fun cz =>
 qL pG g (blk av) (lA 2 av) fun da =>
 oP E (xCall (fC 117) [cz, da]) g fun aw n =>
 keepX [] g n (qP pG (eX aw 0) fun db =>
 qP pG (eX aw 1) fun dc =>
 oP E (xCall (fC 160) [x0, db, dc]) n fun dd ax =>
 keepX [] n ax (R dd ax))))))))))
def c2L (x0 _x3 x7 x19 x20 x21 : Value) (w) (next2 : NT) (j1 : NT) (_R : RT) (E) :=
 oP E (xBin .lss 3 (.tmp 21) (.tmp 20) x21 x20) w fun c a =>
 xcond c
 (oP E (iA 51 x19 x21) a fun d e =>
 oP E (lA 53 d) e fun f g =>
 oP E (xV (Instr.alloc 53 true (.tuple #[]))) g fun b i =>
 oP E (sA 53 b f) i fun _ j =>
 oP E (lA 53 b) j fun k l =>
 oP E (xCall (fC 133) [x0, k]) l fun m n =>
 oP E (xV (Instr.buildSlice 37 1 #[(0, m)])) n fun o p =>
 oP E (xBuiltin .append #[37, 37] 37 [false, false] [x7, o]) p fun q r =>
 oP E (xBin .add 3 (.tmp 21) (.const (vI 1)) x21 (vI 1)) r fun s t =>
 next2 [q, s] t)
 (j1 [x7] a)
def d3n (x0 x1 w) (R : RT) (E) :=
 oP E (xV (Instr.box 53 x1)) w fun a f =>
 oP E (lA 53 a) f fun g i =>
 oP E (xCall (fC 131) [x0, g]) i fun b j =>
 oP E (eX b 0) j fun k l =>
 oP E (eX b 1) l fun m c =>
 xcond m
 (R k c)
 (xcut (fun n o => b8g x0 a (nth n 0) o R E) fun j1 =>
 oP E (fA 53 a 3) c fun p q =>
 oP E (lA 51 p) q fun d r =>
 oP E (xBuiltin .len #[51] 3 [false] [d]) r fun s t =>
 xloop [7, 21] [(nS), (vI 0)] t fun e u next2 =>
 c2L x0 a (e 7) d s (e 21) u next2 j1 R E)
def d6s : Hint := (sQ (hS (sQ (sQ (hC (sQ hN) hN))) (sQ (hU [7] (sQ (hB (hL [7, 21] (sQ (hS (hC hN hN) (hS (hB (sQ hN)) hN)))))) (hS (sQ (hB (sQ (hC (sQ hN) (sQ (hC (hS (.reg [(0, 1099511627776, 1), (0, 2199023255552, 8), (2, 4398046511104, 2199023255552), (0, 8796093022208, 128), (8, 17592186044416, 8796093022208), (16, 35184372088832, 17592186044416), (37, 70368744177664, 40681930227712), (64, 140737488355328, 70368744177664), (128, 281474976710656, 140737488355328), (511, 16, 281474976710656)] [292, 292, 288, 292, 292, 260, 0, 292, 36, 292] (.early 0 (.early 1 (.early 3 (.early 4 (.load 2 (.load 5 (.step 6 (.early 7 (.load 8 (.early 9 .done))))))))))) hN) hN)))))) (sQ (hS (sQ (hB (sQ (hC (sQ hN) (sQ (hC (hS (.reg [(0, 36893488147419103232, 1), (0, 73786976294838206464, 128), (2, 147573952589676412928, 73786976294838206464), (4, 295147905179352825856, 147573952589676412928), (0, 590295810358705651712, 128), (16, 1180591620717411303424, 590295810358705651712), (32, 2361183241434822606848, 1180591620717411303424), (72, 4722366482869645213696, 2656331146614175432704), (128, 9444732965739290427392, 4722366482869645213696), (128, 18889465931478580854784, 4722366482869645213696), (897, 37778931862957161709568, 28371092385365290385408), (2047, 16, 37778931862957161709568)] [72, 72, 72, 64, 72, 72, 8, 0, 72, 72, 0, 72] (.early 0 (.early 1 (.early 2 (.early 4 (.early 5 (.load 3 (.load 6 (.step 7 (.early 8 (.early 9 (.step 10 (.early 11 .done))))))))))))) hN) (sQ (hC (hS (.reg [(0, 302231454903657293676544, 1), (0, 604462909807314587353088, 128), (2, 1208925819614629174706176, 604462909807314587353088), (4, 2417851639229258349412352, 1208925819614629174706176), (0, 4835703278458516698824704, 128), (16, 9671406556917033397649408, 4835703278458516698824704), (32, 19342813113834066795298816, 9671406556917033397649408), (72, 38685626227668133590597632, 21760664753063325144711168), (128, 77371252455336267181195264, 38685626227668133590597632), (128, 154742504910672534362390528, 38685626227668133590597632), (897, 309485009821345068724781056, 232415988820912458837262336), (2047, 16, 309485009821345068724781056)] [72, 72, 72, 64, 72, 72, 8, 0, 72, 72, 0, 72] (.early 0 (.early 1 (.early 2 (.early 4 (.early 5 (.load 3 (.load 6 (.step 7 (.early 8 (.early 9 (.step 10 (.early 11 .done))))))))))))) hN) (sQ (hC (hS (.reg [(0, 2475880078570760549798248448, 1), (0, 4951760157141521099596496896, 128), (2, 9903520314283042199192993792, 4951760157141521099596496896), (4, 19807040628566084398385987584, 9903520314283042199192993792), (0, 39614081257132168796771975168, 128), (16, 79228162514264337593543950336, 39614081257132168796771975168), (32, 158456325028528675187087900672, 79228162514264337593543950336), (72, 316912650057057350374175801344, 178263365657094759585473888256), (128, 633825300114114700748351602688, 316912650057057350374175801344), (128, 1267650600228229401496703205376, 316912650057057350374175801344), (897, 2535301200456458802993406410752, 1903951780420914862794853056512), (2047, 16, 2535301200456458802993406410752)] [72, 72, 72, 64, 72, 72, 8, 0, 72, 72, 0, 72] (.early 0 (.early 1 (.early 2 (.early 4 (.early 5 (.load 3 (.load 6 (.step 7 (.early 8 (.early 9 (.step 10 (.early 11 .done))))))))))))) hN) (sQ (hC (hS (.reg [(0, 20282409603651670423947251286016, 1), (0, 40564819207303340847894502572032, 128), (2, 81129638414606681695789005144064, 40564819207303340847894502572032), (4, 162259276829213363391578010288128, 81129638414606681695789005144064), (0, 324518553658426726783156020576256, 128), (16, 649037107316853453566312041152512, 324518553658426726783156020576256), (32, 1298074214633706907132624082305024, 649037107316853453566312041152512), (72, 2596148429267413814265248164610048, 1460333491462920270524202092593152), (128, 5192296858534827628530496329220096, 2596148429267413814265248164610048), (128, 10384593717069655257060992658440192, 2596148429267413814265248164610048), (897, 20769187434139310514121985316880384, 15597172985208134556015436238946304), (2047, 16, 20769187434139310514121985316880384)] [72, 72, 72, 64, 72, 72, 8, 0, 72, 72, 0, 72] (.early 0 (.early 1 (.early 2 (.early 4 (.early 5 (.load 3 (.load 6 (.step 7 (.early 8 (.early 9 (.step 10 (.early 11 .done))))))))))))) hN) hN)))))))))))) (hS (.reg [(0, 41538374868278621028243970633760768, 1), (0, 83076749736557242056487941267521536, 128), (2, 166153499473114484112975882535043072, 83076749736557242056487941267521536), (4, 332306998946228968225951765070086144, 166153499473114484112975882535043072), (0, 664613997892457936451903530140172288, 128), (16, 1329227995784915872903807060280344576, 664613997892457936451903530140172288), (32, 2658455991569831745807614120560689152, 1329227995784915872903807060280344576), (72, 5316911983139663491615228241121378304, 2990762990516060714033565885630775296), (128, 10633823966279326983230456482242756608, 5316911983139663491615228241121378304), (128, 21267647932558653966460912964485513216, 5316911983139663491615228241121378304), (897, 42535295865117307932921825928971026432, 31943010273706259570719613417362030592), (2047, 16, 42535295865117307932921825928971026432)] [72, 72, 72, 64, 72, 72, 8, 0, 72, 72, 0, 72] (.early 0 (.early 1 (.early 2 (.early 4 (.early 5 (.load 3 (.load 6 (.step 7 (.early 8 (.early 9 (.step 10 (.early 11 .done))))))))))))) hN))))))))
theorem d0f {x0 x1 : Value} (h : d3n x0 x1 w R E) : Cv pG 133 #[x0, x1] w R E := okF (h := d6s) Tryz.func133 (by kernel_rfl) (by kernel_rfl) h
def c2M (x2 x7 w) (R : RT) (E) :=
 ∀ _τ : Fr, (oP E (iA 37 x7 x2) w fun a b =>
 R a b)
def d3o (x0 x1 x2 w) (R : RT) (E) :=
 oP E (xCall (fC 132) [x0]) w fun _t9_1 d =>
 oP E (xNil x0) d fun e f =>
 oP E (fA 80 e 5) f fun g i =>
 oP E (lA 78 g) i fun j k =>
 oP E (xV (Instr.lookup 78 j x1 false)) k fun b l =>
 xcut (fun _ m => c2M x2 b m R E) fun j1 =>
 oP E (xBin .lss 2 (.tmp 16) (.const (vI 0)) x2 (vI 0)) l fun a n =>
 oP E (gsem (asB a) false (xBuiltin .len #[37] 3 [false] [(gval (asB a) false b)])) n fun o p =>
 oP E (gsem (asB a) false (xBin .geq 2 (.tmp 19) (.tmp 21) (gval (asB a) false x2) o)) p fun q r =>
 oP E (xPick a (vB true) q) r fun s c =>
 xcond s
 (oP E (xCall (fC 137) [x0, (vI 3)]) c fun _t25_23 t =>
 j1 [] t)
 (j1 [] c)
def d6t : Hint := (sQ (sQ (sQ (hU [] (sQ (hC hN hN)) (sQ hN)))))
theorem d0g {x0 x1 x2 : Value} (h : d3o x0 x1 x2 w R E) : Cv pG 134 #[x0, x1, x2] w R E := okF (h := d6t) Tryz.func134 (by kernel_rfl) (by kernel_rfl) h
def d3p (x0 x1 w) (R : RT) (E) :=
 oP E (xV (Instr.box 59 x1)) w fun a j =>
 oP E (fA 59 a 0) j fun k l =>
 oP E (lA 3 k) l fun d m =>
 oP E (xBin .eql 3 (.tmp 8) (.const (vI 4)) d (vI 4)) m fun n e =>
 xcond n
 (oP E (fA 59 a 3) e fun o p =>
 oP E (lA 57 o) p fun q r =>
 oP E (iA 57 q (vI 0)) r fun s t =>
 oP E (lA 59 s) t fun u v =>
 oP E (xCall (fC 135) [x0, u]) v fun y z =>
 oP E (xV (Op.unary .not y)) z fun aa ab =>
 R aa ab)
 (oP E (xBin .eql 3 (.tmp 8) (.const (vI 5)) d (vI 5)) e fun ac f =>
 xcond ac
 (oP E (fA 59 a 3) f fun ad ae =>
 oP E (lA 57 ad) ae fun af ag =>
 oP E (iA 57 af (vI 0)) ag fun ah ai =>
 oP E (lA 59 ah) ai fun aj ak =>
 oP E (xCall (fC 135) [x0, aj]) ak fun b al =>
 oP E (gsem (asB b) true (fA 59 a 3)) al fun am an =>
 oP E (gsem (asB b) true (lA 57 am)) an fun ao ap =>
 oP E (gsem (asB b) true (iA 57 ao (vI 1))) ap fun aq ar =>
 oP E (gsem (asB b) true (lA 59 aq)) ar fun au av =>
 oP E (gsem (asB b) true (xCall (fC 135) [(gval (asB b) true x0), au])) av fun aw ax =>
 oP E (xPick b aw (vB false)) ax fun ay az =>
 R ay az)
 (oP E (xBin .eql 3 (.tmp 8) (.const (vI 6)) d (vI 6)) f fun ba g =>
 xcond ba
 (oP E (fA 59 a 3) g fun bb bc =>
 oP E (lA 57 bb) bc fun bd be =>
 oP E (iA 57 bd (vI 0)) be fun bf bg =>
 oP E (lA 59 bf) bg fun bh bi =>
 oP E (xCall (fC 135) [x0, bh]) bi fun c bj =>
 oP E (gsem (asB c) false (fA 59 a 3)) bj fun bk bl =>
 oP E (gsem (asB c) false (lA 57 bk)) bl fun bm bn =>
 oP E (gsem (asB c) false (iA 57 bm (vI 1))) bn fun bo bp =>
 oP E (gsem (asB c) false (lA 59 bo)) bp fun bq br =>
 oP E (gsem (asB c) false (xCall (fC 135) [(gval (asB c) false x0), bq])) br fun bs bt =>
 oP E (xPick c (vB true) bs) bt fun bu bv =>
 R bu bv)
 (oP E (xBin .eql 3 (.tmp 8) (.const (vI 3)) d (vI 3)) g fun bw i =>
 xcond bw
 (oP E (fA 59 a 2) i fun bz ca =>
 oP E (lA 51 bz) ca fun cb cc =>
 oP E (iA 51 cb (vI 0)) cc fun cd ce =>
 oP E (lA 53 cd) ce fun cf cg =>
 oP E (xCall (fC 133) [x0, cf]) cg fun ch ci =>
 oP E (fA 59 a 2) ci fun cj ck =>
 oP E (lA 51 cj) ck fun cl cm =>
 oP E (iA 51 cl (vI 1)) cm fun cn co =>
 oP E (lA 53 cn) co fun cp cq =>
 oP E (xCall (fC 133) [x0, cp]) cq fun cr cs =>
 oP E (xCall (fC 132) [x0]) cs fun _t65_91 ct =>
 oP E (fA 59 a 1) ct fun cu cv =>
 oP E (lA 3 cu) cv fun cw cx =>
 oP E (xCall (fC 73) [cw, ch, cr]) cx fun cy cz =>
 R cy cz)
 (oP E (xCall (fC 132) [x0]) i fun _t72_99 da =>
 oP E (fA 59 a 0) da fun db dc =>
 oP E (lA 3 db) dc fun dd de =>
 oP E (xBin .eql 3 (.tmp 74) (.const (vI 1)) dd (vI 1)) de fun df dg =>
 R df dg))))
def d6u : Hint := (sQ (hS (sQ (hB (sQ (hC (sQ hN) (sQ (hC (sQ hN) (sQ (hC (sQ hN) (sQ (hC (sQ (sQ (sQ (sQ hN)))) hN)))))))))) (sQ (sQ hN))))
theorem d0h {x0 x1 : Value} (h : d3p x0 x1 w R E) : Cv pG 135 #[x0, x1] w R E := okF (h := d6u) Tryz.func135 (by kernel_rfl) (by kernel_rfl) h
def d3q (_x0 x1 x2 : Value) (w) (R : RT) (E) :=
 oP E (xV (Instr.build 83 #[(0, x1), (1, x2)])) w fun a b =>
 oP E (xV (Instr.makeInterface 83 a)) b fun c d =>
 oP E (xV (Instr.panic c)) d fun _ e =>
 R (Value.tuple #[]) e
def d6v : Hint := hN
theorem d0i {x0 x1 x2 : Value} (h : d3q x0 x1 x2 w R E) : Cv pG 136 #[x0, x1, x2] w R E := okF (h := d6v) Tryz.func136 (by kernel_rfl) (by kernel_rfl) h
def d3r (x0 x1 w) (R : RT) (E) :=
 oP E (xBin .neq 3 (.tmp 4) (.const (vI 0)) x1 (vI 0)) w fun b a =>
 xcond b
 (oP E (xCall (fC 136) [x0, (vI 3), x1]) a fun _t8_3 c =>
 R (Value.tuple #[]) c)
 (R (Value.tuple #[]) a)
def d6w : Hint := (sQ (hC hN hN))
theorem d0j {x0 x1 : Value} (h : d3r x0 x1 w R E) : Cv pG 137 #[x0, x1] w R E := okF (h := d6w) Tryz.func137 (by kernel_rfl) (by kernel_rfl) h
def b8h (x11 w) (R : RT) (_E : Pan) :=
 ∀ _τ : Fr, (R x11 w)
def b8i (x0 x3 x9 x10 w) (R : RT) (E) :=
 ∀ _τ : Fr, (oP E (xCall (fC 105) [x0]) w fun e f =>
 oP E (xV (Op.unary .not e)) f fun g a =>
 xcond g
 (R (vI 0) a)
 (oP E (fA 53 x3 0) a fun i j =>
 oP E (lA 3 i) j fun k l =>
 oP E (xCall (fC 98) [k, x9, x10]) l fun b m =>
 oP E (eX b 0) m fun n o =>
 oP E (eX b 1) o fun c p =>
 xcut (fun _ q => b8h n q R E) fun j2 =>
 oP E (xBin .neq 3 (.tmp 112) (.const (vI 0)) c (vI 0)) p fun r d =>
 xcond r
 (oP E (xCall (fC 109) [x0, c]) d fun _t116_107 s =>
 j2 [] s)
 (j2 [] d)))
def d3s (x0 x1 w) (R : RT) (E) :=
 oP E (xV (Instr.box 53 x1)) w fun a ad =>
 oP E (lA 53 a) ad fun ae af =>
 oP E (xCall (fC 141) [ae]) af fun m ag =>
 oP E (eX m 0) ag fun ah ai =>
 oP E (eX m 1) ai fun aj n =>
 xcond aj
 (R ah n)
 (oP E (fA 53 a 0) n fun ak al =>
 oP E (lA 3 ak) al fun f am =>
 oP E (xBin .eql 3 (.tmp 21) (.const (vI 2)) f (vI 2)) am fun an o =>
 xcond an
 (dX o fun b =>
 qP pG (xNil x0) fun ao =>
 qP pG (fA 91 ao 4) fun ap =>
 qP pG (fA 42 ap 4) fun g =>
 qP pG (xNil x0) fun aq =>
 qP pG (fA 91 aq 5) fun p =>
 qP pG (fA 53 a 2) fun q =>
 qL pG b (blk g) (lA 37 g) fun ar =>
 qL pG b (blk p) (lA 88 p) fun au =>
 qL pG b (blk q) (lA 9 q) fun av =>
 oP E (xCall (fC 142) [au, av]) b fun aw i =>
 keepX [(blk g)] b i (qP pG (iA 37 ar aw) fun r =>
 qL pG i (blk r) (lA 2 r) fun ax =>
 R ax i))
 (oP E (xBin .eql 3 (.tmp 21) (.const (vI 3)) f (vI 3)) o fun ay s =>
 xcond ay
 (oP E (xCall (fC 161) [x0]) s fun az ba =>
 R az ba)
 (oP E (xBin .eql 3 (.tmp 21) (.const (vI 4)) f (vI 4)) s fun bb t =>
 xcond bb
 (oP E (fA 53 a 3) t fun bc bd =>
 oP E (lA 51 bc) bd fun be bf =>
 oP E (iA 51 be (vI 0)) bf fun bg bh =>
 oP E (lA 53 bg) bh fun bi bj =>
 oP E (xCall (fC 140) [x0, bi]) bj fun j bk =>
 oP E (xCall (fC 105) [x0]) bk fun bl bm =>
 oP E (xV (Op.unary .not bl)) bm fun bn u =>
 xcond bn
 (R (vI 0) u)
 (dX u fun c =>
 qP pG (xNil x0) fun bo =>
 qP pG (fA 91 bo 4) fun bp =>
 qP pG (fA 42 bp 5) fun k =>
 qP pG (xNil x0) fun bq =>
 qP pG (fA 91 bq 6) fun v =>
 qP pG (fA 53 a 2) fun y =>
 qL pG c (blk k) (lA 40 k) fun br =>
 qL pG c (blk v) (lA 88 v) fun bs =>
 qL pG c (blk y) (lA 9 y) fun bt =>
 oP E (xCall (fC 142) [bs, bt]) c fun bu l =>
 keepX [(blk k)] c l (qP pG (iA 40 br bu) fun z =>
 qL pG l (blk z) (lA 37 z) fun aa =>
 oP E (xBin .lss 2 (.tmp 67) (.const (vI 0)) j (vI 0)) l fun d bv =>
 oP E (gsem (asB d) false (xBuiltin .len #[37] 3 [false] [(gval (asB d) false aa)])) bv fun bw bz =>
 oP E (gsem (asB d) false (xBin .geq 2 (.tmp 70) (.tmp 72) (gval (asB d) false j) bw)) bz fun ca cb =>
 oP E (xPick d (vB true) ca) cb fun cc ab =>
 xcond cc
 (oP E (xCall (fC 109) [x0, (vI 3)]) ab fun _t76_73 cd =>
 R (vI 0) cd)
 (oP E (iA 37 aa j) ab fun ce cf =>
 oP E (lA 2 ce) cf fun cg ch =>
 R cg ch))))
 (oP E (fA 53 a 3) t fun ci cj =>
 oP E (lA 51 ci) cj fun ck cl =>
 oP E (iA 51 ck (vI 0)) cl fun cm cn =>
 oP E (lA 53 cm) cn fun co cp =>
 oP E (xCall (fC 140) [x0, co]) cp fun cq cr =>
 xcut (fun cs ct => b8i x0 a cq (nth cs 0) ct R E) fun j1 =>
 oP E (xCall (fC 63) [x0]) cr fun e cu =>
 oP E (gsem (asB e) true (fA 53 a 3)) cu fun cv cw =>
 oP E (gsem (asB e) true (lA 51 cv)) cw fun cx cy =>
 oP E (gsem (asB e) true (xBuiltin .len #[51] 3 [false] [cx])) cy fun cz da =>
 oP E (gsem (asB e) true (xBin .eql 3 (.tmp 92) (.const (vI 2)) cz (vI 2))) da fun db dc =>
 oP E (xPick e db (vB false)) dc fun dd ac =>
 xcond dd
 (oP E (fA 53 a 3) ac fun de df =>
 oP E (lA 51 de) df fun dg dh =>
 oP E (iA 51 dg (vI 1)) dh fun di dj =>
 oP E (lA 53 di) dj fun dk dl =>
 oP E (xCall (fC 140) [x0, dk]) dl fun dm dn =>
 j1 [dm] dn)
 (j1 [(vI 0)] ac)))))
def d6x : Hint := (sQ (sQ (hS (sQ (hC (sQ hN) hN)) (hS (sQ (hB (sQ (hC (hS (.reg [(0, 16777216, 1), (1, 33554432, 16777216), (2, 67108864, 33554432), (4, 134217728, 67108864), (8, 268435456, 134217728), (0, 536870912, 1), (32, 1073741824, 536870912), (64, 2147483648, 1073741824), (128, 4294967296, 2147483648), (0, 8589934592, 8), (512, 17179869184, 8589934592), (1280, 34359738368, 21474836480), (2064, 68719476736, 34628173824), (4096, 137438953472, 68719476736), (16383, 16, 137438953472)] [9488, 9488, 9488, 9488, 9472, 9488, 9488, 9488, 9232, 9488, 8464, 16, 9488, 1296, 9488] (.early 0 (.early 1 (.early 2 (.early 3 (.early 5 (.early 6 (.early 7 (.early 9 (.load 4 (.load 8 (.load 10 (.step 11 (.early 12 (.load 13 (.early 14 .done)))))))))))))))) hN) (sQ (hC (sQ hN) (sQ (hC (sQ (hS (sQ (hC (sQ hN) hN)) (hS (.reg [(0, 9007199254740992, 1), (1, 18014398509481984, 9007199254740992), (2, 36028797018963968, 18014398509481984), (4, 72057594037927936, 36028797018963968), (8, 144115188075855872, 72057594037927936), (0, 288230376151711744, 1), (32, 576460752303423488, 288230376151711744), (64, 1152921504606846976, 576460752303423488), (128, 2305843009213693952, 1152921504606846976), (0, 4611686018427387904, 8), (512, 9223372036854775808, 4611686018427387904), (1280, 18446744073709551616, 11529215046068469760), (2064, 36893488147419103232, 18590859261785407488), (4096, 73786976294838206464, 36893488147419103232), (16383, 256, 73786976294838206464)] [9488, 9488, 9488, 9488, 9472, 9488, 9488, 9488, 9232, 9488, 8464, 16, 9488, 1296, 9488] (.early 0 (.early 1 (.early 2 (.early 3 (.early 5 (.early 6 (.early 7 (.early 9 (.load 4 (.load 8 (.load 10 (.step 11 (.early 12 (.load 13 (.early 14 .done)))))))))))))))) (hS (sQ (hC (sQ (sQ hN)) hN)) (sQ hN))))) hN)))))))) (sQ (sQ (hU [10] (sQ (hC hN hN)) (hS (sQ (hC (sQ hN) hN)) (sQ (hU [] (sQ (hC hN hN)) (sQ hN)))))))))))
theorem d0k {x0 x1 : Value} (h : d3s x0 x1 w R E) : Cv pG 140 #[x0, x1] w R E := okF (h := d6x) Tryz.func140 (by kernel_rfl) (by kernel_rfl) h
def d3t (x0 w) (R : RT) (E) :=
 oP E (xV (Instr.box 53 x0)) w fun b e =>
 oP E (fA 53 b 0) e fun f g =>
 oP E (lA 3 f) g fun i j =>
 oP E (xBin .eql 3 (.tmp 5) (.const (vI 1)) i (vI 1)) j fun k c =>
 xcond k
 (oP E (fA 53 b 1) c fun l m =>
 oP E (lA 2 l) m fun n o =>
 R (Value.tuple #[n, (vB true)]) o)
 (oP E (fA 53 b 0) c fun p q =>
 oP E (lA 3 p) q fun r s =>
 oP E (xBin .eql 3 (.tmp 10) (.const (vI 5)) r (vI 5)) s fun a t =>
 oP E (gsem (asB a) true (fA 53 b 3)) t fun u v =>
 oP E (gsem (asB a) true (lA 51 u)) v fun y z =>
 oP E (gsem (asB a) true (iA 51 y (vI 0))) z fun aa ab =>
 oP E (gsem (asB a) true (fA 53 aa 0)) ab fun ac ad =>
 oP E (gsem (asB a) true (lA 3 ac)) ad fun ae af =>
 oP E (gsem (asB a) true (xBin .eql 3 (.tmp 17) (.const (vI 1)) ae (vI 1))) af fun ag ah =>
 oP E (xPick a ag (vB false)) ah fun ai d =>
 xcond ai
 (oP E (fA 53 b 3) d fun aj ak =>
 oP E (lA 51 aj) ak fun al am =>
 oP E (iA 51 al (vI 0)) am fun an ao =>
 oP E (fA 53 an 1) ao fun ap aq =>
 oP E (lA 2 ap) aq fun ar au =>
 oP E (xV (Op.unary .neg ar)) au fun av aw =>
 R (Value.tuple #[av, (vB true)]) aw)
 (R (Value.tuple #[(vI 0), (vB false)]) d))
def d6y : Hint := (sQ (hS (sQ (hC (sQ hN) hN)) (hS (sQ (hC (sQ hN) hN)) (sQ hN))))
theorem d0l {x0 : Value} (h : d3t x0 w R E) : Cv pG 141 #[x0] w R E := okF (h := d6y) Tryz.func141 (by kernel_rfl) (by kernel_rfl) h
def b8j (w) (R : RT) (_E : Pan) :=
 ∀ _τ : Fr, (R (vI (-1)) w)
def c2N (x0 x1 x5 w) (next2 : NT) (j1 : NT) (R : RT) (E) :=
 oP E (xBuiltin .len #[88] 3 [false] [x0]) w fun c d =>
 oP E (xBin .lss 3 (.tmp 6) (.tmp 8) x5 c) d fun e a =>
 xcond e
 (oP E (iA 88 x0 x5) a fun f g =>
 oP E (lA 9 f) g fun i j =>
 oP E (xBin .eql 9 (.tmp 15) (.tmp 16) i x1) j fun k b =>
 xcond k
 (R x5 b)
 (oP E (xBin .add 3 (.tmp 10) (.const (vI 1)) x5 (vI 1)) b fun l m =>
 next2 [l] m))
 (j1 [] a)
def d3u (x0 x1 w) (R : RT) (E) :=
 xcut (fun _ a => b8j a R E) fun j1 =>
 xloop [5] [(vI 0)] w fun b c next2 =>
 c2N x0 x1 (b 5) c next2 j1 R E
def d6z : Hint := (sQ (hU [] (sQ (hB (hL [5] (hS (sQ (hC hN hN)) (hS (hB (sQ (hC (sQ hN) hN))) hN))))) (sQ hN)))
theorem d0m {x0 x1 : Value} (h : d3u x0 x1 w R E) : Cv pG 142 #[x0, x1] w R E := okF (h := d6z) Tryz.func142 (by kernel_rfl) (by kernel_rfl) h
def d3v (x0 w) (R : RT) (E) :=
 oP E (xV (Instr.box 53 x0)) w fun b e =>
 oP E (fA 53 b 0) e fun f g =>
 oP E (lA 3 f) g fun i j =>
 oP E (xBin .eql 3 (.tmp 6) (.const (vI 1)) i (vI 1)) j fun k c =>
 xcond k
 (oP E (fA 53 b 1) c fun l m =>
 oP E (lA 2 l) m fun n o =>
 R (Value.tuple #[n, (vB true)]) o)
 (oP E (fA 53 b 0) c fun p q =>
 oP E (lA 3 p) q fun r s =>
 oP E (xBin .eql 3 (.tmp 12) (.const (vI 5)) r (vI 5)) s fun a t =>
 oP E (gsem (asB a) true (fA 53 b 3)) t fun u v =>
 oP E (gsem (asB a) true (lA 51 u)) v fun y z =>
 oP E (gsem (asB a) true (iA 51 y (vI 0))) z fun aa ab =>
 oP E (gsem (asB a) true (fA 53 aa 0)) ab fun ac ad =>
 oP E (gsem (asB a) true (lA 3 ac)) ad fun ae af =>
 oP E (gsem (asB a) true (xBin .eql 3 (.tmp 19) (.const (vI 1)) ae (vI 1))) af fun ag ah =>
 oP E (xPick a ag (vB false)) ah fun ai d =>
 xcond ai
 (oP E (fA 53 b 3) d fun aj ak =>
 oP E (lA 51 aj) ak fun al am =>
 oP E (iA 51 al (vI 0)) am fun an ao =>
 oP E (fA 53 an 1) ao fun ap aq =>
 oP E (lA 2 ap) aq fun ar au =>
 oP E (xV (Op.unary .neg ar)) au fun av aw =>
 R (Value.tuple #[av, (vB true)]) aw)
 (R (Value.tuple #[(vI 0), (vB false)]) d))
def d6A : Hint := (sQ (hS (hB (sQ (hC (sQ hN) (sQ (hC (sQ hN) hN))))) (sQ hN)))
theorem d0n {x0 : Value} (h : d3v x0 w R E) : Cv pG 158 #[x0] w R E := okF (h := d6A) Tryz.func158 (by kernel_rfl) (by kernel_rfl) h
def c2O (x0 w) (R : RT) (E) :=
 ∀ _τ : Fr, (oP E (xCall (fC 132) [x0]) w fun _t13_1 b =>
 oP E (xNil x0) b fun c d =>
 oP E (fA 80 c 2) d fun e f =>
 oP E (lA 37 e) f fun g i =>
 oP E (iA 37 g (vI 0)) i fun j k =>
 oP E (lA 2 j) k fun a l =>
 oP E (xNil x0) l fun m n =>
 oP E (fA 80 m 2) n fun o p =>
 oP E (lA 37 o) p fun q r =>
 oP E (xV (Instr.sliceAt 37 q (some (vI 1)) none none)) r fun s t =>
 oP E (xNil x0) t fun u v =>
 oP E (fA 80 u 2) v fun y z =>
 oP E (sA 37 y s) z fun _ aa =>
 oP E (xNil x0) aa fun ab ac =>
 oP E (fA 80 ab 3) ac fun ad ae =>
 oP E (lA 39 ad) ae fun af ag =>
 oP E (xV (Instr.build 95 #[(0, (vB true)), (1, a)])) ag fun ah ai =>
 oP E (xV (Instr.buildSlice 39 1 #[(0, ah)])) ai fun aj ak =>
 oP E (xBuiltin .append #[39, 39] 39 [false, false] [af, aj]) ak fun al am =>
 oP E (xNil x0) am fun an ao =>
 oP E (fA 80 an 3) ao fun ap aq =>
 oP E (sA 39 ap al) aq fun _ ar =>
 R a ar)
def d3w (x0 w) (R : RT) (E) :=
 xcut (fun _ b => c2O x0 b R E) fun j1 =>
 oP E (xNil x0) w fun c d =>
 oP E (fA 80 c 2) d fun e f =>
 oP E (lA 37 e) f fun g i =>
 oP E (xBuiltin .len #[37] 3 [false] [g]) i fun j k =>
 oP E (xBin .eql 3 (.tmp 8) (.const (vI 0)) j (vI 0)) k fun l a =>
 xcond l
 (oP E (xCall (fC 136) [x0, (vI 2), (vI 0)]) a fun _t11_57 m =>
 j1 [] m)
 (j1 [] a)
def d6B : Hint := (sQ (hU [] (sQ (hC hN hN)) (sQ (sQ (sQ (sQ (sQ hN)))))))
theorem d0o {x0 : Value} (h : d3w x0 w R E) : Cv pG 159 #[x0] w R E := okF (h := d6B) Tryz.func159 (by kernel_rfl) (by kernel_rfl) h
def d3x (x0 x1 x2 w) (R : RT) (E) :=
 oP E (xCall (fC 137) [x0, x2]) w fun _t9_1 a =>
 R x1 a
def d6C : Hint := (sQ (sQ (sQ hN)))
theorem d0p {x0 x1 x2 : Value} (h : d3x x0 x1 x2 w R E) : Cv pG 160 #[x0, x1, x2] w R E := okF (h := d6C) Tryz.func160 (by kernel_rfl) (by kernel_rfl) h
def d3y (x0 w) (R : RT) (E) :=
 oP E (xCall (fC 63) [x0]) w fun l m =>
 oP E (xV (Op.unary .not l)) m fun n c =>
 xcond n
 (R (vI 0) c)
 (dX c fun a =>
 qP pG (xNil x0) fun o =>
 qP pG (fA 91 o 7) fun d =>
 qP pG (xNil x0) fun p =>
 qP pG (fA 91 p 0) fun e =>
 qL pG a (blk d) (lA 3 d) fun q =>
 qL pG a (blk e) (lA 37 e) fun r =>
 qP pG (xBuiltin .len #[37] 3 [false] [r]) fun s =>
 qP pG (xBin .eql 3 (.tmp 10) (.tmp 15) q s) fun t =>
 xcond t
 (oP E (xNil x0) a fun u v =>
 oP E (fA 91 u 2) v fun y z =>
 oP E (sA 4 y (vB true)) z fun _ aa =>
 oP E (xNil x0) aa fun ab ac =>
 oP E (fA 91 ab 4) ac fun ad ae =>
 oP E (fA 42 ad 0) ae fun af ag =>
 oP E (sA 3 af (vI 2)) ag fun _ ah =>
 R (vI 0) ah)
 (oP E (xCall (fC 105) [x0]) a fun ai aj =>
 oP E (xV (Op.unary .not ai)) aj fun ak f =>
 xcond ak
 (R (vI 0) f)
 (dX f fun b =>
 qP pG (xNil x0) fun al =>
 qP pG (fA 91 al 0) fun g =>
 qP pG (xNil x0) fun am =>
 qP pG (fA 91 am 7) fun i =>
 qL pG b (blk g) (lA 37 g) fun an =>
 qL pG b (blk i) (lA 3 i) fun ao =>
 qP pG (iA 37 an ao) fun j =>
 qL pG b (blk j) (lA 2 j) fun k =>
 oP E (xNil x0) b fun ap aq =>
 oP E (fA 91 ap 7) aq fun ar au =>
 oP E (lA 3 ar) au fun av aw =>
 oP E (xBin .add 3 (.tmp 40) (.const (vI 1)) av (vI 1)) aw fun ax ay =>
 oP E (xNil x0) ay fun az ba =>
 oP E (fA 91 az 7) ba fun bb bc =>
 oP E (sA 3 bb ax) bc fun _ bd =>
 oP E (xNil x0) bd fun be bf =>
 oP E (fA 91 be 4) bf fun bg bh =>
 oP E (fA 42 bg 3) bh fun bi bj =>
 oP E (lA 39 bi) bj fun bk bl =>
 oP E (xV (Instr.build 95 #[(0, (vB true)), (1, k)])) bl fun bm bn =>
 oP E (xV (Instr.buildSlice 39 1 #[(0, bm)])) bn fun bo bp =>
 oP E (xBuiltin .append #[39, 39] 39 [false, false] [bk, bo]) bp fun bq br =>
 oP E (xNil x0) br fun bs bt =>
 oP E (fA 91 bs 4) bt fun bu bv =>
 oP E (fA 42 bu 3) bv fun bw bz =>
 oP E (sA 39 bw bq) bz fun _ ca =>
 R k ca)))
def d6D : Hint := (sQ (hS (sQ (hC (sQ hN) hN)) (hS (hS (.reg [(0, 128, 1), (1, 256, 128), (2, 512, 256), (4, 1024, 512), (0, 2048, 1), (16, 4096, 2048), (32, 8192, 4096), (64, 16384, 8192), (128, 32768, 16384), (264, 65536, 33792)] [136, 136, 136, 128, 136, 136, 136, 8, 136, 136] (.early 0 (.early 1 (.early 2 (.early 4 (.early 5 (.early 6 (.load 3 (.load 7 (.early 8 (.early 9 .done))))))))))) (hC (sQ (sQ (sQ hN))) hN)) (hS (sQ (hC (sQ hN) hN)) (hS (.reg [(0, 134217728, 1), (1, 268435456, 134217728), (2, 536870912, 268435456), (4, 1073741824, 536870912), (0, 2147483648, 1), (16, 4294967296, 2147483648), (32, 8589934592, 4294967296), (64, 17179869184, 8589934592), (136, 34359738368, 18253611008), (256, 68719476736, 34359738368), (1023, 8, 68719476736)] [648, 648, 648, 640, 648, 648, 648, 520, 648, 136, 648] (.early 0 (.early 1 (.early 2 (.early 4 (.early 5 (.early 6 (.load 3 (.load 7 (.early 8 (.load 9 (.early 10 .done)))))))))))) (sQ (sQ (sQ hN))))))))
theorem d0q {x0 : Value} (h : d3y x0 w R E) : Cv pG 161 #[x0] w R E := okF (h := d6D) Tryz.func161 (by kernel_rfl) (by kernel_rfl) h
end Go.Proofs.YtnhkdkcgdcgmdaaGreatDoor
