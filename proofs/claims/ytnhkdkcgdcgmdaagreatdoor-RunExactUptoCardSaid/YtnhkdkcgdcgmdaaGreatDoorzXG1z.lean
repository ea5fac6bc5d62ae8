/- The second reading of some of the program's functions, printed by gen2.py off the code; each is held against the code by the kernel. -/
import Derived.KernelRfl
import Derived.Test.YtnhkdkcgdcgmdaaGreatDoorzXGz
namespace Go.Proofs.YtnhkdkcgdcgmdaaGreatDoor
open Go.RowKit
set_option maxRecDepth 100000
variable {w : World} {R : RT} {E : Pan}
def c0m (x4 w) (R : RT) (E) :=
 ∀ _τ : Fr, (oP E (lA 111 x4) w fun a b =>
 oP E (xCall (fC 50) [a]) b fun c d =>
 R c d)
def c5b (x1 x4 x6 w) (next3 : NT) (j2 : NT) (_R : RT) (E) :=
 oP E (fA 25 x1 1) w fun c d =>
 oP E (lA 23 c) d fun e f =>
 oP E (xBuiltin .len #[23] 3 [false] [e]) f fun g i =>
 oP E (xBin .lss 3 (.tmp 50) (.tmp 53) x6 g) i fun a j =>
 oP E (gsem (asB a) true (fA 111 x4 0)) j fun k l =>
 oP E (gsem (asB a) true (lA 4 k)) l fun m n =>
 oP E (xPick a m (vB false)) n fun o b =>
 xcond o
 (oP E (fA 25 x1 1) b fun p q =>
 oP E (lA 23 p) q fun r s =>
 oP E (iA 23 r x6) s fun t u =>
 oP E (lA 73 t) u fun v y =>
 oP E (xCall (fC 49) [x4, v]) y fun _t66_55 z =>
 oP E (xBin .add 3 (.tmp 59) (.const (vI 1)) x6 (vI 1)) z fun aa ab =>
 next3 [aa] ab)
 (j2 [] b)
def c0n (x1 x4 w) (R : RT) (E) :=
 ∀ _τ : Fr, (xcut (fun _ a => c0m x4 a R E) fun j2 =>
 xloop [6] [(vI 0)] w fun b c next3 =>
 c5b x1 x4 (b 6) c next3 j2 R E)
def c5c (x1 x4 x5 w) (next4 : NT) (j1 : NT) (_R : RT) (E) :=
 oP E (fA 25 x1 0) w fun d e =>
 oP E (lA 22 d) e fun f g =>
 oP E (xBuiltin .len #[22] 3 [false] [f]) g fun i j =>
 oP E (xBin .lss 3 (.tmp 15) (.tmp 18) x5 i) j fun k c =>
 xcond k
 (oP E (fA 111 x4 0) c fun l m =>
 oP E (lA 4 l) m fun a n =>
 oP E (gsem (asB a) true (fA 25 x1 0)) n fun o p =>
 oP E (gsem (asB a) true (lA 22 o)) p fun q r =>
 oP E (gsem (asB a) true (iA 22 q (gval (asB a) true x5))) r fun s t =>
 oP E (gsem (asB a) true (fA 71 s 1)) t fun u v =>
 oP E (gsem (asB a) true (lA 3 u)) v fun y z =>
 oP E (gsem (asB a) true (xBin .geq 3 (.tmp 30) (.const (vI 0)) y (vI 0))) z fun aa ab =>
 oP E (xPick a aa (vB false)) ab fun b ac =>
 oP E (gsem (asB b) true (fA 25 x1 0)) ac fun ad ae =>
 oP E (gsem (asB b) true (lA 22 ad)) ae fun af ag =>
 oP E (gsem (asB b) true (iA 22 af (gval (asB b) true x5))) ag fun ah ai =>
 oP E (gsem (asB b) true (fA 71 ah 1)) ai fun aj ak =>
 oP E (gsem (asB b) true (lA 3 aj)) ak fun al am =>
 oP E (gsem (asB b) true (xBin .leq 3 (.tmp 39) (.const (vI 2147483647)) al (vI 2147483647))) am fun an ao =>
 oP E (xPick b an (vB false)) ao fun ap aq =>
 oP E (fA 111 x4 0) aq fun ar au =>
 oP E (sA 4 ar ap) au fun _ av =>
 oP E (fA 25 x1 0) av fun aw ax =>
 oP E (lA 22 aw) ax fun ay az =>
 oP E (iA 22 ay x5) az fun ba bb =>
 oP E (fA 71 ba 0) bb fun bc bd =>
 oP E (lA 9 bc) bd fun be bf =>
 oP E (xCall (fC 48) [x4, be, (vB true)]) bf fun _t49_117 bg =>
 oP E (xBin .add 3 (.tmp 20) (.const (vI 1)) x5 (vI 1)) bg fun bh bi =>
 next4 [bh] bi)
 (j1 [] c)
def F27 (x0 w) (R : RT) (E) :=
 oP E (xV (Instr.box 25 x0)) w fun a e =>
 oP E (lA 25 a) e fun f g =>
 oP E (xCall (fC 47) [f]) g fun i j =>
 oP E (xV (Instr.alloc 108 true (.tuple #[]))) j fun b k =>
 oP E (sA 108 b i) k fun _ l =>
 oP E (fA 108 b 2) l fun m n =>
 oP E (lA 3 m) n fun o p =>
 oP E (xBin .neq 3 (.tmp 10) (.const (vI 0)) o (vI 0)) p fun q d =>
 xcond q
 (oP E (fA 108 b 2) d fun r s =>
 oP E (lA 3 r) s fun t u =>
 R t u)
 (oP E (xV (Instr.build 111 #[(0, (vB true)), (1, (vB true))])) d fun v y =>
 oP E (xV (Instr.alloc 111 true (.tuple #[]))) y fun c z =>
 oP E (sA 111 c v) z fun _ aa =>
 xcut (fun _ ab => c0n a c ab R E) fun j1 =>
 xloop [5] [(vI 0)] aa fun ac ad next4 =>
 c5c a c (ac 5) ad next4 j1 R E)
def h27 : Hint := (sQ (sQ (hS (sQ (hC (sQ hN) hN)) (sQ (hU [] (sQ (hB (hL [5] (hS (sQ (hC hN hN)) (hS (hB (sQ hN)) hN))))) (hU [] (sQ (hB (hL [6] (hS (sQ (hC hN hN)) (hS (hB hN) hN))))) (sQ hN)))))))
theorem d1V {x0 : Value} (h : F27 x0 w R E) : Cv pG 27 #[x0] w R E := okF (h := h27) Tryz.func27 (by kernel_rfl) (by kernel_rfl) h
def F48 (x0 x1 x2 w) (R : RT) (E) :=
 oP E (xV (Op.unary .not x2)) w fun d c =>
 xcond d
 (oP E (xNil x0) c fun e f =>
 oP E (fA 111 e 0) f fun g i =>
 oP E (lA 4 g) i fun a j =>
 oP E (gsem (asB a) true (xBin .eql 9 (.tmp 14) (.const (eS)) (gval (asB a) true x1) (eS))) j fun k l =>
 oP E (xPick a k (vB false)) l fun m n =>
 oP E (xNil x0) n fun o p =>
 oP E (fA 111 o 0) p fun q r =>
 oP E (sA 4 q m) r fun _ s =>
 R (Value.tuple #[]) s)
 (oP E (xNil x0) c fun t u =>
 oP E (fA 111 t 1) u fun v y =>
 oP E (lA 4 v) y fun b z =>
 oP E (gsem (asB b) true (xCall (fC 86) [(gval (asB b) true x1)])) z fun aa ab =>
 oP E (xPick b aa (vB false)) ab fun ac ad =>
 oP E (xNil x0) ad fun ae af =>
 oP E (fA 111 ae 1) af fun ag ah =>
 oP E (sA 4 ag ac) ah fun _ ai =>
 R (Value.tuple #[]) ai)
def h48 : Hint := (hS (sQ (hC (sQ hN) hN)) hN)
theorem d1W {x0 x1 x2 : Value} (h : F48 x0 x1 x2 w R E) : Cv pG 48 #[x0, x1, x2] w R E := okF (h := h48) Tryz.func48 (by kernel_rfl) (by kernel_rfl) h
def c5d (x0 x3 x9 w) (next5 : NT) (R : RT) (E) :=
 oP E (fA 73 x3 5) w fun c d =>
 oP E (lA 23 c) d fun e f =>
 oP E (xBuiltin .len #[23] 3 [false] [e]) f fun g i =>
 oP E (xBin .lss 3 (.tmp 146) (.tmp 149) x9 g) i fun a j =>
 oP E (gsem (asB a) true (xNil (gval (asB a) true x0))) j fun k l =>
 oP E (gsem (asB a) true (fA 111 k 0)) l fun m n =>
 oP E (gsem (asB a) true (lA 4 m)) n fun o p =>
 oP E (xPick a o (vB false)) p fun q b =>
 xcond q
 (oP E (fA 73 x3 5) b fun r s =>
 oP E (lA 23 r) s fun t u =>
 oP E (iA 23 t x9) u fun v y =>
 oP E (lA 73 v) y fun z aa =>
 oP E (xCall (fC 49) [x0, z]) aa fun _t165_123 ab =>
 oP E (xBin .add 3 (.tmp 157) (.const (vI 1)) x9 (vI 1)) ab fun ac ad =>
 next5 [ac] ad)
 (R (Value.tuple #[]) b)
def c0o (x0 x3 w) (R : RT) (E) :=
 ∀ _τ : Fr, (xloop [9] [(vI 0)] w fun a b next5 =>
 c5d x0 x3 (a 9) b next5 R E)
def c5e (x0 x3 x8 w) (next6 : NT) (j4 : NT) (_R : RT) (E) :=
 oP E (fA 73 x3 4) w fun c d =>
 oP E (lA 23 c) d fun e f =>
 oP E (xBuiltin .len #[23] 3 [false] [e]) f fun g i =>
 oP E (xBin .lss 3 (.tmp 126) (.tmp 129) x8 g) i fun a j =>
 oP E (gsem (asB a) true (xNil (gval (asB a) true x0))) j fun k l =>
 oP E (gsem (asB a) true (fA 111 k 0)) l fun m n =>
 oP E (gsem (asB a) true (lA 4 m)) n fun o p =>
 oP E (xPick a o (vB false)) p fun q b =>
 xcond q
 (oP E (fA 73 x3 4) b fun r s =>
 oP E (lA 23 r) s fun t u =>
 oP E (iA 23 t x8) u fun v y =>
 oP E (lA 73 v) y fun z aa =>
 oP E (xCall (fC 49) [x0, z]) aa fun _t145_155 ab =>
 oP E (xBin .add 3 (.tmp 137) (.const (vI 1)) x8 (vI 1)) ab fun ac ad =>
 next6 [ac] ad)
 (j4 [] b)
def c0p (x0 x3 w) (R : RT) (E) :=
 ∀ _τ : Fr, (xcut (fun _ a => c0o x0 x3 a R E) fun j4 =>
 xloop [8] [(vI 0)] w fun b c next6 =>
 c5e x0 x3 (b 8) c next6 j4 R E)
def c5f (x0 x3 x7 w) (next7 : NT) (j3 : NT) (_R : RT) (E) :=
 oP E (fA 73 x3 2) w fun c d =>
 oP E (lA 51 c) d fun e f =>
 oP E (xBuiltin .len #[51] 3 [false] [e]) f fun g i =>
 oP E (xBin .lss 3 (.tmp 106) (.tmp 109) x7 g) i fun a j =>
 oP E (gsem (asB a) true (xNil (gval (asB a) true x0))) j fun k l =>
 oP E (gsem (asB a) true (fA 111 k 0)) l fun m n =>
 oP E (gsem (asB a) true (lA 4 m)) n fun o p =>
 oP E (xPick a o (vB false)) p fun q b =>
 xcond q
 (oP E (fA 73 x3 2) b fun r s =>
 oP E (lA 51 r) s fun t u =>
 oP E (iA 51 t x7) u fun v y =>
 oP E (lA 53 v) y fun z aa =>
 oP E (xCall (fC 88) [x0, z]) aa fun _t125_187 ab =>
 oP E (xBin .add 3 (.tmp 117) (.const (vI 1)) x7 (vI 1)) ab fun ac ad =>
 next7 [ac] ad)
 (j3 [] b)
def c0q (x0 x3 w) (R : RT) (E) :=
 ∀ _τ : Fr, (xcut (fun _ a => c0p x0 x3 a R E) fun j3 =>
 xloop [7] [(vI 0)] w fun b c next7 =>
 c5f x0 x3 (b 7) c next7 j3 R E)
def c5g (x0 x3 x6 w) (next8 : NT) (j2 : NT) (_R : RT) (E) :=
 oP E (fA 73 x3 3) w fun c d =>
 oP E (lA 57 c) d fun e f =>
 oP E (xBuiltin .len #[57] 3 [false] [e]) f fun g i =>
 oP E (xBin .lss 3 (.tmp 86) (.tmp 89) x6 g) i fun a j =>
 oP E (gsem (asB a) true (xNil (gval (asB a) true x0))) j fun k l =>
 oP E (gsem (asB a) true (fA 111 k 0)) l fun m n =>
 oP E (gsem (asB a) true (lA 4 m)) n fun o p =>
 oP E (xPick a o (vB false)) p fun q b =>
 xcond q
 (oP E (fA 73 x3 3) b fun r s =>
 oP E (lA 57 r) s fun t u =>
 oP E (iA 57 t x6) u fun v y =>
 oP E (lA 59 v) y fun z aa =>
 oP E (xCall (fC 87) [x0, z]) aa fun _t105_219 ab =>
 oP E (xBin .add 3 (.tmp 97) (.const (vI 1)) x6 (vI 1)) ab fun ac ad =>
 next8 [ac] ad)
 (j2 [] b)
def c0r (x0 x3 x4 x5 w) (R : RT) (E) :=
 ∀ _τ : Fr, (oP E (fA 73 x3 1) w fun j k =>
 oP E (lA 9 j) k fun l m =>
 oP E (fA 73 x3 0) m fun n o =>
 oP E (lA 3 n) o fun p q =>
 oP E (xBin .eql 3 (.tmp 30) (.const (vI 1)) p (vI 1)) q fun e r =>
 oP E (gsem (asB e) false (fA 73 x3 0)) r fun s t =>
 oP E (gsem (asB e) false (lA 3 s)) t fun u v =>
 oP E (gsem (asB e) false (xBin .eql 3 (.tmp 34) (.const (vI 2)) u (vI 2))) v fun y z =>
 oP E (xPick e (vB true) y) z fun aa ab =>
 oP E (xCall (fC 48) [x0, l, aa]) ab fun _t37_21 ac =>
 oP E (xNil x0) ac fun ad ae =>
 oP E (fA 111 ad 0) ae fun af ag =>
 oP E (lA 4 af) ag fun c ah =>
 oP E (gsem (asB c) true (fA 73 x3 2)) ah fun ai aj =>
 oP E (gsem (asB c) true (lA 51 ai)) aj fun ak al =>
 oP E (gsem (asB c) true (xBuiltin .len #[51] 3 [false] [ak])) al fun am an =>
 oP E (gsem (asB c) true (xBin .eql 3 (.tmp 46) (.tmp 47) am (gval (asB c) true x4))) an fun ao ap =>
 oP E (xPick c ao (vB false)) ap fun d aq =>
 oP E (gsem (asB d) true (fA 73 x3 3)) aq fun ar au =>
 oP E (gsem (asB d) true (lA 57 ar)) au fun av aw =>
 oP E (gsem (asB d) true (xBuiltin .len #[57] 3 [false] [av])) aw fun ax ay =>
 oP E (gsem (asB d) true (xBin .eql 3 (.tmp 53) (.tmp 54) ax (gval (asB d) true x5))) ay fun az ba =>
 oP E (xPick d az (vB false)) ba fun a bb =>
 oP E (gsem (asB a) true (fA 73 x3 4)) bb fun bc bd =>
 oP E (gsem (asB a) true (lA 23 bc)) bd fun be bf =>
 oP E (gsem (asB a) true (xBuiltin .len #[23] 3 [false] [be])) bf fun bg bh =>
 oP E (gsem (asB a) true (xBin .eql 3 (.tmp 60) (.const (vI 0)) bg (vI 0))) bh fun f bi =>
 oP E (gsem (asB (gval (asB a) true f)) false (fA 73 x3 0)) bi fun bj bk =>
 oP E (gsem (asB (gval (asB a) true f)) false (lA 3 bj)) bk fun bl bm =>
 oP E (gsem (asB (gval (asB a) true f)) false (xBin .eql 3 (.tmp 64) (.const (vI 3)) bl (vI 3))) bm fun bn bo =>
 oP E (gsem (asB a) true (xPick (gval (asB a) true f) (vB true) bn)) bo fun g bp =>
 oP E (gsem (asB (gval (asB a) true g)) false (fA 73 x3 0)) bp fun bq br =>
 oP E (gsem (asB (gval (asB a) true g)) false (lA 3 bq)) br fun bs bt =>
 oP E (gsem (asB (gval (asB a) true g)) false (xBin .eql 3 (.tmp 69) (.const (vI 4)) bs (vI 4))) bt fun bu bv =>
 oP E (gsem (asB a) true (xPick (gval (asB a) true g) (vB true) bu)) bv fun bw bz =>
 oP E (xPick a bw (vB false)) bz fun b ca =>
 oP E (gsem (asB b) true (fA 73 x3 5)) ca fun cb cc =>
 oP E (gsem (asB b) true (lA 23 cb)) cc fun cd ce =>
 oP E (gsem (asB b) true (xBuiltin .len #[23] 3 [false] [cd])) ce fun cf cg =>
 oP E (gsem (asB b) true (xBin .eql 3 (.tmp 76) (.const (vI 0)) cf (vI 0))) cg fun i ch =>
 oP E (gsem (asB (gval (asB b) true i)) false (fA 73 x3 0)) ch fun ci cj =>
 oP E (gsem (asB (gval (asB b) true i)) false (lA 3 ci)) cj fun ck cl =>
 oP E (gsem (asB (gval (asB b) true i)) false (xBin .eql 3 (.tmp 80) (.const (vI 3)) ck (vI 3))) cl fun cm cn =>
 oP E (gsem (asB b) true (xPick (gval (asB b) true i) (vB true) cm)) cn fun co cp =>
 oP E (xPick b co (vB false)) cp fun cq cr =>
 oP E (xNil x0) cr fun cs ct =>
 oP E (fA 111 cs 0) ct fun cu cv =>
 oP E (sA 4 cu cq) cv fun _ cw =>
 xcut (fun _ cx => c0q x0 x3 cx R E) fun j2 =>
 xloop [6] [(vI 0)] cw fun cy cz next8 =>
 c5g x0 x3 (cy 6) cz next8 j2 R E)
def c0s (x0 _x3 x4 x5 x11 x19 : Value) (w) (j1 : NT) (_R : RT) (E) :=
 ∀ _τ : Fr, (xcond x19
 (j1 [x4, (vI 1)] w)
 (oP E (xBin .eql 3 (.tmp 11) (.const (vI 7)) x11 (vI 7)) w fun b a =>
 xcond b
 (j1 [x4, x5] a)
 (oP E (xNil x0) a fun c d =>
 oP E (fA 111 c 0) d fun e f =>
 oP E (sA 4 e (vB false)) f fun _ g =>
 j1 [x4, x5] g)))
def F49 (x0 x1 w) (R : RT) (E) :=
 oP E (xV (Instr.box 73 x1)) w fun b m =>
 xcut (fun c n => c0r x0 b (nth c 0) (nth c.tail 0) n R E) fun j1 =>
 oP E (fA 73 b 0) m fun o p =>
 oP E (lA 3 o) p fun a q =>
 oP E (xBin .eql 3 (.tmp 11) (.const (vI 1)) a (vI 1)) q fun r d =>
 xcond r
 (j1 [(vI 1), (vI 0)] d)
 (oP E (xBin .eql 3 (.tmp 11) (.const (vI 2)) a (vI 2)) d fun s e =>
 xcond s
 (j1 [(vI 2), (vI 0)] e)
 (xcut (fun t u => c0s x0 b (vI 0) (vI 0) a (nth t 0) u j1 R E) fun j9 =>
 oP E (xBin .eql 3 (.tmp 11) (.const (vI 3)) a (vI 3)) e fun f g =>
 xcond f
 (j9 [f] g)
 (oP E (xBin .eql 3 (.tmp 11) (.const (vI 4)) a (vI 4)) g fun i j =>
 xcond i
 (j9 [i] j)
 (oP E (xBin .eql 3 (.tmp 11) (.const (vI 5)) a (vI 5)) j fun k l =>
 xcond k
 (j9 [k] l)
 (oP E (xBin .eql 3 (.tmp 11) (.const (vI 6)) a (vI 6)) l fun v y =>
 j9 [v] y)))))
def h49 : Hint := (sQ (sQ (hU [4, 5] (sQ (hB (sQ (hC hN (sQ (hC hN (hU [19] (sQ (hC hN (sQ (hC hN (sQ (hC hN hN)))))) (hC hN (sQ (hC hN hN)))))))))) (sQ (sQ (hU [] (sQ (hB (hL [6] (hS (sQ (hC hN hN)) (hS (hB hN) hN))))) (hU [] (sQ (hB (hL [7] (hS (sQ (hC hN hN)) (hS (hB hN) hN))))) (hU [] (sQ (hB (hL [8] (hS (sQ (hC hN hN)) (hS (hB hN) hN))))) (sQ (hB (hL [9] (hS (sQ (hC hN hN)) (hS (hB hN) hN)))))))))))))
theorem d1X {x0 x1 : Value} (h : F49 x0 x1 w R E) : Cv pG 49 #[x0, x1] w R E := okF (h := h49) Tryz.func49 (by kernel_rfl) (by kernel_rfl) h
def F50 (x0 w) (R : RT) (E) :=
 oP E (xV (Instr.box 111 x0)) w fun a d =>
 oP E (fA 111 a 0) d fun e f =>
 oP E (lA 4 e) f fun g i =>
 oP E (xV (Op.unary .not g)) i fun j b =>
 xcond j
 (R (vI 30) b)
 (oP E (fA 111 a 1) b fun k l =>
 oP E (lA 4 k) l fun m n =>
 oP E (xV (Op.unary .not m)) n fun o c =>
 xcond o
 (R (vI 31) c)
 (R (vI 0) c))
def h50 : Hint := (sQ (hS (sQ (hC (sQ hN) hN)) (hS (sQ (hC (sQ hN) hN)) (sQ hN))))
theorem d1Y {x0 : Value} (h : F50 x0 w R E) : Cv pG 50 #[x0] w R E := okF (h := h50) Tryz.func50 (by kernel_rfl) (by kernel_rfl) h
def c0t (x3 w) (R : RT) (E) :=
 ∀ _τ : Fr, (oP E (xBin .leq 3 (.tmp 52) (.const (vI 32)) x3 (vI 32)) w fun a b =>
 R a b)
def c5h (x0 x3 x4 w) (next2 : NT) (j1 : NT) (R : RT) (E) :=
 oP E (xBuiltin .len #[9] 3 [false] [x0]) w fun i j =>
 oP E (xBin .lss 3 (.tmp 20) (.tmp 22) x4 i) j fun k e =>
 xcond k
 (oP E (xCall (fC 123) [x0, x4]) e fun c l =>
 oP E (eX c 0) l fun m n =>
 oP E (eX c 1) n fun o p =>
 oP E (eX c 2) p fun q r =>
 oP E (xCall (fC 124) [m]) r fun f s =>
 oP E (xV (Op.unary .not q)) s fun a t =>
 oP E (gsem (asB a) false (xBin .neq 3 (.tmp 36) (.const (vI 3)) (gval (asB a) false f) (vI 3))) t fun b u =>
 oP E (gsem (asB (gval (asB a) false b)) true (xBin .neq 3 (.tmp 39) (.const (vI 4)) (gval (asB (gval (asB a) false b)) true f) (vI 4))) u fun d v =>
 oP E (gsem (asB (gval (asB (gval (asB a) false b)) true d)) false (xBin .eql 3 (.tmp 42) (.const (vI 0)) (gval (asB (gval (asB (gval (asB a) false b)) true d)) false x3) (vI 0))) v fun y z =>
 oP E (gsem (asB (gval (asB a) false b)) true (xPick (gval (asB (gval (asB a) false b)) true d) (vB true) y)) z fun aa ab =>
 oP E (gsem (asB a) false (xPick (gval (asB a) false b) aa (vB false))) ab fun ac ad =>
 oP E (xPick a (vB true) ac) ad fun ae g =>
 xcond ae
 (R (vB false) g)
 (oP E (xBin .add 3 (.tmp 47) (.const (vI 1)) x3 (vI 1)) g fun af ag =>
 oP E (xBin .add 3 (.tmp 49) (.tmp 50) x4 o) ag fun ah ai =>
 next2 [af, ah] ai))
 (j1 [x3] e)
def F86 (x0 w) (R : RT) (E) :=
 oP E (xBin .eql 9 (.tmp 9) (.const (eS)) x0 (eS)) w fun a e =>
 oP E (gsem (asB a) false (xBuiltin .len #[9] 3 [false] [(gval (asB a) false x0)])) e fun f g =>
 oP E (gsem (asB a) false (xBin .gtr 3 (.tmp 13) (.const (vI 128)) f (vI 128))) g fun i j =>
 oP E (xPick a (vB true) i) j fun b k =>
 oP E (gsem (asB b) false (xCall (fC 122) [(gval (asB b) false x0)])) k fun l m =>
 oP E (xPick b (vB true) l) m fun n c =>
 xcond n
 (R (vB false) c)
 (xcut (fun o p => c0t (nth o 0) p R E) fun j1 =>
 xloop [3, 4] [(vI 0), (vI 0)] c fun d q next2 =>
 c5h x0 (d 3) (d 4) q next2 j1 R E)
def h86 : Hint := (sQ (hS (sQ (hC (sQ hN) hN)) (sQ (hU [3] (sQ (hB (hL [3, 4] (hS (sQ (hC hN hN)) (hB (sQ (sQ (hS (sQ (hC (sQ hN) hN)) (sQ hN))))))))) (sQ hN)))))
theorem d1Z {x0 : Value} (h : F86 x0 w R E) : Cv pG 86 #[x0] w R E := okF (h := h86) Tryz.func86 (by kernel_rfl) (by kernel_rfl) h
def c5i (x0 x3 x8 w) (next4 : NT) (R : RT) (E) :=
 oP E (fA 59 x3 3) w fun c d =>
 oP E (lA 57 c) d fun e f =>
 oP E (xBuiltin .len #[57] 3 [false] [e]) f fun g i =>
 oP E (xBin .lss 3 (.tmp 82) (.tmp 85) x8 g) i fun a j =>
 oP E (gsem (asB a) true (xNil (gval (asB a) true x0))) j fun k l =>
 oP E (gsem (asB a) true (fA 111 k 0)) l fun m n =>
 oP E (gsem (asB a) true (lA 4 m)) n fun o p =>
 oP E (xPick a o (vB false)) p fun q b =>
 xcond q
 (oP E (fA 59 x3 3) b fun r s =>
 oP E (lA 57 r) s fun t u =>
 oP E (iA 57 t x8) u fun v y =>
 oP E (lA 59 v) y fun z aa =>
 oP E (xCall (fC 87) [x0, z]) aa fun _t101_67 ab =>
 oP E (xBin .add 3 (.tmp 93) (.const (vI 1)) x8 (vI 1)) ab fun ac ad =>
 next4 [ac] ad)
 (R (Value.tuple #[]) b)
def c0u (x0 x3 w) (R : RT) (E) :=
 ∀ _τ : Fr, (xloop [8] [(vI 0)] w fun a b next4 =>
 c5i x0 x3 (a 8) b next4 R E)
def c5j (x0 x3 x7 w) (next5 : NT) (j3 : NT) (_R : RT) (E) :=
 oP E (fA 59 x3 2) w fun c d =>
 oP E (lA 51 c) d fun e f =>
 oP E (xBuiltin .len #[51] 3 [false] [e]) f fun g i =>
 oP E (xBin .lss 3 (.tmp 62) (.tmp 65) x7 g) i fun a j =>
 oP E (gsem (asB a) true (xNil (gval (asB a) true x0))) j fun k l =>
 oP E (gsem (asB a) true (fA 111 k 0)) l fun m n =>
 oP E (gsem (asB a) true (lA 4 m)) n fun o p =>
 oP E (xPick a o (vB false)) p fun q b =>
 xcond q
 (oP E (fA 59 x3 2) b fun r s =>
 oP E (lA 51 r) s fun t u =>
 oP E (iA 51 t x7) u fun v y =>
 oP E (lA 53 v) y fun z aa =>
 oP E (xCall (fC 88) [x0, z]) aa fun _t81_99 ab =>
 oP E (xBin .add 3 (.tmp 73) (.const (vI 1)) x7 (vI 1)) ab fun ac ad =>
 next5 [ac] ad)
 (j3 [] b)
def c0v (x0 x3 x4 x5 x6 w) (R : RT) (E) :=
 ∀ _τ : Fr, (oP E (xNil x0) w fun d e =>
 oP E (fA 111 d 0) e fun f g =>
 oP E (lA 4 f) g fun c i =>
 oP E (xPick c (gval (asB c) true x6) (vB false)) i fun a j =>
 oP E (gsem (asB a) true (fA 59 x3 2)) j fun k l =>
 oP E (gsem (asB a) true (lA 51 k)) l fun m n =>
 oP E (gsem (asB a) true (xBuiltin .len #[51] 3 [false] [m])) n fun o p =>
 oP E (gsem (asB a) true (xBin .eql 3 (.tmp 49) (.tmp 50) o (gval (asB a) true x4))) p fun q r =>
 oP E (xPick a q (vB false)) r fun b s =>
 oP E (gsem (asB b) true (fA 59 x3 3)) s fun t u =>
 oP E (gsem (asB b) true (lA 57 t)) u fun v y =>
 oP E (gsem (asB b) true (xBuiltin .len #[57] 3 [false] [v])) y fun z aa =>
 oP E (gsem (asB b) true (xBin .eql 3 (.tmp 56) (.tmp 57) z (gval (asB b) true x5))) aa fun ab ac =>
 oP E (xPick b ab (vB false)) ac fun ad ae =>
 oP E (xNil x0) ae fun af ag =>
 oP E (fA 111 af 0) ag fun ah ai =>
 oP E (sA 4 ah ad) ai fun _ aj =>
 xcut (fun _ ak => c0u x0 x3 ak R E) fun j3 =>
 xloop [7] [(vI 0)] aj fun al am next5 =>
 c5j x0 x3 (al 7) am next5 j3 R E)
def c0w (x0 x3 x4 x5 w) (R : RT) (E) :=
 ∀ _τ : Fr, (oP E (fA 59 x3 1) w fun c d =>
 oP E (lA 3 c) d fun e f =>
 oP E (xBin .eql 3 (.tmp 25) (.const (vI 0)) e (vI 0)) f fun g i =>
 xcut (fun j k => c0v x0 x3 x4 x5 (nth j 0) k R E) fun j2 =>
 oP E (fA 59 x3 0) i fun l m =>
 oP E (lA 3 l) m fun n o =>
 oP E (xBin .eql 3 (.tmp 28) (.const (vI 3)) n (vI 3)) o fun p b =>
 xcond p
 (oP E (fA 59 x3 1) b fun q r =>
 oP E (lA 3 q) r fun s t =>
 oP E (xBin .geq 3 (.tmp 31) (.const (vI 1)) s (vI 1)) t fun a u =>
 oP E (gsem (asB a) true (fA 59 x3 1)) u fun v y =>
 oP E (gsem (asB a) true (lA 3 v)) y fun z aa =>
 oP E (gsem (asB a) true (xBin .leq 3 (.tmp 35) (.const (vI 6)) z (vI 6))) aa fun ab ac =>
 oP E (xPick a ab (vB false)) ac fun ad ae =>
 j2 [ad] ae)
 (j2 [g] b))
def c0x (x0 _x3 x4 x5 x21 : Value) (w) (j1 : NT) (_R : RT) (E) :=
 ∀ _τ : Fr, (xcond x21
 (j1 [x4, (vI 2)] w)
 (oP E (xNil x0) w fun a b =>
 oP E (fA 111 a 0) b fun c d =>
 oP E (sA 4 c (vB false)) d fun _ e =>
 j1 [x4, x5] e))
def c0y (x0 x3 x4 x5 x10 x14 w) (j1 : NT) (R : RT) (E) :=
 ∀ _τ : Fr, (xcond x14
 (j1 [x4, x5] w)
 (oP E (xBin .eql 3 (.tmp 10) (.const (vI 3)) x10 (vI 3)) w fun e a =>
 xcond e
 (j1 [(vI 2), x5] a)
 (oP E (xBin .eql 3 (.tmp 10) (.const (vI 4)) x10 (vI 4)) a fun f b =>
 xcond f
 (j1 [x4, (vI 1)] b)
 (xcut (fun g i => c0x x0 x3 x4 x5 (nth g 0) i j1 R E) fun j7 =>
 oP E (xBin .eql 3 (.tmp 10) (.const (vI 5)) x10 (vI 5)) b fun c d =>
 xcond c
 (j7 [c] d)
 (oP E (xBin .eql 3 (.tmp 10) (.const (vI 6)) x10 (vI 6)) d fun j k =>
 j7 [j] k)))))
def F87 (x0 x1 w) (R : RT) (E) :=
 oP E (xV (Instr.box 59 x1)) w fun a f =>
 xcut (fun c g => c0w x0 a (nth c 0) (nth c.tail 0) g R E) fun j1 =>
 oP E (fA 59 a 0) f fun i j =>
 oP E (lA 3 i) j fun b k =>
 xcut (fun l m => c0y x0 a (vI 0) (vI 0) b (nth l 0) m j1 R E) fun j6 =>
 oP E (xBin .eql 3 (.tmp 10) (.const (vI 1)) b (vI 1)) k fun d e =>
 xcond d
 (j6 [d] e)
 (oP E (xBin .eql 3 (.tmp 10) (.const (vI 2)) b (vI 2)) e fun n o =>
 j6 [n] o)
def h87 : Hint := (sQ (sQ (hU [4, 5] (sQ (hB (hU [14] (sQ (hC hN hN)) (hC hN (sQ (hC hN (sQ (hC hN (hU [21] (sQ (hC hN hN)) (hC hN hN)))))))))) (sQ (hU [6] (sQ (hC hN hN)) (sQ (hU [] (sQ (hB (hL [7] (hS (sQ (hC hN hN)) (hS (hB hN) hN))))) (sQ (hB (hL [8] (hS (sQ (hC hN hN)) (hS (hB hN) hN))))))))))))
theorem d2a {x0 x1 : Value} (h : F87 x0 x1 w R E) : Cv pG 87 #[x0, x1] w R E := okF (h := h87) Tryz.func87 (by kernel_rfl) (by kernel_rfl) h
def c5k (x0 x3 x5 w) (next2 : NT) (R : RT) (E) :=
 oP E (fA 53 x3 3) w fun c d =>
 oP E (lA 51 c) d fun e f =>
 oP E (xBuiltin .len #[51] 3 [false] [e]) f fun g i =>
 oP E (xBin .lss 3 (.tmp 65) (.tmp 68) x5 g) i fun a j =>
 oP E (gsem (asB a) true (xNil (gval (asB a) true x0))) j fun k l =>
 oP E (gsem (asB a) true (fA 111 k 0)) l fun m n =>
 oP E (gsem (asB a) true (lA 4 m)) n fun o p =>
 oP E (xPick a o (vB false)) p fun q b =>
 xcond q
 (oP E (fA 53 x3 3) b fun r s =>
 oP E (lA 51 r) s fun t u =>
 oP E (iA 51 t x5) u fun v y =>
 oP E (lA 53 v) y fun z aa =>
 oP E (xCall (fC 88) [x0, z]) aa fun _t84_93 ab =>
 oP E (xBin .add 3 (.tmp 76) (.const (vI 1)) x5 (vI 1)) ab fun ac ad =>
 next2 [ac] ad)
 (R (Value.tuple #[]) b)
def c0z (x0 x3 x4 w) (R : RT) (E) :=
 ∀ _τ : Fr, (oP E (fA 53 x3 2) w fun f g =>
 oP E (lA 9 f) g fun i j =>
 oP E (fA 53 x3 0) j fun k l =>
 oP E (lA 3 k) l fun m n =>
 oP E (xBin .eql 3 (.tmp 28) (.const (vI 2)) m (vI 2)) n fun d o =>
 oP E (gsem (asB d) false (fA 53 x3 0)) o fun p q =>
 oP E (gsem (asB d) false (lA 3 p)) q fun r s =>
 oP E (gsem (asB d) false (xBin .eql 3 (.tmp 32) (.const (vI 4)) r (vI 4))) s fun t u =>
 oP E (xPick d (vB true) t) u fun v y =>
 oP E (xCall (fC 48) [x0, i, v]) y fun _t35_21 z =>
 oP E (xNil x0) z fun aa ab =>
 oP E (fA 111 aa 0) ab fun ac ad =>
 oP E (lA 4 ac) ad fun c ae =>
 oP E (gsem (asB c) true (fA 53 x3 3)) ae fun af ag =>
 oP E (gsem (asB c) true (lA 51 af)) ag fun ah ai =>
 oP E (gsem (asB c) true (xBuiltin .len #[51] 3 [false] [ah])) ai fun aj ak =>
 oP E (gsem (asB c) true (xBin .eql 3 (.tmp 44) (.tmp 45) aj (gval (asB c) true x4))) ak fun al am =>
 oP E (xPick c al (vB false)) am fun a an =>
 oP E (gsem (asB a) true (fA 53 x3 1)) an fun ao ap =>
 oP E (gsem (asB a) true (lA 2 ao)) ap fun aq ar =>
 oP E (gsem (asB a) true (xBin .eql 2 (.tmp 50) (.const (vI 0)) aq (vI 0))) ar fun b au =>
 oP E (gsem (asB (gval (asB a) true b)) false (fA 53 x3 0)) au fun av aw =>
 oP E (gsem (asB (gval (asB a) true b)) false (lA 3 av)) aw fun ax ay =>
 oP E (gsem (asB (gval (asB a) true b)) false (xBin .eql 3 (.tmp 54) (.const (vI 1)) ax (vI 1))) ay fun e az =>
 oP E (gsem (asB (gval (asB (gval (asB a) true b)) false e)) true (fA 53 x3 1)) az fun ba bb =>
 oP E (gsem (asB (gval (asB (gval (asB a) true b)) false e)) true (lA 2 ba)) bb fun bc bd =>
 oP E (gsem (asB (gval (asB (gval (asB a) true b)) false e)) true (xBin .gtr 2 (.tmp 58) (.const (vI 0)) bc (vI 0))) bd fun be bf =>
 oP E (gsem (asB (gval (asB a) true b)) false (xPick (gval (asB (gval (asB a) true b)) false e) be (vB false))) bf fun bg bh =>
 oP E (gsem (asB a) true (xPick (gval (asB a) true b) (vB true) bg)) bh fun bi bj =>
 oP E (xPick a bi (vB false)) bj fun bk bl =>
 oP E (xNil x0) bl fun bm bn =>
 oP E (fA 111 bm 0) bn fun bo bp =>
 oP E (sA 4 bo bk) bp fun _ bq =>
 xloop [5] [(vI 0)] bq fun br bs next2 =>
 c5k x0 x3 (br 5) bs next2 R E)
def c0A (x0 _x3 x4 x18 : Value) (w) (j1 : NT) (_R : RT) (E) :=
 ∀ _τ : Fr, (xcond x18
 (j1 [(vI 2)] w)
 (oP E (xNil x0) w fun a b =>
 oP E (fA 111 a 0) b fun c d =>
 oP E (sA 4 c (vB false)) d fun _ e =>
 j1 [x4] e))
def c0B (x0 x3 x4 x7 x15 w) (j1 : NT) (R : RT) (E) :=
 ∀ _τ : Fr, (xcond x15
 (j1 [(vI 1)] w)
 (xcut (fun j k => c0A x0 x3 x4 (nth j 0) k j1 R E) fun j5 =>
 oP E (xBin .eql 3 (.tmp 7) (.const (vI 6)) x7 (vI 6)) w fun a b =>
 xcond a
 (j5 [a] b)
 (oP E (xBin .eql 3 (.tmp 7) (.const (vI 7)) x7 (vI 7)) b fun c d =>
 xcond c
 (j5 [c] d)
 (oP E (xBin .eql 3 (.tmp 7) (.const (vI 8)) x7 (vI 8)) d fun e f =>
 xcond e
 (j5 [e] f)
 (oP E (xBin .eql 3 (.tmp 7) (.const (vI 9)) x7 (vI 9)) f fun g i =>
 xcond g
 (j5 [g] i)
 (oP E (xBin .eql 3 (.tmp 7) (.const (vI 10)) x7 (vI 10)) i fun l m =>
 j5 [l] m))))))
def c0C (x0 x3 x4 x7 x11 w) (j1 : NT) (R : RT) (E) :=
 ∀ _τ : Fr, (xcond x11
 (j1 [x4] w)
 (xcut (fun c d => c0B x0 x3 x4 x7 (nth c 0) d j1 R E) fun j4 =>
 oP E (xBin .eql 3 (.tmp 7) (.const (vI 4)) x7 (vI 4)) w fun a b =>
 xcond a
 (j4 [a] b)
 (oP E (xBin .eql 3 (.tmp 7) (.const (vI 5)) x7 (vI 5)) b fun e f =>
 j4 [e] f)))
def F88 (x0 x1 w) (R : RT) (E) :=
 oP E (xV (Instr.box 53 x1)) w fun b g =>
 xcut (fun i j => c0z x0 b (nth i 0) j R E) fun j1 =>
 oP E (fA 53 b 0) g fun k l =>
 oP E (lA 3 k) l fun a m =>
 xcut (fun n o => c0C x0 b (vI 0) a (nth n 0) o j1 R E) fun j3 =>
 oP E (xBin .eql 3 (.tmp 7) (.const (vI 1)) a (vI 1)) m fun c d =>
 xcond c
 (j3 [c] d)
 (oP E (xBin .eql 3 (.tmp 7) (.const (vI 2)) a (vI 2)) d fun e f =>
 xcond e
 (j3 [e] f)
 (oP E (xBin .eql 3 (.tmp 7) (.const (vI 3)) a (vI 3)) f fun p q =>
 j3 [p] q))
def h88 : Hint := (sQ (sQ (hU [4] (sQ (hB (hU [11] (sQ (hC hN (sQ (hC hN hN)))) (hC hN (hU [15] (sQ (hC hN hN)) (hC hN (hU [18] (sQ (hC hN (sQ (hC hN (sQ (hC hN (sQ (hC hN hN)))))))) (hC hN hN)))))))) (sQ (sQ (sQ (hB (hL [5] (hS (sQ (hC hN hN)) (hS (hB hN) hN))))))))))
theorem d2b {x0 x1 : Value} (h : F88 x0 x1 w R E) : Cv pG 88 #[x0, x1] w R E := okF (h := h88) Tryz.func88 (by kernel_rfl) (by kernel_rfl) h
def b7I (x4 w) (R : RT) (_E : Pan) :=
 ∀ _τ : Fr, (xcond x4
 (R (vB true) w)
 (R (vB false) w))
def d2c (x0 w) (R : RT) (E) :=
 xcut (fun v y => b7I (nth v 0) y R E) fun j1 =>
 oP E (xBin .eql 9 (.tmp 3) (.const (Value.string ⟨#[118, 97, 114]⟩)) x0 (Value.string ⟨#[118, 97, 114]⟩)) w fun a b =>
 xcond a
 (j1 [a] b)
 (oP E (xBin .eql 9 (.tmp 3) (.const (Value.string ⟨#[97, 114, 114, 97, 121]⟩)) x0 (Value.string ⟨#[97, 114, 114, 97, 121]⟩)) b fun c d =>
 xcond c
 (j1 [c] d)
 (oP E (xBin .eql 9 (.tmp 3) (.const (Value.string ⟨#[105, 102]⟩)) x0 (Value.string ⟨#[105, 102]⟩)) d fun e f =>
 xcond e
 (j1 [e] f)
 (oP E (xBin .eql 9 (.tmp 3) (.const (Value.string ⟨#[101, 108, 115, 101]⟩)) x0 (Value.string ⟨#[101, 108, 115, 101]⟩)) f fun g i =>
 xcond g
 (j1 [g] i)
 (oP E (xBin .eql 9 (.tmp 3) (.const (Value.string ⟨#[119, 104, 105, 108, 101]⟩)) x0 (Value.string ⟨#[119, 104, 105, 108, 101]⟩)) i fun j k =>
 xcond j
 (j1 [j] k)
 (oP E (xBin .eql 9 (.tmp 3) (.const (Value.string ⟨#[97, 115, 115, 101, 114, 116]⟩)) x0 (Value.string ⟨#[97, 115, 115, 101, 114, 116]⟩)) k fun l m =>
 xcond l
 (j1 [l] m)
 (oP E (xBin .eql 9 (.tmp 3) (.const (Value.string ⟨#[97, 115, 115, 117, 109, 101]⟩)) x0 (Value.string ⟨#[97, 115, 115, 117, 109, 101]⟩)) m fun n o =>
 xcond n
 (j1 [n] o)
 (oP E (xBin .eql 9 (.tmp 3) (.const (Value.string ⟨#[115, 107, 105, 112]⟩)) x0 (Value.string ⟨#[115, 107, 105, 112]⟩)) o fun p q =>
 xcond p
 (j1 [p] q)
 (oP E (xBin .eql 9 (.tmp 3) (.const (Value.string ⟨#[105, 110, 112, 117, 116]⟩)) x0 (Value.string ⟨#[105, 110, 112, 117, 116]⟩)) q fun r s =>
 xcond r
 (j1 [r] s)
 (oP E (xBin .eql 9 (.tmp 3) (.const (Value.string ⟨#[116, 114, 117, 101]⟩)) x0 (Value.string ⟨#[116, 114, 117, 101]⟩)) s fun t u =>
 xcond t
 (j1 [t] u)
 (oP E (xBin .eql 9 (.tmp 3) (.const (Value.string ⟨#[102, 97, 108, 115, 101]⟩)) x0 (Value.string ⟨#[102, 97, 108, 115, 101]⟩)) u fun z aa =>
 j1 [z] aa))))))))))
def d5r : Hint := (sQ (hS (sQ (hB (hU [4] (sQ (hC hN (sQ (hC hN (sQ (hC hN (sQ (hC hN (sQ (hC hN (sQ (hC hN (sQ (hC hN (sQ (hC hN (sQ (hC hN (sQ (hC hN hN)))))))))))))))))))) (hC (sQ hN) hN)))) (sQ hN)))
theorem c8Y {x0 : Value} (h : d2c x0 w R E) : Cv pG 122 #[x0] w R E := okF (h := d5r) Tryz.func122 (by kernel_rfl) (by kernel_rfl) h
def b7J (x8 x9 x10 w) (R : RT) (E) :=
 ∀ _τ : Fr, (oP E (xBin .lss 3 (.tmp 84) (.tmp 85) x10 x9) w fun b e =>
 oP E (gsem (asB b) false (xBin .gtr 3 (.tmp 88) (.const (vI 1114111)) (gval (asB b) false x10) (vI 1114111))) e fun f g =>
 oP E (xPick b (vB true) f) g fun a i =>
 oP E (gsem (asB a) false (xBin .geq 3 (.tmp 92) (.const (vI 55296)) (gval (asB a) false x10) (vI 55296))) i fun c j =>
 oP E (gsem (asB (gval (asB a) false c)) true (xBin .lss 3 (.tmp 95) (.const (vI 57344)) (gval (asB (gval (asB a) false c)) true x10) (vI 57344))) j fun k l =>
 oP E (gsem (asB a) false (xPick (gval (asB a) false c) k (vB false))) l fun m n =>
 oP E (xPick a (vB true) m) n fun o d =>
 xcond o
 (R (Value.tuple #[(vI 65533), (vI 1), (vB false)]) d)
 (R (Value.tuple #[x10, x8, (vB true)]) d))
def c2v (x0 x1 x8 _x9 x10 x11 : Value) (w) (next3 : NT) (j2 : NT) (R : RT) (E) :=
 oP E (xBin .lss 3 (.tmp 47) (.tmp 48) x11 x8) w fun e c =>
 xcond e
 (oP E (xBin .add 3 (.tmp 52) (.tmp 53) x1 x11) c fun f g =>
 oP E (xBuiltin .len #[9] 3 [false] [x0]) g fun i j =>
 oP E (xBin .geq 3 (.tmp 54) (.tmp 56) f i) j fun a k =>
 oP E (gsem (asB a) false (xBin .add 3 (.tmp 60) (.tmp 61) (gval (asB a) false x1) (gval (asB a) false x11))) k fun l m =>
 oP E (gsem (asB a) false (xV (Instr.index 9 (gval (asB a) false x0) l))) m fun n o =>
 oP E (gsem (asB a) false (xBin .lss 5 (.tmp 63) (.const (Value.int .u8 128)) n (Value.int .u8 128))) o fun p q =>
 oP E (xPick a (vB true) p) q fun b r =>
 oP E (gsem (asB b) false (xBin .add 3 (.tmp 68) (.tmp 69) (gval (asB b) false x1) (gval (asB b) false x11))) r fun s t =>
 oP E (gsem (asB b) false (xV (Instr.index 9 (gval (asB b) false x0) s))) t fun u v =>
 oP E (gsem (asB b) false (xBin .geq 5 (.tmp 71) (.const (Value.int .u8 192)) u (Value.int .u8 192))) v fun y z =>
 oP E (xPick b (vB true) y) z fun aa d =>
 xcond aa
 (R (Value.tuple #[(vI 65533), (vI 1), (vB false)]) d)
 (oP E (xBin .mul 3 (.const (vI 64)) (.tmp 74) (vI 64) x10) d fun ab ac =>
 oP E (xBin .add 3 (.tmp 77) (.tmp 78) x1 x11) ac fun ad ae =>
 oP E (xV (Instr.index 9 x0 ad)) ae fun af ag =>
 oP E (xV (convert 5 3 af)) ag fun ah ai =>
 oP E (xBin .add 3 (.tmp 75) (.tmp 81) ab ah) ai fun aj ak =>
 oP E (xBin .sub 3 (.tmp 82) (.const (vI 128)) aj (vI 128)) ak fun al am =>
 oP E (xBin .add 3 (.tmp 50) (.const (vI 1)) x11 (vI 1)) am fun an ao =>
 next3 [al, an] ao))
 (j2 [x10] c)
def b7K (x0 x1 x8 x9 x10 w) (R : RT) (E) :=
 ∀ _τ : Fr, (xcut (fun b c => b7J x8 x9 (nth b 0) c R E) fun j2 =>
 xloop [10, 11] [x10, (vI 1)] w fun a d next3 =>
 c2v x0 x1 x8 x9 (a 10) (a 11) d next3 j2 R E)
def d2d (x0 x1 w) (R : RT) (E) :=
 oP E (xV (Instr.index 9 x0 x1)) w fun k l =>
 oP E (xV (convert 5 3 k)) l fun a m =>
 xcut (fun b n => b7K x0 x1 (nth b 0) (nth b.tail 0) (nth b.tail.tail 0) n R E) fun j1 =>
 oP E (xBin .lss 3 (.tmp 17) (.const (vI 128)) a (vI 128)) m fun o f =>
 xcond o
 (R (Value.tuple #[a, (vI 1), (vB true)]) f)
 (oP E (xBin .geq 3 (.tmp 21) (.const (vI 194)) a (vI 194)) f fun c p =>
 oP E (gsem (asB c) true (xBin .lss 3 (.tmp 24) (.const (vI 224)) (gval (asB c) true a) (vI 224))) p fun q r =>
 oP E (xPick c q (vB false)) r fun s g =>
 xcond s
 (oP E (xBin .sub 3 (.tmp 27) (.const (vI 192)) a (vI 192)) g fun t u =>
 j1 [(vI 2), (vI 128), t] u)
 (oP E (xBin .geq 3 (.tmp 30) (.const (vI 224)) a (vI 224)) g fun d v =>
 oP E (gsem (asB d) true (xBin .lss 3 (.tmp 33) (.const (vI 240)) (gval (asB d) true a) (vI 240))) v fun y z =>
 oP E (xPick d y (vB false)) z fun aa i =>
 xcond aa
 (oP E (xBin .sub 3 (.tmp 36) (.const (vI 224)) a (vI 224)) i fun ab ac =>
 j1 [(vI 3), (vI 2048), ab] ac)
 (oP E (xBin .geq 3 (.tmp 39) (.const (vI 240)) a (vI 240)) i fun e ad =>
 oP E (gsem (asB e) true (xBin .lss 3 (.tmp 42) (.const (vI 245)) (gval (asB e) true a) (vI 245))) ad fun ae af =>
 oP E (xPick e ae (vB false)) af fun ag j =>
 xcond ag
 (oP E (xBin .sub 3 (.tmp 45) (.const (vI 240)) a (vI 240)) j fun ah ai =>
 j1 [(vI 4), (vI 65536), ah] ai)
 (R (Value.tuple #[(vI 65533), (vI 1), (vB false)]) j))))
def d5s : Hint := (sQ (sQ (sQ (hU [8, 9, 10] (hB (sQ (hC (sQ hN) (sQ (hC hN (sQ (hC hN (sQ (hC hN (sQ hN)))))))))) (hU [10] (sQ (hB (hL [10, 11] (hS (sQ (hC hN hN)) (hS (hB (hS (sQ (hC (sQ hN) hN)) hN)) hN))))) (hS (sQ (hC (sQ hN) hN)) (sQ hN)))))))
theorem c8Z {x0 x1 : Value} (h : d2d x0 x1 w R E) : Cv pG 123 #[x0, x1] w R E := okF (h := d5s) Tryz.func123 (by kernel_rfl) (by kernel_rfl) h
def b7L (w) (R : RT) (_E : Pan) :=
 ∀ _τ : Fr, (R (vI 6) w)
def c2w (x0 x3 x4 w) (next2 : NT) (j1 : NT) (R : RT) (E) :=
 oP E (xBuiltin .len #[9] 3 [false] [x3]) w fun c d =>
 oP E (xBin .lss 3 (.tmp 53) (.tmp 55) x4 c) d fun e a =>
 xcond e
 (oP E (xV (Instr.index 9 x3 x4)) a fun f g =>
 oP E (xV (convert 5 3 f)) g fun i j =>
 oP E (xBin .eql 3 (.tmp 59) (.tmp 63) x0 i) j fun k b =>
 xcond k
 (R (vI 5) b)
 (oP E (xBin .add 3 (.tmp 57) (.const (vI 1)) x4 (vI 1)) b fun l m =>
 next2 [l] m))
 (j1 [] a)
def d2e (x0 w) (R : RT) (E) :=
 oP E (xBin .eql 3 (.tmp 5) (.const (vI 32)) x0 (vI 32)) w fun c p =>
 oP E (gsem (asB c) false (xBin .eql 3 (.tmp 8) (.const (vI 9)) (gval (asB c) false x0) (vI 9))) p fun q r =>
 oP E (xPick c (vB true) q) r fun d s =>
 oP E (gsem (asB d) false (xBin .eql 3 (.tmp 12) (.const (vI 13)) (gval (asB d) false x0) (vI 13))) s fun t u =>
 oP E (xPick d (vB true) t) u fun v l =>
 xcond v
 (R (vI 1) l)
 (oP E (xBin .eql 3 (.tmp 15) (.const (vI 10)) x0 (vI 10)) l fun y m =>
 xcond y
 (R (vI 2) m)
 (oP E (xCall (fC 156) [x0, (vI 48), (vI 57)]) m fun z n =>
 xcond z
 (R (vI 4) n)
 (oP E (xCall (fC 156) [x0, (vI 97), (vI 122)]) n fun e aa =>
 oP E (gsem (asB e) false (xCall (fC 156) [(gval (asB e) false x0), (vI 65), (vI 90)])) aa fun ab ac =>
 oP E (xPick e (vB true) ab) ac fun f ad =>
 oP E (gsem (asB f) false (xBin .eql 3 (.tmp 26) (.const (vI 95)) (gval (asB f) false x0) (vI 95))) ad fun ae af =>
 oP E (xPick f (vB true) ae) af fun a ag =>
 oP E (gsem (asB a) false (xCall (fC 156) [(gval (asB a) false x0), (vI 192), (vI 591)])) ag fun g ah =>
 oP E (gsem (asB (gval (asB a) false g)) true (xBin .neq 3 (.tmp 33) (.const (vI 215)) (gval (asB (gval (asB a) false g)) true x0) (vI 215))) ah fun ai aj =>
 oP E (gsem (asB a) false (xPick (gval (asB a) false g) ai (vB false))) aj fun i ak =>
 oP E (gsem (asB (gval (asB a) false i)) true (xBin .neq 3 (.tmp 37) (.const (vI 247)) (gval (asB (gval (asB a) false i)) true x0) (vI 247))) ak fun al am =>
 oP E (gsem (asB a) false (xPick (gval (asB a) false i) al (vB false))) am fun an ao =>
 oP E (xPick a (vB true) an) ao fun b ap =>
 oP E (gsem (asB b) false (xCall (fC 156) [(gval (asB b) false x0), (vI 913), (vI 969)])) ap fun j aq =>
 oP E (gsem (asB (gval (asB b) false j)) true (xBin .neq 3 (.tmp 45) (.const (vI 930)) (gval (asB (gval (asB b) false j)) true x0) (vI 930))) aq fun ar au =>
 oP E (gsem (asB b) false (xPick (gval (asB b) false j) ar (vB false))) au fun av aw =>
 oP E (xPick b (vB true) av) aw fun k ax =>
 oP E (gsem (asB k) false (xCall (fC 156) [(gval (asB k) false x0), (vI 1040), (vI 1103)])) ax fun ay az =>
 oP E (xPick k (vB true) ay) az fun ba o =>
 xcond ba
 (R (vI 3) o)
 (xcut (fun _ bb => b7L bb R E) fun j1 =>
 xloop [4] [(vI 0)] o fun bc bd next2 =>
 c2w x0 (Value.string ⟨#[59, 44, 123, 125, 40, 41, 91, 93, 61, 33, 60, 62, 43, 45, 42, 47, 37, 38, 124]⟩) (bc 4) bd next2 j1 R E))))
def d5t : Hint := (sQ (hS (sQ (hC (sQ hN) hN)) (hS (sQ (hC (sQ hN) hN)) (hS (sQ (hC (sQ hN) hN)) (hS (sQ (hC (sQ hN) hN)) (sQ (hU [] (sQ (hB (hL [4] (hS (sQ (hC hN hN)) (hS (hB (sQ (hC (sQ hN) hN))) hN))))) (sQ hN))))))))
theorem c9a {x0 : Value} (h : d2e x0 w R E) : Cv pG 124 #[x0] w R E := okF (h := d5t) Tryz.func124 (by kernel_rfl) (by kernel_rfl) h
def d2f (x0 x1 x2 w) (R : RT) (E) :=
 oP E (xBin .geq 3 (.tmp 7) (.tmp 8) x0 x1) w fun a b =>
 oP E (gsem (asB a) true (xBin .leq 3 (.tmp 11) (.tmp 12) (gval (asB a) true x0) (gval (asB a) true x2))) b fun c d =>
 oP E (xPick a c (vB false)) d fun e f =>
 R e f
def d5u : Hint := (sQ (sQ hN))
theorem c9b {x0 x1 x2 : Value} (h : d2f x0 x1 x2 w R E) : Cv pG 156 #[x0, x1, x2] w R E := okF (h := d5u) Tryz.func156 (by kernel_rfl) (by kernel_rfl) h
end Go.Proofs.YtnhkdkcgdcgmdaaGreatDoor
