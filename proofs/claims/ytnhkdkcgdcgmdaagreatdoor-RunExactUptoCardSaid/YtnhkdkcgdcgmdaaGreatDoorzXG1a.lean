/- The second reading of some of the program's functions, printed by gen2.py off the code; each is held against the code by the kernel. -/
import Derived.KernelRfl
import Derived.Test.YtnhkdkcgdcgmdaaGreatDoorzXGz
namespace Go.Proofs.YtnhkdkcgdcgmdaaGreatDoor
open Go.RowKit
set_option maxRecDepth 100000
variable {w : World} {R : RT} {E : Pan}
def d1a (w) (R : RT) (_E : Pan) :=
 ∀ _τ : Fr, (R (vB true) w)
def d1b (x2 x3 x5 w) (next2 : NT) (j1 : NT) (R : RT) (E) :=
 oP E (fA 25 x2 0) w fun g i =>
 oP E (lA 22 g) i fun j k =>
 oP E (xBuiltin .len #[22] 3 [false] [j]) k fun l m =>
 oP E (xBin .lss 3 (.tmp 31) (.tmp 34) x5 l) m fun n b =>
 xcond n
 (dX b fun a =>
 qP pG (fA 25 x2 0) fun c =>
 qP pG (fA 25 x3 0) fun d =>
 qL pG a (blk c) (lA 22 c) fun o =>
 qP pG (iA 22 o x5) fun e =>
 qL pG a (blk e) (lA 71 e) fun p =>
 qL pG a (blk d) (lA 22 d) fun q =>
 qP pG (iA 22 q x5) fun f =>
 qL pG a (blk f) (lA 71 f) fun r =>
 qP pG (xBin .neq 71 (.tmp 42) (.tmp 47) p r) fun s =>
 xcond s
 (R (vB false) a)
 (oP E (xBin .add 3 (.tmp 36) (.const (vI 1)) x5 (vI 1)) a fun t u =>
 next2 [t] u))
 (j1 [] b)
def F11 (x0 x1 w) (R : RT) (E) :=
 oP E (xV (Instr.box 25 x0)) w fun c g =>
 oP E (xV (Instr.box 25 x1)) g fun d i =>
 oP E (lA 25 c) i fun j k =>
 oP E (xCall (fC 29) [j]) k fun l m =>
 oP E (xV (Op.unary .not l)) m fun e n =>
 oP E (gsem (asB e) false (lA 25 d)) n fun o p =>
 oP E (gsem (asB e) false (xCall (fC 29) [o])) p fun q r =>
 oP E (gsem (asB e) false (xV (Op.unary .not q))) r fun s t =>
 oP E (xPick e (vB true) s) t fun a u =>
 oP E (gsem (asB a) false (fA 25 c 0)) u fun v y =>
 oP E (gsem (asB a) false (lA 22 v)) y fun z aa =>
 oP E (gsem (asB a) false (xBuiltin .len #[22] 3 [false] [z])) aa fun ab ac =>
 oP E (gsem (asB a) false (fA 25 d 0)) ac fun ad ae =>
 oP E (gsem (asB a) false (lA 22 ad)) ae fun af ag =>
 oP E (gsem (asB a) false (xBuiltin .len #[22] 3 [false] [af])) ag fun ah ai =>
 oP E (gsem (asB a) false (xBin .neq 3 (.tmp 17) (.tmp 20) ab ah)) ai fun aj ak =>
 oP E (xPick a (vB true) aj) ak fun b al =>
 oP E (gsem (asB b) false (fA 25 c 1)) al fun am an =>
 oP E (gsem (asB b) false (lA 23 am)) an fun ao ap =>
 oP E (gsem (asB b) false (fA 25 d 1)) ap fun aq ar =>
 oP E (gsem (asB b) false (lA 23 aq)) ar fun au av =>
 oP E (gsem (asB b) false (xCall (fC 30) [ao, au])) av fun aw ax =>
 oP E (gsem (asB b) false (xV (Op.unary .not aw))) ax fun ay az =>
 oP E (xPick b (vB true) ay) az fun ba f =>
 xcond ba
 (R (vB false) f)
 (xcut (fun _ bb => d1a bb R E) fun j1 =>
 xloop [5] [(vI 0)] f fun bc bd next2 =>
 d1b c d (bc 5) bd next2 j1 R E)
def F24 (x0 w) (R : RT) (E) :=
 oP E (xV (Instr.box 25 x0)) w fun a b =>
 oP E (lA 25 a) b fun c d =>
 oP E (xCall (fC 43) [c]) d fun e f =>
 oP E (xNil e) f fun g i =>
 oP E (fA 101 g 2) i fun j k =>
 oP E (lA 27 j) k fun l m =>
 R l m
def h24 : Hint := (sQ (sQ hN))
theorem d1c {x0 : Value} (h : F24 x0 w R E) : Cv pG 24 #[x0] w R E := okF (h := h24) Tryz.func24 (by kernel_rfl) (by kernel_rfl) h
def F43 (x0 w) (R : RT) (E) :=
 oP E (xV (Instr.box 25 x0)) w fun g k =>
 dX k fun a =>
 qP pG (fA 25 g 0) fun i =>
 qP pG (fA 25 g 1) fun b =>
 qL pG a (blk i) (lA 22 i) fun l =>
 qL pG a (blk b) (lA 23 b) fun m =>
 oP E (xCall (fC 76) [l, (fC 77)]) a fun n c =>
 keepX [(blk b)] a c (opK pG E (xCall (fC 78) [m, (fC 79)]) c fun o d =>
 keepX [] c d (opK pG E (xV (Instr.buildSlice 179 2 #[(0, n), (1, o)])) d fun p e =>
 keepX [] d e (opK pG E (xCall (fC 75) [p]) e fun q f =>
 keepX [] e f (opK pG E (xCall (fC 65) [q]) f fun r j =>
 keepX [] f j (R r j)))))
def h43 : Hint := (sQ (hS (.reg [(0, 8, 2), (1, 16, 8), (2, 32, 16), (0, 64, 2), (8, 128, 64), (20, 256, 128), (36, 512, 288), (96, 1024, 512), (128, 2048, 1024), (511, 4, 2048)] [18, 16, 16, 18, 2, 0, 0, 0, 0, 18] (.early 0 (.early 3 (.load 1 (.load 4 (.step 2 (.step 5 (.step 6 (.step 7 (.step 8 (.early 9 .done))))))))))) hN))
theorem d1d {x0 : Value} (h : F43 x0 w R E) : Cv pG 43 #[x0] w R E := okF (h := h43) Tryz.func43 (by kernel_rfl) (by kernel_rfl) h
def b9R (x2 x3 w) (R : RT) (E) :=
 ∀ _τ : Fr, (oP E (lA 108 x3) w fun b c =>
 oP E (sA 108 x2 b) c fun _ a =>
 xcell pG 108 x2 a fun d =>
 R d a)
def c4C (x1 _x2 x3 x5 : Value) (w) (next3 : NT) (j2 : NT) (_R : RT) (E) :=
 oP E (fA 25 x1 1) w fun c d =>
 oP E (lA 23 c) d fun e f =>
 oP E (xBuiltin .len #[23] 3 [false] [e]) f fun g i =>
 oP E (xBin .lss 3 (.tmp 20) (.tmp 23) x5 g) i fun a j =>
 oP E (gsem (asB a) true (fA 108 x3 2)) j fun k l =>
 oP E (gsem (asB a) true (lA 3 k)) l fun m n =>
 oP E (gsem (asB a) true (xBin .eql 3 (.tmp 27) (.const (vI 0)) m (vI 0))) n fun o p =>
 oP E (xPick a o (vB false)) p fun q b =>
 xcond q
 (oP E (fA 25 x1 1) b fun r s =>
 oP E (lA 23 r) s fun t u =>
 oP E (iA 23 t x5) u fun v y =>
 oP E (lA 73 v) y fun z aa =>
 oP E (xCall (fC 85) [x3, z, (vI 1)]) aa fun _t37_42 ab =>
 oP E (xBin .add 3 (.tmp 30) (.const (vI 1)) x5 (vI 1)) ab fun ac ad =>
 next3 [ac] ad)
 (j2 [] b)
def b9S (x1 x2 x3 w) (R : RT) (E) :=
 ∀ _τ : Fr, (xcut (fun _ a => b9R x2 x3 a R E) fun j2 =>
 xloop [5] [(vI 0)] w fun b c next3 =>
 c4C x1 x2 x3 (b 5) c next3 j2 R E)
def c4D (x1 _x2 x3 x4 : Value) (w) (next4 : NT) (j1 : NT) (_R : RT) (E) :=
 oP E (fA 25 x1 0) w fun c d =>
 oP E (lA 22 c) d fun e f =>
 oP E (xBuiltin .len #[22] 3 [false] [e]) f fun g i =>
 oP E (xBin .lss 3 (.tmp 7) (.tmp 10) x4 g) i fun a j =>
 oP E (gsem (asB a) true (fA 108 x3 2)) j fun k l =>
 oP E (gsem (asB a) true (lA 3 k)) l fun m n =>
 oP E (gsem (asB a) true (xBin .eql 3 (.tmp 14) (.const (vI 0)) m (vI 0))) n fun o p =>
 oP E (xPick a o (vB false)) p fun q b =>
 xcond q
 (oP E (xCall (fC 84) [x3, (vI 1)]) b fun _t19_66 r =>
 oP E (xBin .add 3 (.tmp 17) (.const (vI 1)) x4 (vI 1)) r fun s t =>
 next4 [s] t)
 (j1 [] b)
def F47 (x0 w) (R : RT) (E) :=
 oP E (xV (Instr.box 25 x0)) w fun b d =>
 oP E (xV (Instr.alloc 108 true (.tuple #[]))) d fun c e =>
 oP E (xV (Instr.build 108 #[])) e fun f g =>
 oP E (xV (Instr.alloc 108 true (.tuple #[]))) g fun a i =>
 oP E (sA 108 a f) i fun _ j =>
 xcut (fun _ k => b9S b c a k R E) fun j1 =>
 xloop [4] [(vI 0)] j fun l m next4 =>
 c4D b c a (l 4) m next4 j1 R E
def h47 : Hint := (sQ (sQ (hU [] (sQ (hB (hL [4] (hS (sQ (hC hN hN)) (hS (hB hN) hN))))) (hU [] (sQ (hB (hL [5] (hS (sQ (hC hN hN)) (hS (hB hN) hN))))) (sQ hN)))))
theorem d1e {x0 : Value} (h : F47 x0 w R E) : Cv pG 47 #[x0] w R E := okF (h := h47) Tryz.func47 (by kernel_rfl) (by kernel_rfl) h
def b9T (x3 w) (R : RT) (E) :=
 ∀ _τ : Fr, (oP E (lA 102 x3) w fun a b =>
 R a b)
def F65 (x0 w) (R : RT) (E) :=
 oP E (xV (Instr.build 101 #[])) w fun f g =>
 oP E (xV (Instr.box 101 f)) g fun i j =>
 oP E (xV (Instr.alloc 102 true (.tuple #[]))) j fun a k =>
 oP E (sA 102 a i) k fun _ l =>
 oP E (xV (Instr.alloc 170 true (.tuple #[]))) l fun b m =>
 oP E (xV (Instr.makeFunc (.func 110) #[] #[a, b])) m fun n o =>
 oP E (sA 170 b n) o fun _ p =>
 xcut (fun _ q => b9T a q R E) fun j1 =>
 oP E (lA 170 b) p fun r s =>
 oP E (xCall r [x0, (vI 1)]) s fun t u =>
 oP E (xV (Op.unary .not t)) u fun v c =>
 xcond v
 (j1 [] c)
 (oP E (lA 102 a) c fun y z =>
 oP E (xNil y) z fun aa ab =>
 oP E (fA 101 aa 3) ab fun ac ad =>
 oP E (lA 4 ac) ad fun ae d =>
 xcond ae
 (oP E (lA 102 a) d fun af ag =>
 oP E (xNil af) ag fun ah ai =>
 oP E (fA 101 ah 2) ai fun aj ak =>
 oP E (sA 27 aj (vI 30)) ak fun _ al =>
 j1 [] al)
 (oP E (lA 102 a) d fun am an =>
 oP E (xNil am) an fun ao ap =>
 oP E (fA 101 ao 4) ap fun aq ar =>
 oP E (lA 4 aq) ar fun au e =>
 xcond au
 (oP E (lA 102 a) e fun av aw =>
 oP E (xNil av) aw fun ax ay =>
 oP E (fA 101 ax 2) ay fun az ba =>
 oP E (sA 27 az (vI 31)) ba fun _ bb =>
 j1 [] bb)
 (j1 [] e)))
def h65 : Hint := (sQ (sQ (sQ (sQ (hU [] (sQ (hB (sQ (hC hN (sQ (hC hN (sQ (hC hN hN)))))))) (sQ hN))))))
theorem d1f {x0 : Value} (h : F65 x0 w R E) : Cv pG 65 #[x0] w R E := okF (h := h65) Tryz.func65 (by kernel_rfl) (by kernel_rfl) h
def b9U (x6 w) (R : RT) (_E : Pan) :=
 ∀ _τ : Fr, (R x6 w)
def c4E (x6 x25 x26 x27 w) (next3 : NT) (j2 : NT) (_R : RT) (E) :=
 oP E (xBin .lss 3 (.tmp 27) (.tmp 26) x27 x26) w fun b a =>
 xcond b
 (oP E (iA 179 x25 x27) a fun c d =>
 oP E (lA 137 c) d fun e f =>
 oP E (xBuiltin .append #[137, 137] 137 [false, false] [x6, e]) f fun g i =>
 oP E (xBin .add 3 (.tmp 27) (.const (vI 1)) x27 (vI 1)) i fun j k =>
 next3 [g, j] k)
 (j2 [x6] a)
def b9V (x0 x3 w) (R : RT) (E) :=
 ∀ _τ : Fr, (oP E (xCall (fC 119) [(nS), x3]) w fun b c =>
 xcut (fun d e => b9U (nth d 0) e R E) fun j2 =>
 oP E (xBuiltin .len #[179] 3 [false] [x0]) c fun f g =>
 xloop [6, 27] [b, (vI 0)] g fun a i next3 =>
 c4E (a 6) x0 f (a 27) i next3 j2 R E)
def b9W (_x0 x3 _x9 _x10 x11 : Value) (w) (next4 : NT) (_R : RT) (E) :=
 ∀ _τ : Fr, (oP E (xBin .add 3 (.tmp 11) (.const (vI 1)) x11 (vI 1)) w fun a b =>
 next4 [x3, a] b)
def c4F (x0 x3 x9 x10 x11 w) (next4 : NT) (j1 : NT) (R : RT) (E) :=
 oP E (xBin .lss 3 (.tmp 11) (.tmp 10) x11 x10) w fun d b =>
 xcond d
 (xcut (fun e f => b9W x0 (nth e 0) x9 x10 x11 f next4 R E) fun j5 =>
 oP E (iA 179 x9 x11) b fun g i =>
 oP E (lA 137 g) i fun j k =>
 oP E (xBuiltin .len #[137] 3 [false] [j]) k fun l m =>
 oP E (xBin .add 3 (.tmp 15) (.tmp 17) x3 l) m fun a n =>
 oP E (xBin .lss 3 (.tmp 19) (.const (vI 0)) a (vI 0)) n fun o c =>
 xcond o
 (oP E (xV (Instr.makeInterface 9 (Value.string ⟨#[108, 101, 110, 32, 111, 117, 116, 32, 111, 102, 32, 114, 97, 110, 103, 101]⟩))) c fun p q =>
 oP E (xV (Instr.panic p)) q fun _ r =>
 j5 [a] r)
 (j5 [a] c))
 (j1 [x3] b)
def F75 (x0 w) (R : RT) (E) :=
 xcut (fun b c => b9V x0 (nth b 0) c R E) fun j1 =>
 oP E (xBuiltin .len #[179] 3 [false] [x0]) w fun d e =>
 xloop [3, 11] [(vI 0), (vI 0)] e fun a f next4 =>
 c4F x0 (a 3) x0 d (a 11) f next4 j1 R E
def h75 : Hint := (sQ (sQ (hU [3] (sQ (hB (hL [3, 11] (sQ (hS (hC hN hN) (hU [3] (hB (sQ (sQ (sQ (hC hN hN))))) hN)))))) (sQ (hU [6] (sQ (hB (hL [6, 27] (sQ (hS (hC hN hN) (hS (hB (sQ hN)) hN)))))) (sQ hN))))))
theorem d1g {x0 : Value} (h : F75 x0 w R E) : Cv pG 75 #[x0] w R E := okF (h := h75) Tryz.func75 (by kernel_rfl) (by kernel_rfl) h
def b9X (x5 w) (R : RT) (_E : Pan) :=
 ∀ _τ : Fr, (R x5 w)
def c4G (x1 x5 x8 x9 x10 w) (next2 : NT) (j1 : NT) (_R : RT) (E) :=
 oP E (xBin .lss 3 (.tmp 10) (.tmp 9) x10 x9) w fun c a =>
 xcond c
 (oP E (iA 22 x8 x10) a fun d e =>
 oP E (lA 71 d) e fun f g =>
 oP E (xV (Instr.alloc 71 true (.tuple #[]))) g fun b i =>
 oP E (sA 71 b f) i fun _ j =>
 oP E (lA 71 b) j fun k l =>
 oP E (xCall x1 [k]) l fun m n =>
 oP E (xV (Instr.buildSlice 137 1 #[(0, m)])) n fun o p =>
 oP E (xBuiltin .append #[137, 137] 137 [false, false] [x5, o]) p fun q r =>
 oP E (xBin .add 3 (.tmp 10) (.const (vI 1)) x10 (vI 1)) r fun s t =>
 next2 [q, s] t)
 (j1 [x5] a)
def F76 (x0 x1 w) (R : RT) (E) :=
 xcut (fun b c => b9X (nth b 0) c R E) fun j1 =>
 oP E (xBuiltin .len #[22] 3 [false] [x0]) w fun d e =>
 xloop [5, 10] [(nS), (vI 0)] e fun a f next2 =>
 c4G x1 (a 5) x0 d (a 10) f next2 j1 R E
def h76 : Hint := (sQ (sQ (hU [5] (sQ (hB (hL [5, 10] (sQ (hS (hC hN hN) (hS (hB (sQ hN)) hN)))))) (sQ hN))))
theorem d1h {x0 x1 : Value} (h : F76 x0 x1 w R E) : Cv pG 76 #[x0, x1] w R E := okF (h := h76) Tryz.func76 (by kernel_rfl) (by kernel_rfl) h
def F77 (x0 w) (R : RT) (E) :=
 oP E (xV (Instr.box 71 x0)) w fun a b =>
 oP E (lA 71 a) b fun c d =>
 oP E (xV (Instr.build 182 #[(0, c)])) d fun e f =>
 oP E (xV (Instr.makeInterface 182 e)) f fun g i =>
 R g i
def h77 : Hint := (sQ (sQ hN))
theorem d1i {x0 : Value} (h : F77 x0 w R E) : Cv pG 77 #[x0] w R E := okF (h := h77) Tryz.func77 (by kernel_rfl) (by kernel_rfl) h
def b9Y (x5 w) (R : RT) (_E : Pan) :=
 ∀ _τ : Fr, (R x5 w)
def c4H (x1 x5 x8 x9 x10 w) (next2 : NT) (j1 : NT) (_R : RT) (E) :=
 oP E (xBin .lss 3 (.tmp 10) (.tmp 9) x10 x9) w fun c a =>
 xcond c
 (oP E (iA 23 x8 x10) a fun d e =>
 oP E (lA 73 d) e fun f g =>
 oP E (xV (Instr.alloc 73 true (.tuple #[]))) g fun b i =>
 oP E (sA 73 b f) i fun _ j =>
 oP E (lA 73 b) j fun k l =>
 oP E (xCall x1 [k]) l fun m n =>
 oP E (xV (Instr.buildSlice 137 1 #[(0, m)])) n fun o p =>
 oP E (xBuiltin .append #[137, 137] 137 [false, false] [x5, o]) p fun q r =>
 oP E (xBin .add 3 (.tmp 10) (.const (vI 1)) x10 (vI 1)) r fun s t =>
 next2 [q, s] t)
 (j1 [x5] a)
def F78 (x0 x1 w) (R : RT) (E) :=
 xcut (fun b c => b9Y (nth b 0) c R E) fun j1 =>
 oP E (xBuiltin .len #[23] 3 [false] [x0]) w fun d e =>
 xloop [5, 10] [(nS), (vI 0)] e fun a f next2 =>
 c4H x1 (a 5) x0 d (a 10) f next2 j1 R E
def h78 : Hint := (sQ (sQ (hU [5] (sQ (hB (hL [5, 10] (sQ (hS (hC hN hN) (hS (hB (sQ hN)) hN)))))) (sQ hN))))
theorem d1j {x0 x1 : Value} (h : F78 x0 x1 w R E) : Cv pG 78 #[x0, x1] w R E := okF (h := h78) Tryz.func78 (by kernel_rfl) (by kernel_rfl) h
def F79 (x0 w) (R : RT) (E) :=
 oP E (xV (Instr.box 73 x0)) w fun a b =>
 oP E (lA 73 a) b fun c d =>
 oP E (xV (Instr.build 184 #[(0, c)])) d fun e f =>
 oP E (xV (Instr.makeInterface 184 e)) f fun g i =>
 R g i
def h79 : Hint := (sQ (sQ hN))
theorem d1k {x0 : Value} (h : F79 x0 w R E) : Cv pG 79 #[x0] w R E := okF (h := h79) Tryz.func79 (by kernel_rfl) (by kernel_rfl) h
def F84 (x0 x1 w) (R : RT) (E) :=
 oP E (xNil x0) w fun d e =>
 oP E (fA 108 d 2) e fun f g =>
 oP E (lA 3 f) g fun i j =>
 oP E (xBin .neq 3 (.tmp 8) (.const (vI 0)) i (vI 0)) j fun k a =>
 xcond k
 (R (vB false) a)
 (oP E (xNil x0) a fun l m =>
 oP E (fA 108 l 0) m fun n o =>
 oP E (lA 3 n) o fun p q =>
 oP E (xBin .eql 3 (.tmp 13) (.const (vI 4096)) p (vI 4096)) q fun r b =>
 xcond r
 (oP E (xNil x0) b fun s t =>
 oP E (fA 108 s 2) t fun u v =>
 oP E (sA 3 u (vI 33)) v fun _ y =>
 R (vB false) y)
 (oP E (xBin .gtr 3 (.tmp 18) (.const (vI 64)) x1 (vI 64)) b fun z c =>
 xcond z
 (oP E (xNil x0) c fun aa ab =>
 oP E (fA 108 aa 2) ab fun ac ad =>
 oP E (sA 3 ac (vI 32)) ad fun _ ae =>
 R (vB false) ae)
 (oP E (xNil x0) c fun af ag =>
 oP E (fA 108 af 0) ag fun ah ai =>
 oP E (lA 3 ah) ai fun aj ak =>
 oP E (xBin .add 3 (.tmp 26) (.const (vI 1)) aj (vI 1)) ak fun al am =>
 oP E (xNil x0) am fun an ao =>
 oP E (fA 108 an 0) ao fun ap aq =>
 oP E (sA 3 ap al) aq fun _ ar =>
 oP E (xNil x0) ar fun au av =>
 oP E (fA 108 au 1) av fun aw ax =>
 oP E (lA 3 aw) ax fun ay az =>
 oP E (xBuiltin .max #[3, 3] 3 [false, false] [ay, x1]) az fun ba bb =>
 oP E (xNil x0) bb fun bc bd =>
 oP E (fA 108 bc 1) bd fun be bf =>
 oP E (sA 3 be ba) bf fun _ bg =>
 R (vB true) bg)))
def h84 : Hint := (sQ (hS (sQ (hC (sQ hN) hN)) (hS (sQ (hC (sQ (sQ hN)) hN)) (hS (sQ (hC (sQ (sQ hN)) hN)) (sQ (sQ (sQ hN)))))))
theorem d1l {x0 x1 : Value} (h : F84 x0 x1 w R E) : Cv pG 84 #[x0, x1] w R E := okF (h := h84) Tryz.func84 (by kernel_rfl) (by kernel_rfl) h
def c4I (x0 x2 x4 x9 w) (next4 : NT) (R : RT) (E) :=
 oP E (fA 73 x4 5) w fun c d =>
 oP E (lA 23 c) d fun e f =>
 oP E (xBuiltin .len #[23] 3 [false] [e]) f fun g i =>
 oP E (xBin .lss 3 (.tmp 83) (.tmp 86) x9 g) i fun a j =>
 oP E (gsem (asB a) true (xNil (gval (asB a) true x0))) j fun k l =>
 oP E (gsem (asB a) true (fA 108 k 2)) l fun m n =>
 oP E (gsem (asB a) true (lA 3 m)) n fun o p =>
 oP E (gsem (asB a) true (xBin .eql 3 (.tmp 92) (.const (vI 0)) o (vI 0))) p fun q r =>
 oP E (xPick a q (vB false)) r fun s b =>
 xcond s
 (oP E (fA 73 x4 5) b fun t u =>
 oP E (lA 23 t) u fun v y =>
 oP E (iA 23 v x9) y fun z aa =>
 oP E (lA 73 z) aa fun ab ac =>
 oP E (xBin .add 3 (.tmp 103) (.const (vI 1)) x2 (vI 1)) ac fun ad ae =>
 oP E (xCall (fC 85) [x0, ab, ad]) ae fun _t105_35 af =>
 oP E (xBin .add 3 (.tmp 95) (.const (vI 1)) x9 (vI 1)) af fun ag ah =>
 next4 [ag] ah)
 (R (Value.tuple #[]) b)
def b9Z (x0 x2 x4 w) (R : RT) (E) :=
 ∀ _τ : Fr, (xloop [9] [(vI 0)] w fun a b next4 =>
 c4I x0 x2 x4 (a 9) b next4 R E)
def c4J (x0 x2 x4 x8 w) (next5 : NT) (j3 : NT) (_R : RT) (E) :=
 oP E (fA 73 x4 4) w fun c d =>
 oP E (lA 23 c) d fun e f =>
 oP E (xBuiltin .len #[23] 3 [false] [e]) f fun g i =>
 oP E (xBin .lss 3 (.tmp 60) (.tmp 63) x8 g) i fun a j =>
 oP E (gsem (asB a) true (xNil (gval (asB a) true x0))) j fun k l =>
 oP E (gsem (asB a) true (fA 108 k 2)) l fun m n =>
 oP E (gsem (asB a) true (lA 3 m)) n fun o p =>
 oP E (gsem (asB a) true (xBin .eql 3 (.tmp 69) (.const (vI 0)) o (vI 0))) p fun q r =>
 oP E (xPick a q (vB false)) r fun s b =>
 xcond s
 (oP E (fA 73 x4 4) b fun t u =>
 oP E (lA 23 t) u fun v y =>
 oP E (iA 23 v x8) y fun z aa =>
 oP E (lA 73 z) aa fun ab ac =>
 oP E (xBin .add 3 (.tmp 80) (.const (vI 1)) x2 (vI 1)) ac fun ad ae =>
 oP E (xCall (fC 85) [x0, ab, ad]) ae fun _t82_71 af =>
 oP E (xBin .add 3 (.tmp 72) (.const (vI 1)) x8 (vI 1)) af fun ag ah =>
 next5 [ag] ah)
 (j3 [] b)
def c0a (x0 x2 x4 w) (R : RT) (E) :=
 ∀ _τ : Fr, (xcut (fun _ a => b9Z x0 x2 x4 a R E) fun j3 =>
 xloop [8] [(vI 0)] w fun b c next5 =>
 c4J x0 x2 x4 (b 8) c next5 j3 R E)
def c4K (x0 x2 x4 x7 w) (next6 : NT) (j2 : NT) (_R : RT) (E) :=
 oP E (fA 73 x4 2) w fun c d =>
 oP E (lA 51 c) d fun e f =>
 oP E (xBuiltin .len #[51] 3 [false] [e]) f fun g i =>
 oP E (xBin .lss 3 (.tmp 37) (.tmp 40) x7 g) i fun a j =>
 oP E (gsem (asB a) true (xNil (gval (asB a) true x0))) j fun k l =>
 oP E (gsem (asB a) true (fA 108 k 2)) l fun m n =>
 oP E (gsem (asB a) true (lA 3 m)) n fun o p =>
 oP E (gsem (asB a) true (xBin .eql 3 (.tmp 46) (.const (vI 0)) o (vI 0))) p fun q r =>
 oP E (xPick a q (vB false)) r fun s b =>
 xcond s
 (oP E (fA 73 x4 2) b fun t u =>
 oP E (lA 51 t) u fun v y =>
 oP E (iA 51 v x7) y fun z aa =>
 oP E (lA 53 z) aa fun ab ac =>
 oP E (xBin .add 3 (.tmp 57) (.const (vI 1)) x2 (vI 1)) ac fun ad ae =>
 oP E (xCall (fC 121) [x0, ab, ad]) ae fun _t59_107 af =>
 oP E (xBin .add 3 (.tmp 49) (.const (vI 1)) x7 (vI 1)) af fun ag ah =>
 next6 [ag] ah)
 (j2 [] b)
def c0b (x0 x2 x4 w) (R : RT) (E) :=
 ∀ _τ : Fr, (xcut (fun _ a => c0a x0 x2 x4 a R E) fun j2 =>
 xloop [7] [(vI 0)] w fun b c next6 =>
 c4K x0 x2 x4 (b 7) c next6 j2 R E)
def c4L (x0 x2 x4 x6 w) (next7 : NT) (j1 : NT) (_R : RT) (E) :=
 oP E (fA 73 x4 3) w fun c d =>
 oP E (lA 57 c) d fun e f =>
 oP E (xBuiltin .len #[57] 3 [false] [e]) f fun g i =>
 oP E (xBin .lss 3 (.tmp 14) (.tmp 17) x6 g) i fun a j =>
 oP E (gsem (asB a) true (xNil (gval (asB a) true x0))) j fun k l =>
 oP E (gsem (asB a) true (fA 108 k 2)) l fun m n =>
 oP E (gsem (asB a) true (lA 3 m)) n fun o p =>
 oP E (gsem (asB a) true (xBin .eql 3 (.tmp 23) (.const (vI 0)) o (vI 0))) p fun q r =>
 oP E (xPick a q (vB false)) r fun s b =>
 xcond s
 (oP E (fA 73 x4 3) b fun t u =>
 oP E (lA 57 t) u fun v y =>
 oP E (iA 57 v x6) y fun z aa =>
 oP E (lA 59 z) aa fun ab ac =>
 oP E (xBin .add 3 (.tmp 34) (.const (vI 1)) x2 (vI 1)) ac fun ad ae =>
 oP E (xCall (fC 120) [x0, ab, ad]) ae fun _t36_143 af =>
 oP E (xBin .add 3 (.tmp 26) (.const (vI 1)) x6 (vI 1)) af fun ag ah =>
 next7 [ag] ah)
 (j1 [] b)
def F85 (x0 x1 x2 w) (R : RT) (E) :=
 oP E (xV (Instr.box 73 x1)) w fun a c =>
 oP E (xCall (fC 84) [x0, x2]) c fun d e =>
 oP E (xV (Op.unary .not d)) e fun f b =>
 xcond f
 (R (Value.tuple #[]) b)
 (xcut (fun _ g => c0b x0 x2 a g R E) fun j1 =>
 xloop [6] [(vI 0)] b fun i j next7 =>
 c4L x0 x2 a (i 6) j next7 j1 R E)
def h85 : Hint := (sQ (hS (sQ (hC hN hN)) (hU [] (sQ (hB (hL [6] (hS (sQ (hC hN hN)) (hS (hB hN) hN))))) (hU [] (sQ (hB (hL [7] (hS (sQ (hC hN hN)) (hS (hB hN) hN))))) (hU [] (sQ (hB (hL [8] (hS (sQ (hC hN hN)) (hS (hB hN) hN))))) (sQ (hB (hL [9] (hS (sQ (hC hN hN)) (hS (hB hN) hN))))))))))
theorem d1m {x0 x1 x2 : Value} (h : F85 x0 x1 x2 w R E) : Cv pG 85 #[x0, x1, x2] w R E := okF (h := h85) Tryz.func85 (by kernel_rfl) (by kernel_rfl) h
def b7i (w) (R : RT) (_E : Pan) :=
 ∀ _τ : Fr, (R (vB true) w)
def c2j (x1 x2 x3 x9 x10 x11 w) (next2 : NT) (j1 : NT) (R : RT) (E) :=
 oP E (xBin .lss 3 (.tmp 11) (.tmp 10) x11 x10) w fun i f =>
 xcond i
 (oP E (iA 137 x9 x11) f fun j k =>
 oP E (lA 150 j) k fun g l =>
 dX l fun c =>
 qL pG c (blk x2) (lA 102 x2) fun m =>
 oP E (xCall (fC 111) [m, g, x1]) c fun n b =>
 keepX [] c b (qP pG (xV (Op.unary .not n)) fun a =>
 qP pG (gsem (asB a) false (xBin .add 3 (.tmp 24) (.const (vI 1)) (gval (asB a) false x1) (vI 1))) fun o =>
 qL pG b (blk x3) (gsem (asB a) false (lA 170 x3)) fun p =>
 oP E (gsem (asB a) false (xInvoke (gval (asB a) false g) "gnomon/tree.parts" [])) b fun q d =>
 keepX [(blk x3)] b d (opK pG E (gsem (asB a) false (xCall p [q, o])) d fun r e =>
 keepX [] d e (qP pG (gsem (asB a) false (xV (Op.unary .not r))) fun s =>
 qP pG (xPick a (vB true) s) fun t =>
 xcond t
 (R (vB false) e)
 (oP E (xBin .add 3 (.tmp 11) (.const (vI 1)) x11 (vI 1)) e fun u v =>
 next2 [u] v)))))
 (j1 [] f)
def d1n (x0 x1 x2 x3 w) (R : RT) (E) :=
 xcut (fun _ a => b7i a R E) fun j1 =>
 oP E (xBuiltin .len #[137] 3 [false] [x0]) w fun b c =>
 xloop [11] [(vI 0)] c fun d e next2 =>
 c2j x1 x2 x3 x0 b (d 11) e next2 j1 R E
def d4K : Hint := (sQ (hU [] (sQ (hB (hL [11] (sQ (hS (hC hN hN) (hS (hB (sQ (hS (.reg [(0, 32768, 4), (0, 65536, 256), (0, 131072, 2), (7, 262144, 229376), (8, 524288, 262144), (24, 1048576, 524288), (32, 2097152, 1048584), (32, 4194304, 1048832), (160, 8388608, 5242880), (32, 16777216, 1048578), (544, 33554432, 17825792), (1376, 67108864, 45088768), (2080, 134217728, 68157440), (4128, 268435456, 135266304)] [64, 65, 65, 0, 65, 65, 1, 65, 64, 65, 65, 0, 65, 65] (.early 1 (.early 2 (.load 0 (.step 3 (.early 4 (.early 5 (.early 7 (.early 9 (.early 10 (.load 6 (.step 8 (.step 11 (.early 12 (.early 13 .done))))))))))))))) (hC (sQ hN) hN)))) hN)))))) (sQ hN)))
theorem c8m {x0 x1 x2 x3 : Value} (h : d1n x0 x1 x2 x3 w R E) : Cv pG 110 #[x0, x1, x2, x3] w R E := okF (h := d4K) Tryz.func110 (by kernel_rfl) (by kernel_rfl) h
def b7j (w) (R : RT) (_E : Pan) :=
 ∀ _τ : Fr, (R (vB true) w)
def d1o (x0 x1 x2 w) (R : RT) (E) :=
 oP E (xNil x0) w fun j k =>
 oP E (fA 101 j 0) k fun l m =>
 oP E (lA 3 l) m fun n o =>
 oP E (xBin .add 3 (.tmp 12) (.const (vI 1)) n (vI 1)) o fun p q =>
 oP E (xNil x0) q fun r s =>
 oP E (fA 101 r 0) s fun t u =>
 oP E (sA 3 t p) u fun _ v =>
 oP E (xNil x0) v fun y z =>
 oP E (fA 101 y 0) z fun aa ab =>
 oP E (lA 3 aa) ab fun ac ad =>
 oP E (xBin .gtr 3 (.tmp 19) (.const (vI 4096)) ac (vI 4096)) ad fun ae d =>
 xcond ae
 (oP E (xNil x0) d fun af ag =>
 oP E (fA 101 af 2) ag fun ah ai =>
 oP E (sA 27 ah (vI 33)) ai fun _ aj =>
 R (vB false) aj)
 (oP E (xBin .gtr 3 (.tmp 24) (.const (vI 64)) x2 (vI 64)) d fun ak e =>
 xcond ak
 (oP E (xNil x0) e fun al am =>
 oP E (fA 101 al 2) am fun an ao =>
 oP E (sA 27 an (vI 32)) ao fun _ ap =>
 R (vB false) ap)
 (oP E (xNil x0) e fun aq ar =>
 oP E (fA 101 aq 1) ar fun au av =>
 oP E (lA 3 au) av fun aw ax =>
 oP E (xBuiltin .max #[3, 3] 3 [false, false] [aw, x2]) ax fun ay az =>
 oP E (xNil x0) az fun ba bb =>
 oP E (fA 101 ba 1) bb fun bc bd =>
 oP E (sA 3 bc ay) bd fun _ be =>
 oP E (xNil x0) be fun bf bg =>
 oP E (fA 101 bf 3) bg fun bh bi =>
 oP E (lA 4 bh) bi fun a bj =>
 oP E (gsem (asB a) false (xInvoke (gval (asB a) false x1) "gnomon/tree.form" [])) bj fun bk bl =>
 oP E (gsem (asB a) false (xV (Op.unary .not bk))) bl fun bm bn =>
 oP E (xPick a (vB true) bm) bn fun bo bp =>
 oP E (xNil x0) bp fun bq br =>
 oP E (fA 101 bq 3) br fun bs bt =>
 oP E (sA 4 bs bo) bt fun _ bu =>
 xcut (fun _ bv => b7j bv R E) fun j1 =>
 oP E (xCall (fC 143) [x1]) bu fun f bw =>
 oP E (eX f 0) bw fun c bz =>
 oP E (eX f 1) bz fun ca g =>
 xcond ca
 (oP E (xNil x0) g fun cb cc =>
 oP E (fA 101 cb 4) cc fun cd ce =>
 oP E (lA 4 cd) ce fun b cf =>
 oP E (gsem (asB b) false (xCall (fC 144) [(gval (asB b) false c)])) cf fun cg ch =>
 oP E (gsem (asB b) false (xV (Op.unary .not cg))) ch fun ci cj =>
 oP E (xPick b (vB true) ci) cj fun ck cl =>
 oP E (xNil x0) cl fun cm cn =>
 oP E (fA 101 cm 4) cn fun co cp =>
 oP E (sA 4 co ck) cp fun _ cq =>
 oP E (xNil x0) cq fun cr cs =>
 oP E (fA 101 cr 5) cs fun ct cu =>
 oP E (lA 88 ct) cu fun cv cw =>
 oP E (xCall (fC 145) [cv, c]) cw fun cx cy =>
 oP E (xV (Op.unary .not cx)) cy fun cz i =>
 xcond cz
 (oP E (xNil x0) i fun da db =>
 oP E (fA 101 da 5) db fun dc dd =>
 oP E (lA 88 dc) dd fun de df =>
 oP E (xV (Instr.buildSlice 88 1 #[(0, c)])) df fun dg dh =>
 oP E (xBuiltin .append #[88, 88] 88 [false, false] [de, dg]) dh fun di dj =>
 oP E (xNil x0) dj fun dk dl =>
 oP E (fA 101 dk 5) dl fun dm dn =>
 oP E (sA 88 dm di) dn fun _ dp =>
 j1 [] dp)
 (j1 [] i))
 (j1 [] g)))
def d4L : Hint := (sQ (hS (sQ (sQ (hC (sQ (sQ hN)) hN))) (hS (sQ (hC (sQ (sQ hN)) hN)) (sQ (sQ (hU [] (sQ (sQ (hC (sQ (sQ (hC hN hN))) hN))) (sQ hN)))))))
theorem c8n {x0 x1 x2 : Value} (h : d1o x0 x1 x2 w R E) : Cv pG 111 #[x0, x1, x2] w R E := okF (h := d4L) Tryz.func111 (by kernel_rfl) (by kernel_rfl) h
def b7k (x0 w) (R : RT) (_E : Pan) :=
 ∀ _τ : Fr, (R x0 w)
def c2k (x0 x1 w) (R : RT) (E) :=
 ∀ _τ : Fr, (xcut (fun c d => b7k (nth c 0) d R E) fun j2 =>
 oP E (xBuiltin .cap #[137] 3 [false] [x0]) w fun e f =>
 oP E (xBuiltin .len #[137] 3 [false] [x0]) f fun g i =>
 oP E (xBin .sub 3 (.tmp 10) (.tmp 12) e g) i fun j k =>
 oP E (xBin .sub 3 (.tmp 8) (.tmp 13) x1 j) k fun a l =>
 oP E (xBin .gtr 3 (.tmp 15) (.const (vI 0)) a (vI 0)) l fun m b =>
 xcond m
 (oP E (xBuiltin .cap #[137] 3 [false] [x0]) b fun n o =>
 oP E (xV (Instr.sliceAt 137 x0 none (some n) none)) o fun p q =>
 oP E (xBuiltin .append #[137, 3] 137 [false, false] [p, a]) q fun r s =>
 oP E (xBuiltin .len #[137] 3 [false] [x0]) s fun t u =>
 oP E (xV (Instr.sliceAt 137 r none (some t) none)) u fun v y =>
 j2 [v] y)
 (j2 [x0] b))
def d1p (x0 x1 w) (R : RT) (E) :=
 xcut (fun _ b => c2k x0 x1 b R E) fun j1 =>
 oP E (xBin .lss 3 (.tmp 5) (.const (vI 0)) x1 (vI 0)) w fun c a =>
 xcond c
 (oP E (xV (Instr.makeInterface 9 (Value.string ⟨#[99, 97, 110, 110, 111, 116, 32, 98, 101, 32, 110, 101, 103, 97, 116, 105, 118, 101]⟩))) a fun d e =>
 oP E (xV (Instr.panic d)) e fun _ f =>
 j1 [] f)
 (j1 [] a)
def d4M : Hint := (sQ (hU [] (sQ (hC hN hN)) (hU [0] (sQ (sQ (hC hN hN))) (sQ hN))))
theorem c8o {x0 x1 : Value} (h : d1p x0 x1 w R E) : Cv pG 119 #[x0, x1] w R E := okF (h := d4M) Tryz.func119 (by kernel_rfl) (by kernel_rfl) h
def c2l (x0 x2 x4 x7 w) (next2 : NT) (R : RT) (E) :=
 oP E (fA 59 x4 3) w fun c d =>
 oP E (lA 57 c) d fun e f =>
 oP E (xBuiltin .len #[57] 3 [false] [e]) f fun g i =>
 oP E (xBin .lss 3 (.tmp 35) (.tmp 38) x7 g) i fun a j =>
 oP E (gsem (asB a) true (xNil (gval (asB a) true x0))) j fun k l =>
 oP E (gsem (asB a) true (fA 108 k 2)) l fun m n =>
 oP E (gsem (asB a) true (lA 3 m)) n fun o p =>
 oP E (gsem (asB a) true (xBin .eql 3 (.tmp 44) (.const (vI 0)) o (vI 0))) p fun q r =>
 oP E (xPick a q (vB false)) r fun s b =>
 xcond s
 (oP E (fA 59 x4 3) b fun t u =>
 oP E (lA 57 t) u fun v y =>
 oP E (iA 57 v x7) y fun z aa =>
 oP E (lA 59 z) aa fun ab ac =>
 oP E (xBin .add 3 (.tmp 55) (.const (vI 1)) x2 (vI 1)) ac fun ad ae =>
 oP E (xCall (fC 120) [x0, ab, ad]) ae fun _t57_35 af =>
 oP E (xBin .add 3 (.tmp 47) (.const (vI 1)) x7 (vI 1)) af fun ag ah =>
 next2 [ag] ah)
 (R (Value.tuple #[]) b)
def b7l (x0 x2 x4 w) (R : RT) (E) :=
 ∀ _τ : Fr, (xloop [7] [(vI 0)] w fun a b next2 =>
 c2l x0 x2 x4 (a 7) b next2 R E)
def c2m (x0 x2 x4 x6 w) (next3 : NT) (j1 : NT) (_R : RT) (E) :=
 oP E (fA 59 x4 2) w fun c d =>
 oP E (lA 51 c) d fun e f =>
 oP E (xBuiltin .len #[51] 3 [false] [e]) f fun g i =>
 oP E (xBin .lss 3 (.tmp 12) (.tmp 15) x6 g) i fun a j =>
 oP E (gsem (asB a) true (xNil (gval (asB a) true x0))) j fun k l =>
 oP E (gsem (asB a) true (fA 108 k 2)) l fun m n =>
 oP E (gsem (asB a) true (lA 3 m)) n fun o p =>
 oP E (gsem (asB a) true (xBin .eql 3 (.tmp 21) (.const (vI 0)) o (vI 0))) p fun q r =>
 oP E (xPick a q (vB false)) r fun s b =>
 xcond s
 (oP E (fA 59 x4 2) b fun t u =>
 oP E (lA 51 t) u fun v y =>
 oP E (iA 51 v x6) y fun z aa =>
 oP E (lA 53 z) aa fun ab ac =>
 oP E (xBin .add 3 (.tmp 32) (.const (vI 1)) x2 (vI 1)) ac fun ad ae =>
 oP E (xCall (fC 121) [x0, ab, ad]) ae fun _t34_71 af =>
 oP E (xBin .add 3 (.tmp 24) (.const (vI 1)) x6 (vI 1)) af fun ag ah =>
 next3 [ag] ah)
 (j1 [] b)
def d1q (x0 x1 x2 w) (R : RT) (E) :=
 oP E (xV (Instr.box 59 x1)) w fun a c =>
 oP E (xCall (fC 84) [x0, x2]) c fun d e =>
 oP E (xV (Op.unary .not d)) e fun f b =>
 xcond f
 (R (Value.tuple #[]) b)
 (xcut (fun _ g => b7l x0 x2 a g R E) fun j1 =>
 xloop [6] [(vI 0)] b fun i j next3 =>
 c2m x0 x2 a (i 6) j next3 j1 R E)
def d4N : Hint := (sQ (hS (sQ (hC hN hN)) (hU [] (sQ (hB (hL [6] (hS (sQ (hC hN hN)) (hS (hB hN) hN))))) (sQ (hB (hL [7] (hS (sQ (hC hN hN)) (hS (hB hN) hN))))))))
theorem c8p {x0 x1 x2 : Value} (h : d1q x0 x1 x2 w R E) : Cv pG 120 #[x0, x1, x2] w R E := okF (h := d4N) Tryz.func120 (by kernel_rfl) (by kernel_rfl) h
def c2n (x0 x2 x4 x6 w) (next1 : NT) (R : RT) (E) :=
 oP E (fA 53 x4 3) w fun c d =>
 oP E (lA 51 c) d fun e f =>
 oP E (xBuiltin .len #[51] 3 [false] [e]) f fun g i =>
 oP E (xBin .lss 3 (.tmp 11) (.tmp 14) x6 g) i fun a j =>
 oP E (gsem (asB a) true (xNil (gval (asB a) true x0))) j fun k l =>
 oP E (gsem (asB a) true (fA 108 k 2)) l fun m n =>
 oP E (gsem (asB a) true (lA 3 m)) n fun o p =>
 oP E (gsem (asB a) true (xBin .eql 3 (.tmp 20) (.const (vI 0)) o (vI 0))) p fun q r =>
 oP E (xPick a q (vB false)) r fun s b =>
 xcond s
 (oP E (fA 53 x4 3) b fun t u =>
 oP E (lA 51 t) u fun v y =>
 oP E (iA 51 v x6) y fun z aa =>
 oP E (lA 53 z) aa fun ab ac =>
 oP E (xBin .add 3 (.tmp 31) (.const (vI 1)) x2 (vI 1)) ac fun ad ae =>
 oP E (xCall (fC 121) [x0, ab, ad]) ae fun _t33_35 af =>
 oP E (xBin .add 3 (.tmp 23) (.const (vI 1)) x6 (vI 1)) af fun ag ah =>
 next1 [ag] ah)
 (R (Value.tuple #[]) b)
def d1r (x0 x1 x2 w) (R : RT) (E) :=
 oP E (xV (Instr.box 53 x1)) w fun b c =>
 oP E (xCall (fC 84) [x0, x2]) c fun d e =>
 oP E (xV (Op.unary .not d)) e fun f a =>
 xcond f
 (R (Value.tuple #[]) a)
 (xloop [6] [(vI 0)] a fun g i next1 =>
 c2n x0 x2 b (g 6) i next1 R E)
def d4O : Hint := (sQ (hS (sQ (hC hN hN)) (sQ (hB (hL [6] (hS (sQ (hC hN hN)) (hS (hB hN) hN)))))))
theorem c8q {x0 x1 x2 : Value} (h : d1r x0 x1 x2 w R E) : Cv pG 121 #[x0, x1, x2] w R E := okF (h := d4O) Tryz.func121 (by kernel_rfl) (by kernel_rfl) h
def d1s (x0 w) (R : RT) (E) :=
 oP E (xV (Instr.typeAssert x0 150 182 true)) w fun g u =>
 oP E (eX g 1) u fun v y =>
 oP E (eX g 0) y fun z i =>
 xcond v
 (oP E (xV (Instr.alloc 182 true (.tuple #[]))) i fun j aa =>
 oP E (sA 182 j z) aa fun _ ab =>
 oP E (fA 182 j 0) ab fun ac ad =>
 oP E (fA 71 ac 0) ad fun ae af =>
 oP E (lA 9 ae) af fun ag ah =>
 R (Value.tuple #[ag, (vB true)]) ah)
 (oP E (xV (Instr.typeAssert x0 150 184 true)) i fun k ai =>
 oP E (eX k 1) ai fun aj ak =>
 oP E (eX k 0) ak fun al l =>
 xcond aj
 (oP E (xV (Instr.alloc 184 true (.tuple #[]))) l fun c am =>
 oP E (sA 184 c al) am fun _ an =>
 dX an fun d =>
 qP pG (fA 184 c 0) fun ao =>
 qP pG (fA 73 ao 1) fun m =>
 qP pG (fA 184 c 0) fun ap =>
 qP pG (fA 73 ap 0) fun n =>
 qL pG d (blk m) (lA 9 m) fun aq =>
 qL pG d (blk n) (lA 3 n) fun ar =>
 qP pG (xBin .eql 3 (.tmp 22) (.const (vI 1)) ar (vI 1)) fun a =>
 qP pG (gsem (asB a) false (fA 184 c 0)) fun au =>
 qP pG (gsem (asB a) false (fA 73 au 0)) fun o =>
 qL pG d (blk o) (gsem (asB a) false (lA 3 o)) fun av =>
 qP pG (gsem (asB a) false (xBin .eql 3 (.tmp 27) (.const (vI 2)) av (vI 2))) fun aw =>
 qP pG (xPick a (vB true) aw) fun ax =>
 R (Value.tuple #[aq, ax]) d)
 (oP E (xV (Instr.typeAssert x0 150 136 true)) l fun p ay =>
 oP E (eX p 1) ay fun az ba =>
 oP E (eX p 0) ba fun bb q =>
 xcond az
 (oP E (xV (Instr.alloc 136 true (.tuple #[]))) q fun e bc =>
 oP E (sA 136 e bb) bc fun _ bd =>
 dX bd fun f =>
 qP pG (fA 136 e 0) fun be =>
 qP pG (fA 53 be 2) fun r =>
 qP pG (fA 136 e 0) fun bf =>
 qP pG (fA 53 bf 0) fun s =>
 qL pG f (blk r) (lA 9 r) fun bg =>
 qL pG f (blk s) (lA 3 s) fun bh =>
 qP pG (xBin .eql 3 (.tmp 38) (.const (vI 2)) bh (vI 2)) fun b =>
 qP pG (gsem (asB b) false (fA 136 e 0)) fun bi =>
 qP pG (gsem (asB b) false (fA 53 bi 0)) fun t =>
 qL pG f (blk t) (gsem (asB b) false (lA 3 t)) fun bj =>
 qP pG (gsem (asB b) false (xBin .eql 3 (.tmp 43) (.const (vI 4)) bj (vI 4))) fun bk =>
 qP pG (xPick b (vB true) bk) fun bl =>
 R (Value.tuple #[bg, bl]) f)
 (R (Value.tuple #[(eS), (vB false)]) q)))
def d4P : Hint := (sQ (hS (sQ (hB (sQ (hC (sQ (sQ hN)) (sQ (hC (sQ (hS (.reg [(0, 131072, 32), (1, 262144, 131072), (2, 524288, 262144), (0, 1048576, 32), (8, 2097152, 1048576), (16, 4194304, 2097152), (32, 8388608, 4194304), (64, 16777216, 8388608), (128, 33554432, 16777248), (384, 67108864, 50331648), (640, 134217728, 83886080), (1152, 268435456, 150994944), (2176, 536870912, 285212672), (135, 4, 524288), (16383, 8, 536870912)] [1060, 1060, 1056, 1060, 1060, 1028, 1060, 1060, 1060, 1060, 36, 1060, 1060, 1060, 1060] (.early 0 (.early 1 (.early 3 (.early 4 (.load 2 (.load 5 (.early 6 (.early 7 (.early 8 (.early 9 (.early 13 (.load 10 (.early 11 (.early 12 (.early 14 .done)))))))))))))))) hN)) (sQ (hC (sQ (hS (.reg [(0, 8589934592, 64), (1, 17179869184, 8589934592), (2, 34359738368, 17179869184), (0, 68719476736, 64), (8, 137438953472, 68719476736), (16, 274877906944, 137438953472), (32, 549755813888, 274877906944), (64, 1099511627776, 549755813888), (128, 2199023255552, 1099511627840), (384, 4398046511104, 3298534883328), (640, 8796093022208, 5497558138880), (1152, 17592186044416, 9895604649984), (2176, 35184372088832, 18691697672192), (135, 4, 34359738368), (16383, 8, 35184372088832)] [1060, 1060, 1056, 1060, 1060, 1028, 1060, 1060, 1060, 1060, 36, 1060, 1060, 1060, 1060] (.early 0 (.early 1 (.early 3 (.early 4 (.load 2 (.load 5 (.early 6 (.early 7 (.early 8 (.early 9 (.early 13 (.load 10 (.early 11 (.early 12 (.early 14 .done)))))))))))))))) hN)) hN)))))))) (sQ hN)))
theorem c8r {x0 : Value} (h : d1s x0 w R E) : Cv pG 143 #[x0] w R E := okF (h := d4P) Tryz.func143 (by kernel_rfl) (by kernel_rfl) h
def b7m (w) (R : RT) (_E : Pan) :=
 ∀ _τ : Fr, (R (vB true) w)
def c2o (x21 w) (next2 : NT) (j1 : NT) (R : RT) (E) :=
 oP E (xV (Instr.next x21 true 0)) w fun c g =>
 oP E (eX c 0) g fun i d =>
 xcond i
 (oP E (eX c 1) d fun j k =>
 oP E (eX c 2) k fun e l =>
 oP E (xCall (fC 165) [e]) l fun m n =>
 oP E (xV (Op.unary .not m)) n fun a o =>
 oP E (gsem (asB a) false (xBin .eql 3 (.tmp 30) (.const (vI 0)) (gval (asB a) false j) (vI 0))) o fun b p =>
 oP E (gsem (asB (gval (asB a) false b)) true (xCall (fC 166) [(gval (asB (gval (asB a) false b)) true e)])) p fun q r =>
 oP E (gsem (asB (gval (asB a) false b)) true (xBin .neq 3 (.tmp 34) (.const (vI 3)) q (vI 3))) r fun s t =>
 oP E (gsem (asB a) false (xPick (gval (asB a) false b) s (vB false))) t fun u v =>
 oP E (xPick a (vB true) u) v fun y f =>
 xcond y
 (R (vB false) f)
 (next2 [] f))
 (j1 [] d)
def d1t (x0 w) (R : RT) (E) :=
 oP E (xBin .eql 9 (.tmp 5) (.const (eS)) x0 (eS)) w fun a e =>
 oP E (gsem (asB a) false (xCall (fC 162) [(gval (asB a) false x0)])) e fun f g =>
 oP E (gsem (asB a) false (xV (Op.unary .not f))) g fun i j =>
 oP E (xPick a (vB true) i) j fun b k =>
 oP E (gsem (asB b) false (xCall (fC 163) [(gval (asB b) false x0)])) k fun l m =>
 oP E (xPick b (vB true) l) m fun c n =>
 oP E (gsem (asB c) false (xCall (fC 164) [(gval (asB c) false x0)])) n fun o p =>
 oP E (xPick c (vB true) o) p fun q d =>
 xcond q
 (R (vB false) d)
 (xcut (fun _ r => b7m r R E) fun j1 =>
 oP E (xV (Instr.range 9 x0)) d fun s t =>
 xloop [] [] t fun _ u next2 =>
 c2o s u next2 j1 R E)
def d4Q : Hint := (sQ (hS (sQ (hC (sQ hN) hN)) (hU [] (sQ (hB (hL [] (sQ (hS (hC hN hN) (hB (sQ (sQ (hC (sQ hN) hN))))))))) (sQ hN))))
theorem c8s {x0 : Value} (h : d1t x0 w R E) : Cv pG 144 #[x0] w R E := okF (h := d4Q) Tryz.func144 (by kernel_rfl) (by kernel_rfl) h
def d1u (x0 x1 w) (R : RT) (E) :=
 oP E (xCall (fC 167) [x0, x1]) w fun a b =>
 oP E (xBin .geq 3 (.tmp 7) (.const (vI 0)) a (vI 0)) b fun c d =>
 R c d
def d4R : Hint := (sQ (sQ hN))
theorem c8t {x0 x1 : Value} (h : d1u x0 x1 w R E) : Cv pG 145 #[x0, x1] w R E := okF (h := d4R) Tryz.func145 (by kernel_rfl) (by kernel_rfl) h
def d1v (x0 w) (R : RT) (E) :=
 oP E (xCall (fC 169) [x0]) w fun a b =>
 oP E (xBin .gtr 3 (.tmp 4) (.const (vI 32)) a (vI 32)) b fun c d =>
 R c d
def d4S : Hint := (sQ (sQ hN))
theorem c8u {x0 : Value} (h : d1v x0 w R E) : Cv pG 163 #[x0] w R E := okF (h := d4S) Tryz.func163 (by kernel_rfl) (by kernel_rfl) h
def b7n (x4 w) (R : RT) (_E : Pan) :=
 ∀ _τ : Fr, (xcond x4
 (R (vB true) w)
 (R (vB false) w))
def d1w (x0 w) (R : RT) (E) :=
 xcut (fun v y => b7n (nth v 0) y R E) fun j1 =>
 oP E (xBin .eql 9 (.tmp 3) (.const (Value.string ⟨#[118, 97, 114]⟩)) x0 (Value.string ⟨#[118, 97, 114]⟩)) w fun a b =>
 xcond a
 (j1 [a] b)
 (oP E (xBin .eql 9 (.tmp 3) (.const (Value.string ⟨#[97, 114, 114, 97, 121]⟩)) x0 (Value.string ⟨#[97, 114, 114, 97, 121]⟩)) b fun c d =>
 xcond c
 (j1 [c] d)
 (oP E (xBin .eql 9 (.tmp 3) (.const (Value.string ⟨#[105, 102]⟩)) x0 (Value.string ⟨#[105, 102]⟩)) d fun e f =>
 xcond e
 (j1 [e] f)
 (oP E (xBin .eql 9 (.tmp 3) (.const (Value.string ⟨#[101, 108, 115, 101]⟩)) x0 (Value.string ⟨#[101, 108, 115, 101]⟩)) f fun g i =>
 xcond g
 (j1 [g] i)
 (oP E (xBin .eql 9 (.tmp 3) (.const (Value.string ⟨#[119, 104, 105, 108, 101]⟩)) x0 (Value.string ⟨#[119, 104, 105, 108, 101]⟩)) i fun j k =>
 xcond j
 (j1 [j] k)
 (oP E (xBin .eql 9 (.tmp 3) (.const (Value.string ⟨#[97, 115, 115, 101, 114, 116]⟩)) x0 (Value.string ⟨#[97, 115, 115, 101, 114, 116]⟩)) k fun l m =>
 xcond l
 (j1 [l] m)
 (oP E (xBin .eql 9 (.tmp 3) (.const (Value.string ⟨#[97, 115, 115, 117, 109, 101]⟩)) x0 (Value.string ⟨#[97, 115, 115, 117, 109, 101]⟩)) m fun n o =>
 xcond n
 (j1 [n] o)
 (oP E (xBin .eql 9 (.tmp 3) (.const (Value.string ⟨#[115, 107, 105, 112]⟩)) x0 (Value.string ⟨#[115, 107, 105, 112]⟩)) o fun p q =>
 xcond p
 (j1 [p] q)
 (oP E (xBin .eql 9 (.tmp 3) (.const (Value.string ⟨#[105, 110, 112, 117, 116]⟩)) x0 (Value.string ⟨#[105, 110, 112, 117, 116]⟩)) q fun r s =>
 xcond r
 (j1 [r] s)
 (oP E (xBin .eql 9 (.tmp 3) (.const (Value.string ⟨#[116, 114, 117, 101]⟩)) x0 (Value.string ⟨#[116, 114, 117, 101]⟩)) s fun t u =>
 xcond t
 (j1 [t] u)
 (oP E (xBin .eql 9 (.tmp 3) (.const (Value.string ⟨#[102, 97, 108, 115, 101]⟩)) x0 (Value.string ⟨#[102, 97, 108, 115, 101]⟩)) u fun z aa =>
 j1 [z] aa))))))))))
def d4T : Hint := (sQ (hS (sQ (hB (hU [4] (sQ (hC hN (sQ (hC hN (sQ (hC hN (sQ (hC hN (sQ (hC hN (sQ (hC hN (sQ (hC hN (sQ (hC hN (sQ (hC hN (sQ (hC hN hN)))))))))))))))))))) (hC (sQ hN) hN)))) (sQ hN)))
theorem c8v {x0 : Value} (h : d1w x0 w R E) : Cv pG 164 #[x0] w R E := okF (h := d4T) Tryz.func164 (by kernel_rfl) (by kernel_rfl) h
def d1x (x0 w) (R : RT) (E) :=
 oP E (xCall (fC 166) [x0]) w fun b c =>
 oP E (xBin .eql 3 (.tmp 6) (.const (vI 3)) b (vI 3)) c fun a d =>
 oP E (gsem (asB a) false (xBin .eql 3 (.tmp 9) (.const (vI 4)) (gval (asB a) false b) (vI 4))) d fun e f =>
 oP E (xPick a (vB true) e) f fun g i =>
 R g i
def d4U : Hint := (sQ (sQ (sQ hN)))
theorem c8w {x0 : Value} (h : d1x x0 w R E) : Cv pG 165 #[x0] w R E := okF (h := d4U) Tryz.func165 (by kernel_rfl) (by kernel_rfl) h
def b7o (x39 w) (R : RT) (_E : Pan) :=
 ∀ _τ : Fr, (xcond x39
 (R (vI 3) w)
 (R (vI 6) w))
def b7p (x1 x31 w) (R : RT) (E) :=
 ∀ _τ : Fr, (xcond x31
 (R (vI 6) w)
 (oP E (xV (Instr.makeFunc (.func 170) #[] #[x1])) w fun a n =>
 oP E (xCall a [(Value.int .i32 48), (Value.int .i32 57)]) n fun o b =>
 xcond o
 (R (vI 4) b)
 (xcut (fun p q => b7o (nth p 0) q R E) fun j4 =>
 oP E (lA 21 x1) b fun r s =>
 oP E (xBin .eql 21 (.tmp 40) (.const (Value.int .i32 95)) r (Value.int .i32 95)) s fun c d =>
 xcond c
 (j4 [c] d)
 (oP E (xCall a [(Value.int .i32 97), (Value.int .i32 122)]) d fun e f =>
 xcond e
 (j4 [e] f)
 (oP E (xCall a [(Value.int .i32 65), (Value.int .i32 90)]) f fun g i =>
 xcond g
 (j4 [g] i)
 (oP E (xCall a [(Value.int .i32 192), (Value.int .i32 591)]) i fun j k =>
 xcond j
 (j4 [j] k)
 (oP E (xCall a [(Value.int .i32 913), (Value.int .i32 969)]) k fun l m =>
 xcond l
 (j4 [l] m)
 (oP E (xCall a [(Value.int .i32 1040), (Value.int .i32 1103)]) m fun t u =>
 j4 [t] u))))))))
def b7q (x1 x4 x11 w) (R : RT) (E) :=
 ∀ _τ : Fr, (xcond x11
 (R (vI 5) w)
 (xcut (fun e f => b7p x1 (nth e 0) f R E) fun j3 =>
 oP E (xBin .eql 21 (.tmp 4) (.const (Value.int .i32 215)) x4 (Value.int .i32 215)) w fun a b =>
 xcond a
 (j3 [a] b)
 (oP E (xBin .eql 21 (.tmp 4) (.const (Value.int .i32 247)) x4 (Value.int .i32 247)) b fun c d =>
 xcond c
 (j3 [c] d)
 (oP E (xBin .eql 21 (.tmp 4) (.const (Value.int .i32 930)) x4 (Value.int .i32 930)) d fun g i =>
 j3 [g] i))))
def b7r (x1 x4 x5 w) (R : RT) (E) :=
 ∀ _τ : Fr, (xcond x5
 (R (vI 1) w)
 (oP E (xBin .eql 21 (.tmp 4) (.const (Value.int .i32 10)) x4 (Value.int .i32 10)) w fun ao a =>
 xcond ao
 (R (vI 2) a)
 (xcut (fun ap aq => b7q x1 x4 (nth ap 0) aq R E) fun j2 =>
 oP E (xBin .eql 21 (.tmp 4) (.const (Value.int .i32 59)) x4 (Value.int .i32 59)) a fun b c =>
 xcond b
 (j2 [b] c)
 (oP E (xBin .eql 21 (.tmp 4) (.const (Value.int .i32 44)) x4 (Value.int .i32 44)) c fun d e =>
 xcond d
 (j2 [d] e)
 (oP E (xBin .eql 21 (.tmp 4) (.const (Value.int .i32 123)) x4 (Value.int .i32 123)) e fun f g =>
 xcond f
 (j2 [f] g)
 (oP E (xBin .eql 21 (.tmp 4) (.const (Value.int .i32 125)) x4 (Value.int .i32 125)) g fun i j =>
 xcond i
 (j2 [i] j)
 (oP E (xBin .eql 21 (.tmp 4) (.const (Value.int .i32 40)) x4 (Value.int .i32 40)) j fun k l =>
 xcond k
 (j2 [k] l)
 (oP E (xBin .eql 21 (.tmp 4) (.const (Value.int .i32 41)) x4 (Value.int .i32 41)) l fun m n =>
 xcond m
 (j2 [m] n)
 (oP E (xBin .eql 21 (.tmp 4) (.const (Value.int .i32 91)) x4 (Value.int .i32 91)) n fun o p =>
 xcond o
 (j2 [o] p)
 (oP E (xBin .eql 21 (.tmp 4) (.const (Value.int .i32 93)) x4 (Value.int .i32 93)) p fun q r =>
 xcond q
 (j2 [q] r)
 (oP E (xBin .eql 21 (.tmp 4) (.const (Value.int .i32 61)) x4 (Value.int .i32 61)) r fun s t =>
 xcond s
 (j2 [s] t)
 (oP E (xBin .eql 21 (.tmp 4) (.const (Value.int .i32 33)) x4 (Value.int .i32 33)) t fun u v =>
 xcond u
 (j2 [u] v)
 (oP E (xBin .eql 21 (.tmp 4) (.const (Value.int .i32 60)) x4 (Value.int .i32 60)) v fun y z =>
 xcond y
 (j2 [y] z)
 (oP E (xBin .eql 21 (.tmp 4) (.const (Value.int .i32 62)) x4 (Value.int .i32 62)) z fun aa ab =>
 xcond aa
 (j2 [aa] ab)
 (oP E (xBin .eql 21 (.tmp 4) (.const (Value.int .i32 43)) x4 (Value.int .i32 43)) ab fun ac ad =>
 xcond ac
 (j2 [ac] ad)
 (oP E (xBin .eql 21 (.tmp 4) (.const (Value.int .i32 45)) x4 (Value.int .i32 45)) ad fun ae af =>
 xcond ae
 (j2 [ae] af)
 (oP E (xBin .eql 21 (.tmp 4) (.const (Value.int .i32 42)) x4 (Value.int .i32 42)) af fun ag ah =>
 xcond ag
 (j2 [ag] ah)
 (oP E (xBin .eql 21 (.tmp 4) (.const (Value.int .i32 47)) x4 (Value.int .i32 47)) ah fun ai aj =>
 xcond ai
 (j2 [ai] aj)
 (oP E (xBin .eql 21 (.tmp 4) (.const (Value.int .i32 37)) x4 (Value.int .i32 37)) aj fun ak al =>
 xcond ak
 (j2 [ak] al)
 (oP E (xBin .eql 21 (.tmp 4) (.const (Value.int .i32 38)) x4 (Value.int .i32 38)) al fun am an =>
 xcond am
 (j2 [am] an)
 (oP E (xBin .eql 21 (.tmp 4) (.const (Value.int .i32 124)) x4 (Value.int .i32 124)) an fun ar au =>
 j2 [ar] au)))))))))))))))))))))
def d1y (x0 w) (R : RT) (E) :=
 oP E (xV (Instr.box 21 x0)) w fun b g =>
 oP E (lA 21 b) g fun a i =>
 xcut (fun j k => b7r b a (nth j 0) k R E) fun j1 =>
 oP E (xBin .eql 21 (.tmp 4) (.const (Value.int .i32 32)) a (Value.int .i32 32)) i fun c d =>
 xcond c
 (j1 [c] d)
 (oP E (xBin .eql 21 (.tmp 4) (.const (Value.int .i32 9)) a (Value.int .i32 9)) d fun e f =>
 xcond e
 (j1 [e] f)
 (oP E (xBin .eql 21 (.tmp 4) (.const (Value.int .i32 13)) a (Value.int .i32 13)) f fun l m =>
 j1 [l] m))
def d4V : Hint := (sQ (hS (sQ (hB (hU [5] (sQ (hC hN (sQ (hC hN hN)))) (hC (sQ hN) (sQ (hC (sQ hN) (hU [11] (sQ (hC hN (sQ (hC hN (sQ (hC hN (sQ (hC hN (sQ (hC hN (sQ (hC hN (sQ (hC hN (sQ (hC hN (sQ (hC hN (sQ (hC hN (sQ (hC hN (sQ (hC hN (sQ (hC hN (sQ (hC hN (sQ (hC hN (sQ (hC hN (sQ (hC hN (sQ (hC hN hN)))))))))))))))))))))))))))))))))))) (hC (sQ hN) (hU [31] (sQ (hC hN (sQ (hC hN hN)))) (hC (sQ hN) hN)))))))))) (sQ (hS (hB (sQ (hC (sQ hN) (hU [39] (sQ (hC hN (sQ (hC hN (sQ (hC hN (sQ (hC hN (sQ (hC hN hN)))))))))) (hC (sQ hN) hN))))) (sQ hN)))))
theorem c8x {x0 : Value} (h : d1y x0 w R E) : Cv pG 166 #[x0] w R E := okF (h := d4V) Tryz.func166 (by kernel_rfl) (by kernel_rfl) h
def b7s (w) (R : RT) (_E : Pan) :=
 ∀ _τ : Fr, (R (vI (-1)) w)
def c2p (x0 x1 x7 x8 w) (next2 : NT) (j1 : NT) (R : RT) (E) :=
 oP E (xBin .lss 3 (.tmp 8) (.tmp 7) x8 x7) w fun c a =>
 xcond c
 (oP E (iA 88 x0 x8) a fun d e =>
 oP E (lA 9 d) e fun f g =>
 oP E (xBin .eql 9 (.tmp 11) (.tmp 15) x1 f) g fun i b =>
 xcond i
 (R x8 b)
 (oP E (xBin .add 3 (.tmp 8) (.const (vI 1)) x8 (vI 1)) b fun j k =>
 next2 [j] k))
 (j1 [] a)
def d1z (x0 x1 w) (R : RT) (E) :=
 xcut (fun _ a => b7s a R E) fun j1 =>
 oP E (xBuiltin .len #[88] 3 [false] [x0]) w fun b c =>
 xloop [8] [(vI 0)] c fun d e next2 =>
 c2p x0 x1 b (d 8) e next2 j1 R E
def d4W : Hint := (sQ (hU [] (sQ (hB (hL [8] (sQ (hS (hC hN hN) (hS (hB (sQ (sQ (hC (sQ hN) hN)))) hN)))))) (sQ hN)))
theorem c8y {x0 x1 : Value} (h : d1z x0 x1 w R E) : Cv pG 167 #[x0, x1] w R E := okF (h := d4W) Tryz.func167 (by kernel_rfl) (by kernel_rfl) h
def b7t (x2 w) (R : RT) (_E : Pan) :=
 ∀ _τ : Fr, (R x2 w)
def c2q (x2 x4 w) (next2 : NT) (j1 : NT) (_R : RT) (E) :=
 oP E (xV (Instr.next x4 true 0)) w fun b c =>
 oP E (eX b 0) c fun d a =>
 xcond d
 (oP E (xBin .add 3 (.tmp 7) (.const (vI 1)) x2 (vI 1)) a fun e f =>
 next2 [e] f)
 (j1 [x2] a)
def d1A (x0 w) (R : RT) (E) :=
 xcut (fun a b => b7t (nth a 0) b R E) fun j1 =>
 oP E (xV (Instr.range 9 x0)) w fun c d =>
 xloop [2] [(vI 0)] d fun e f next2 =>
 c2q (e 2) c f next2 j1 R E
def d4X : Hint := (sQ (hU [2] (sQ (hB (hL [2] (sQ (hS (hC hN hN) (hB hN)))))) (sQ hN)))
theorem c8z {x0 : Value} (h : d1A x0 w R E) : Cv pG 169 #[x0] w R E := okF (h := d4X) Tryz.func169 (by kernel_rfl) (by kernel_rfl) h
def d1B (x0 x1 x2 w) (R : RT) (E) :=
 oP E (lA 21 x2) w fun b c =>
 oP E (xBin .leq 21 (.tmp 6) (.tmp 7) x0 b) c fun a d =>
 oP E (gsem (asB a) true (lA 21 x2)) d fun e f =>
 oP E (gsem (asB a) true (xBin .leq 21 (.tmp 10) (.tmp 11) e (gval (asB a) true x1))) f fun g i =>
 oP E (xPick a g (vB false)) i fun j k =>
 R j k
def d4Y : Hint := (sQ (sQ hN))
theorem c8A {x0 x1 x2 : Value} (h : d1B x0 x1 x2 w R E) : Cv pG 170 #[x0, x1, x2] w R E := okF (h := d4Y) Tryz.func170 (by kernel_rfl) (by kernel_rfl) h
def b7u (x3 x59 w) (R : RT) (E) :=
 ∀ _τ : Fr, (xcond x59
 (oP E (xBin .eql 3 (.tmp 65) (.const (vI 2)) x3 (vI 2)) w fun a b =>
 R a b)
 (R (vB false) w))
def b7v (x3 x38 x54 w) (R : RT) (E) :=
 ∀ _τ : Fr, (xcond x54
 (oP E (xBin .eql 3 (.tmp 57) (.const (vI 1)) x3 (vI 1)) w fun j k =>
 R j k)
 (xcut (fun l m => b7u x3 (nth l 0) m R E) fun j3 =>
 oP E (xBin .eql 3 (.tmp 38) (.const (vI 6)) x38 (vI 6)) w fun a b =>
 xcond a
 (j3 [a] b)
 (oP E (xBin .eql 3 (.tmp 38) (.const (vI 7)) x38 (vI 7)) b fun c d =>
 xcond c
 (j3 [c] d)
 (oP E (xBin .eql 3 (.tmp 38) (.const (vI 8)) x38 (vI 8)) d fun e f =>
 xcond e
 (j3 [e] f)
 (oP E (xBin .eql 3 (.tmp 38) (.const (vI 9)) x38 (vI 9)) f fun g i =>
 xcond g
 (j3 [g] i)
 (oP E (xBin .eql 3 (.tmp 38) (.const (vI 10)) x38 (vI 10)) i fun n o =>
 j3 [n] o))))))
def b7w (x3 x38 x49 w) (R : RT) (E) :=
 ∀ _τ : Fr, (xcond x49
 (oP E (xBin .eql 3 (.tmp 52) (.const (vI 0)) x3 (vI 0)) w fun c d =>
 R c d)
 (xcut (fun e f => b7v x3 x38 (nth e 0) f R E) fun j2 =>
 oP E (xBin .eql 3 (.tmp 38) (.const (vI 4)) x38 (vI 4)) w fun a b =>
 xcond a
 (j2 [a] b)
 (oP E (xBin .eql 3 (.tmp 38) (.const (vI 5)) x38 (vI 5)) b fun g i =>
 j2 [g] i)))
def d1C (x0 w) (R : RT) (E) :=
 oP E (xV (Instr.box 136 x0)) w fun b n =>
 oP E (fA 136 b 0) n fun o p =>
 oP E (fA 53 o 3) p fun q r =>
 oP E (lA 51 q) r fun s t =>
 oP E (xBuiltin .len #[51] 3 [false] [s]) t fun g u =>
 oP E (lA 136 b) u fun v y =>
 oP E (xV (Instr.makeInterface 136 v)) y fun z aa =>
 oP E (xCall (fC 143) [z]) aa fun i ab =>
 oP E (eX i 0) ab fun _t14_17 ac =>
 oP E (eX i 1) ac fun ad ae =>
 oP E (fA 136 b 0) ae fun af ag =>
 oP E (fA 53 af 0) ag fun ah ai =>
 oP E (lA 3 ah) ai fun aj ak =>
 oP E (xBin .neq 3 (.tmp 18) (.const (vI 1)) aj (vI 1)) ak fun c al =>
 oP E (gsem (asB c) true (fA 136 b 0)) al fun am an =>
 oP E (gsem (asB c) true (fA 53 am 1)) an fun ao ap =>
 oP E (gsem (asB c) true (lA 2 ao)) ap fun aq ar =>
 oP E (gsem (asB c) true (xBin .neq 2 (.tmp 23) (.const (vI 0)) aq (vI 0))) ar fun au av =>
 oP E (xPick c au (vB false)) av fun a aw =>
 oP E (gsem (asB a) false (xV (Op.unary .not (gval (asB a) false ad)))) aw fun d ax =>
 oP E (gsem (asB (gval (asB a) false d)) true (fA 136 b 0)) ax fun ay az =>
 oP E (gsem (asB (gval (asB a) false d)) true (fA 53 ay 2)) az fun ba bb =>
 oP E (gsem (asB (gval (asB a) false d)) true (lA 9 ba)) bb fun bc bd =>
 oP E (gsem (asB (gval (asB a) false d)) true (xBin .neq 9 (.tmp 32) (.const (eS)) bc (eS))) bd fun be bf =>
 oP E (gsem (asB a) false (xPick (gval (asB a) false d) be (vB false))) bf fun bg bh =>
 oP E (xPick a (vB true) bg) bh fun bi j =>
 xcond bi
 (R (vB false) j)
 (oP E (fA 136 b 0) j fun bj bk =>
 oP E (fA 53 bj 0) bk fun bl bm =>
 oP E (lA 3 bl) bm fun e bn =>
 oP E (xBin .eql 3 (.tmp 38) (.const (vI 1)) e (vI 1)) bn fun bo k =>
 xcond bo
 (oP E (fA 136 b 0) k fun bp bq =>
 oP E (fA 53 bp 1) bq fun br bs =>
 oP E (lA 2 br) bs fun bt bu =>
 oP E (xBin .geq 2 (.tmp 43) (.const (vI 0)) bt (vI 0)) bu fun f bv =>
 oP E (gsem (asB f) true (xBin .eql 3 (.tmp 46) (.const (vI 0)) (gval (asB f) true g) (vI 0))) bv fun bw bz =>
 oP E (xPick f bw (vB false)) bz fun ca cb =>
 R ca cb)
 (xcut (fun cc cd => b7w g e (nth cc 0) cd R E) fun j1 =>
 oP E (xBin .eql 3 (.tmp 38) (.const (vI 2)) e (vI 2)) k fun l m =>
 xcond l
 (j1 [l] m)
 (oP E (xBin .eql 3 (.tmp 38) (.const (vI 3)) e (vI 3)) m fun ce cf =>
 j1 [ce] cf)))
def d4Z : Hint := (sQ (sQ (sQ (hS (sQ (hC (sQ hN) hN)) (hS (sQ (hB (sQ (hC (sQ hN) (hU [49] (sQ (hC hN hN)) (hC (sQ hN) (hU [54] (sQ (hC hN hN)) (hC (sQ hN) (hU [59] (sQ (hC hN (sQ (hC hN (sQ (hC hN (sQ (hC hN hN)))))))) (hC (sQ hN) hN)))))))))) (sQ hN))))))
theorem c8B {x0 : Value} (h : d1C x0 w R E) : Cv pG 187 #[x0] w R E := okF (h := d4Z) Tryz.func187 (by kernel_rfl) (by kernel_rfl) h
def d1D (x0 w) (R : RT) (E) :=
 oP E (xV (Instr.box 136 x0)) w fun a b =>
 oP E (fA 136 a 0) b fun c d =>
 oP E (fA 53 c 3) d fun e f =>
 oP E (lA 51 e) f fun g i =>
 oP E (xCall (fC 189) [g, (fC 190)]) i fun j k =>
 R j k
def d5a : Hint := (sQ (sQ hN))
theorem c8C {x0 : Value} (h : d1D x0 w R E) : Cv pG 188 #[x0] w R E := okF (h := d5a) Tryz.func188 (by kernel_rfl) (by kernel_rfl) h
def b7x (x5 w) (R : RT) (_E : Pan) :=
 ∀ _τ : Fr, (R x5 w)
def c2r (x1 x5 x8 x9 x10 w) (next2 : NT) (j1 : NT) (_R : RT) (E) :=
 oP E (xBin .lss 3 (.tmp 10) (.tmp 9) x10 x9) w fun c a =>
 xcond c
 (oP E (iA 51 x8 x10) a fun d e =>
 oP E (lA 53 d) e fun f g =>
 oP E (xV (Instr.alloc 53 true (.tuple #[]))) g fun b i =>
 oP E (sA 53 b f) i fun _ j =>
 oP E (lA 53 b) j fun k l =>
 oP E (xCall x1 [k]) l fun m n =>
 oP E (xV (Instr.buildSlice 137 1 #[(0, m)])) n fun o p =>
 oP E (xBuiltin .append #[137, 137] 137 [false, false] [x5, o]) p fun q r =>
 oP E (xBin .add 3 (.tmp 10) (.const (vI 1)) x10 (vI 1)) r fun s t =>
 next2 [q, s] t)
 (j1 [x5] a)
def d1E (x0 x1 w) (R : RT) (E) :=
 xcut (fun b c => b7x (nth b 0) c R E) fun j1 =>
 oP E (xBuiltin .len #[51] 3 [false] [x0]) w fun d e =>
 xloop [5, 10] [(nS), (vI 0)] e fun a f next2 =>
 c2r x1 (a 5) x0 d (a 10) f next2 j1 R E
def d5b : Hint := (sQ (sQ (hU [5] (sQ (hB (hL [5, 10] (sQ (hS (hC hN hN) (hS (hB (sQ hN)) hN)))))) (sQ hN))))
theorem c8D {x0 x1 : Value} (h : d1E x0 x1 w R E) : Cv pG 189 #[x0, x1] w R E := okF (h := d5b) Tryz.func189 (by kernel_rfl) (by kernel_rfl) h
def d1F (x0 w) (R : RT) (E) :=
 oP E (xV (Instr.box 53 x0)) w fun a b =>
 oP E (lA 53 a) b fun c d =>
 oP E (xV (Instr.build 136 #[(0, c)])) d fun e f =>
 oP E (xV (Instr.makeInterface 136 e)) f fun g i =>
 R g i
def d5c : Hint := (sQ (sQ hN))
theorem c8E {x0 : Value} (h : d1F x0 w R E) : Cv pG 190 #[x0] w R E := okF (h := d5c) Tryz.func190 (by kernel_rfl) (by kernel_rfl) h
def b7y (x3 x50 w) (R : RT) (E) :=
 ∀ _τ : Fr, (xcond x50
 (oP E (lA 236 x3) w fun a b =>
 oP E (xV (Instr.build 236 #[(0, (vI 0)), (1, (vI 2))])) b fun c d =>
 oP E (xBin .eql 236 (.tmp 53) (.tmp 54) a c) d fun e f =>
 R e f)
 (R (vB false) w))
def b7z (x3 x38 x39 w) (R : RT) (E) :=
 ∀ _τ : Fr, (xcond x39
 (oP E (lA 236 x3) w fun d e =>
 oP E (xV (Instr.build 236 #[])) e fun f g =>
 oP E (xBin .eql 236 (.tmp 42) (.tmp 43) d f) g fun i j =>
 R i j)
 (oP E (xBin .eql 3 (.tmp 38) (.const (vI 4)) x38 (vI 4)) w fun k a =>
 xcond k
 (oP E (lA 236 x3) a fun l m =>
 oP E (xV (Instr.build 236 #[(0, (vI 0)), (1, (vI 1))])) m fun n o =>
 oP E (xBin .eql 236 (.tmp 47) (.tmp 48) l n) o fun p q =>
 R p q)
 (xcut (fun r s => b7y x3 (nth r 0) s R E) fun j2 =>
 oP E (xBin .eql 3 (.tmp 38) (.const (vI 5)) x38 (vI 5)) a fun b c =>
 xcond b
 (j2 [b] c)
 (oP E (xBin .eql 3 (.tmp 38) (.const (vI 6)) x38 (vI 6)) c fun t u =>
 j2 [t] u))))
def d1G (x0 w) (R : RT) (E) :=
 oP E (xV (Instr.box 143 x0)) w fun a k =>
 oP E (fA 143 a 0) k fun l m =>
 oP E (fA 59 l 2) m fun n o =>
 oP E (lA 51 n) o fun p q =>
 oP E (xBuiltin .len #[51] 3 [false] [p]) q fun r s =>
 oP E (fA 143 a 0) s fun t u =>
 oP E (fA 59 t 3) u fun v y =>
 oP E (lA 57 v) y fun z aa =>
 oP E (xBuiltin .len #[57] 3 [false] [z]) aa fun ab ac =>
 oP E (xV (Instr.build 236 #[(0, r), (1, ab)])) ac fun ad ae =>
 oP E (xV (Instr.alloc 236 true (.tuple #[]))) ae fun d af =>
 oP E (sA 236 d ad) af fun _ ag =>
 oP E (fA 143 a 0) ag fun ah ai =>
 oP E (fA 59 ah 0) ai fun aj ak =>
 oP E (lA 3 aj) ak fun al am =>
 oP E (xBin .eql 3 (.tmp 15) (.const (vI 3)) al (vI 3)) am fun an f =>
 xcond an
 (oP E (fA 143 a 0) f fun ao ap =>
 oP E (fA 59 ao 1) ap fun aq ar =>
 oP E (lA 3 aq) ar fun au av =>
 oP E (xBin .geq 3 (.tmp 19) (.const (vI 1)) au (vI 1)) av fun b aw =>
 oP E (gsem (asB b) true (fA 143 a 0)) aw fun ax ay =>
 oP E (gsem (asB b) true (fA 59 ax 1)) ay fun az ba =>
 oP E (gsem (asB b) true (lA 3 az)) ba fun bb bc =>
 oP E (gsem (asB b) true (xBin .leq 3 (.tmp 24) (.const (vI 6)) bb (vI 6))) bc fun bd be =>
 oP E (xPick b bd (vB false)) be fun c bf =>
 oP E (gsem (asB c) true (lA 236 d)) bf fun bg bh =>
 oP E (gsem (asB c) true (xV (Instr.build 236 #[(0, (vI 2)), (1, (vI 0))]))) bh fun bi bj =>
 oP E (gsem (asB c) true (xBin .eql 236 (.tmp 28) (.tmp 29) bg bi)) bj fun bk bl =>
 oP E (xPick c bk (vB false)) bl fun bm bn =>
 R bm bn)
 (oP E (fA 143 a 0) f fun bo bp =>
 oP E (fA 59 bo 1) bp fun bq br =>
 oP E (lA 3 bq) br fun bs bt =>
 oP E (xBin .neq 3 (.tmp 34) (.const (vI 0)) bs (vI 0)) bt fun bu g =>
 xcond bu
 (R (vB false) g)
 (oP E (fA 143 a 0) g fun bv bw =>
 oP E (fA 59 bv 0) bw fun bz ca =>
 oP E (lA 3 bz) ca fun e cb =>
 xcut (fun cc cd => b7z d e (nth cc 0) cd R E) fun j1 =>
 oP E (xBin .eql 3 (.tmp 38) (.const (vI 1)) e (vI 1)) cb fun i j =>
 xcond i
 (j1 [i] j)
 (oP E (xBin .eql 3 (.tmp 38) (.const (vI 2)) e (vI 2)) j fun ce cf =>
 j1 [ce] cf)))
def d5d : Hint := (sQ (sQ (hS (sQ (hC (sQ hN) hN)) (hS (sQ (hC (sQ hN) hN)) (hS (sQ (hB (hU [39] (sQ (hC hN hN)) (hC (sQ hN) (sQ (hC (sQ hN) (hU [50] (sQ (hC hN hN)) (hC (sQ hN) hN)))))))) (sQ hN))))))
theorem c8F {x0 : Value} (h : d1G x0 w R E) : Cv pG 191 #[x0] w R E := okF (h := d5d) Tryz.func191 (by kernel_rfl) (by kernel_rfl) h
def d1H (x0 w) (R : RT) (E) :=
 oP E (xV (Instr.box 143 x0)) w fun f j =>
 dX j fun a =>
 qP pG (fA 143 f 0) fun k =>
 qP pG (fA 59 k 2) fun g =>
 qP pG (fA 143 f 0) fun l =>
 qP pG (fA 59 l 3) fun b =>
 qL pG a (blk g) (lA 51 g) fun m =>
 qL pG a (blk b) (lA 57 b) fun n =>
 oP E (xCall (fC 189) [m, (fC 190)]) a fun o c =>
 keepX [(blk b)] a c (opK pG E (xCall (fC 193) [n, (fC 194)]) c fun p d =>
 keepX [] c d (opK pG E (xV (Instr.buildSlice 179 2 #[(0, o), (1, p)])) d fun q e =>
 keepX [] d e (opK pG E (xCall (fC 75) [q]) e fun r i =>
 keepX [] e i (R r i))))
def d5e : Hint := (sQ (hS (.reg [(0, 8, 2), (1, 16, 8), (2, 32, 16), (4, 64, 32), (0, 128, 2), (16, 256, 128), (32, 512, 256), (72, 1024, 512), (136, 2048, 1088), (384, 4096, 2048), (1023, 4, 4096)] [68, 68, 64, 64, 68, 68, 4, 0, 0, 0, 68] (.early 0 (.early 1 (.early 4 (.early 5 (.load 2 (.load 6 (.step 3 (.step 7 (.step 8 (.step 9 (.early 10 .done)))))))))))) hN))
theorem c8G {x0 : Value} (h : d1H x0 w R E) : Cv pG 192 #[x0] w R E := okF (h := d5e) Tryz.func192 (by kernel_rfl) (by kernel_rfl) h
def b7A (x5 w) (R : RT) (_E : Pan) :=
 ∀ _τ : Fr, (R x5 w)
def c2s (x1 x5 x8 x9 x10 w) (next2 : NT) (j1 : NT) (_R : RT) (E) :=
 oP E (xBin .lss 3 (.tmp 10) (.tmp 9) x10 x9) w fun c a =>
 xcond c
 (oP E (iA 57 x8 x10) a fun d e =>
 oP E (lA 59 d) e fun f g =>
 oP E (xV (Instr.alloc 59 true (.tuple #[]))) g fun b i =>
 oP E (sA 59 b f) i fun _ j =>
 oP E (lA 59 b) j fun k l =>
 oP E (xCall x1 [k]) l fun m n =>
 oP E (xV (Instr.buildSlice 137 1 #[(0, m)])) n fun o p =>
 oP E (xBuiltin .append #[137, 137] 137 [false, false] [x5, o]) p fun q r =>
 oP E (xBin .add 3 (.tmp 10) (.const (vI 1)) x10 (vI 1)) r fun s t =>
 next2 [q, s] t)
 (j1 [x5] a)
def d1I (x0 x1 w) (R : RT) (E) :=
 xcut (fun b c => b7A (nth b 0) c R E) fun j1 =>
 oP E (xBuiltin .len #[57] 3 [false] [x0]) w fun d e =>
 xloop [5, 10] [(nS), (vI 0)] e fun a f next2 =>
 c2s x1 (a 5) x0 d (a 10) f next2 j1 R E
def d5f : Hint := (sQ (sQ (hU [5] (sQ (hB (hL [5, 10] (sQ (hS (hC hN hN) (hS (hB (sQ hN)) hN)))))) (sQ hN))))
theorem c8H {x0 x1 : Value} (h : d1I x0 x1 w R E) : Cv pG 193 #[x0, x1] w R E := okF (h := d5f) Tryz.func193 (by kernel_rfl) (by kernel_rfl) h
def d1J (x0 w) (R : RT) (E) :=
 oP E (xV (Instr.box 59 x0)) w fun a b =>
 oP E (lA 59 a) b fun c d =>
 oP E (xV (Instr.build 143 #[(0, c)])) d fun e f =>
 oP E (xV (Instr.makeInterface 143 e)) f fun g i =>
 R g i
def d5g : Hint := (sQ (sQ hN))
theorem c8I {x0 : Value} (h : d1J x0 w R E) : Cv pG 194 #[x0] w R E := okF (h := d5g) Tryz.func194 (by kernel_rfl) (by kernel_rfl) h
def d1K (x0 w) (R : RT) (E) :=
 oP E (xV (Instr.box 182 x0)) w fun b c =>
 oP E (fA 182 b 0) c fun d e =>
 oP E (fA 71 d 1) e fun f g =>
 oP E (lA 3 f) g fun i j =>
 oP E (xBin .geq 3 (.tmp 5) (.const (vI 0)) i (vI 0)) j fun a k =>
 oP E (gsem (asB a) true (fA 182 b 0)) k fun l m =>
 oP E (gsem (asB a) true (fA 71 l 1)) m fun n o =>
 oP E (gsem (asB a) true (lA 3 n)) o fun p q =>
 oP E (gsem (asB a) true (xBin .leq 3 (.tmp 10) (.const (vI 2147483647)) p (vI 2147483647))) q fun r s =>
 oP E (xPick a r (vB false)) s fun t u =>
 R t u
def d5h : Hint := (sQ (sQ hN))
theorem c8J {x0 : Value} (h : d1K x0 w R E) : Cv pG 195 #[x0] w R E := okF (h := d5h) Tryz.func195 (by kernel_rfl) (by kernel_rfl) h
def d1L (x0 w) (R : RT) (E) :=
 oP E (xV (Instr.box 182 x0)) w fun _t1_1 a =>
 R (nS) a
def d5i : Hint := (sQ (sQ hN))
theorem c8K {x0 : Value} (h : d1L x0 w R E) : Cv pG 196 #[x0] w R E := okF (h := d5i) Tryz.func196 (by kernel_rfl) (by kernel_rfl) h
def b7B (x4 x5 x35 x83 w) (R : RT) (E) :=
 ∀ _τ : Fr, (xcond x83
 (oP E (gsem (asB x5) true (lA 240 x4)) w fun b c =>
 oP E (gsem (asB x5) true (xV (Instr.build 240 #[(0, (vI 0)), (1, (vI 1))]))) c fun d e =>
 oP E (gsem (asB x5) true (xBin .eql 240 (.tmp 88) (.tmp 89) b d)) e fun f g =>
 oP E (xPick x5 f (vB false)) g fun i j =>
 R i j)
 (oP E (xBin .eql 3 (.tmp 35) (.const (vI 7)) x35 (vI 7)) w fun k a =>
 xcond k
 (oP E (gsem (asB x5) true (lA 240 x4)) a fun l m =>
 oP E (gsem (asB x5) true (xV (Instr.build 240 #[]))) m fun n o =>
 oP E (gsem (asB x5) true (xBin .eql 240 (.tmp 96) (.tmp 97) l n)) o fun p q =>
 oP E (xPick x5 p (vB false)) q fun r s =>
 R r s)
 (R (vB false) a)))
def d1M (x0 w) (R : RT) (E) :=
 oP E (xV (Instr.box 184 x0)) w fun a r =>
 oP E (fA 184 a 0) r fun s t =>
 oP E (fA 73 s 4) t fun u v =>
 oP E (lA 23 u) v fun y z =>
 oP E (xBuiltin .len #[23] 3 [false] [y]) z fun aa ab =>
 oP E (fA 184 a 0) ab fun ac ad =>
 oP E (fA 73 ac 5) ad fun ae af =>
 oP E (lA 23 ae) af fun ag ah =>
 oP E (xBuiltin .len #[23] 3 [false] [ag]) ah fun ai aj =>
 oP E (xBin .add 3 (.tmp 9) (.tmp 13) aa ai) aj fun ak al =>
 oP E (xBin .gtr 3 (.tmp 14) (.const (vI 0)) ak (vI 0)) al fun j am =>
 oP E (fA 184 a 0) am fun an ao =>
 oP E (fA 73 an 2) ao fun ap aq =>
 oP E (lA 51 ap) aq fun ar au =>
 oP E (xBuiltin .len #[51] 3 [false] [ar]) au fun av aw =>
 oP E (fA 184 a 0) aw fun ax ay =>
 oP E (fA 73 ax 3) ay fun az ba =>
 oP E (lA 57 az) ba fun bb bc =>
 oP E (xBuiltin .len #[57] 3 [false] [bb]) bc fun bd be =>
 oP E (xV (Instr.build 240 #[(0, av), (1, bd)])) be fun bf bg =>
 oP E (xV (Instr.alloc 240 true (.tuple #[]))) bg fun c bh =>
 oP E (sA 240 c bf) bh fun _ bi =>
 oP E (fA 184 a 0) bi fun bj bk =>
 oP E (fA 73 bj 1) bk fun bl bm =>
 oP E (lA 9 bl) bm fun bn bo =>
 oP E (xBin .eql 9 (.tmp 27) (.const (eS)) bn (eS)) bo fun k bp =>
 oP E (gsem (asB k) true (xV (Op.unary .not (gval (asB k) true j)))) bp fun bq br =>
 oP E (xPick k bq (vB false)) br fun bs bt =>
 oP E (fA 184 a 0) bt fun bu bv =>
 oP E (fA 73 bu 0) bv fun bw bz =>
 oP E (lA 3 bw) bz fun b ca =>
 oP E (xBin .eql 3 (.tmp 35) (.const (vI 1)) b (vI 1)) ca fun cb l =>
 xcond cb
 (oP E (xV (Op.unary .not j)) l fun e cc =>
 oP E (gsem (asB e) true (lA 240 c)) cc fun cd ce =>
 oP E (gsem (asB e) true (xV (Instr.build 240 #[(0, (vI 1)), (1, (vI 0))]))) ce fun cf cg =>
 oP E (gsem (asB e) true (xBin .eql 240 (.tmp 41) (.tmp 42) cd cf)) cg fun ch ci =>
 oP E (xPick e ch (vB false)) ci fun cj ck =>
 R cj ck)
 (oP E (xBin .eql 3 (.tmp 35) (.const (vI 2)) b (vI 2)) l fun cl m =>
 xcond cl
 (oP E (xV (Op.unary .not j)) m fun f cm =>
 oP E (gsem (asB f) true (lA 240 c)) cm fun cn co =>
 oP E (gsem (asB f) true (xV (Instr.build 240 #[(0, (vI 2)), (1, (vI 0))]))) co fun cp cq =>
 oP E (gsem (asB f) true (xBin .eql 240 (.tmp 50) (.tmp 51) cn cp)) cq fun cr cs =>
 oP E (xPick f cr (vB false)) cs fun ct cu =>
 R ct cu)
 (oP E (xBin .eql 3 (.tmp 35) (.const (vI 3)) b (vI 3)) m fun cv n =>
 xcond cv
 (oP E (fA 184 a 0) n fun cw cx =>
 oP E (fA 73 cw 1) cx fun cy cz =>
 oP E (lA 9 cy) cz fun da db =>
 oP E (xBin .eql 9 (.tmp 58) (.const (eS)) da (eS)) db fun g dc =>
 oP E (gsem (asB g) true (lA 240 c)) dc fun dd de =>
 oP E (gsem (asB g) true (xV (Instr.build 240 #[(0, (vI 0)), (1, (vI 1))]))) de fun df dg =>
 oP E (gsem (asB g) true (xBin .eql 240 (.tmp 61) (.tmp 62) dd df)) dg fun dh di =>
 oP E (xPick g dh (vB false)) di fun dj dk =>
 R dj dk)
 (oP E (xBin .eql 3 (.tmp 35) (.const (vI 4)) b (vI 4)) n fun dl o =>
 xcond dl
 (oP E (fA 184 a 0) o fun dm dn =>
 oP E (fA 73 dm 1) dn fun dp dq =>
 oP E (lA 9 dp) dq fun dr ds =>
 oP E (xBin .eql 9 (.tmp 69) (.const (eS)) dr (eS)) ds fun d dt =>
 oP E (gsem (asB d) true (fA 184 a 0)) dt fun du dv =>
 oP E (gsem (asB d) true (fA 73 du 5)) dv fun dw dx =>
 oP E (gsem (asB d) true (lA 23 dw)) dx fun dy dz =>
 oP E (gsem (asB d) true (xBuiltin .len #[23] 3 [false] [dy])) dz fun ea eb =>
 oP E (gsem (asB d) true (xBin .eql 3 (.tmp 75) (.const (vI 0)) ea (vI 0))) eb fun ec ed =>
 oP E (xPick d ec (vB false)) ed fun i ee =>
 oP E (gsem (asB i) true (lA 240 c)) ee fun ef eg =>
 oP E (gsem (asB i) true (xV (Instr.build 240 #[(0, (vI 0)), (1, (vI 1))]))) eg fun eh ei =>
 oP E (gsem (asB i) true (xBin .eql 240 (.tmp 79) (.tmp 80) ef eh)) ei fun ej ek =>
 oP E (xPick i ej (vB false)) ek fun el em =>
 R el em)
 (xcut (fun en eo => b7B c bs b (nth en 0) eo R E) fun j1 =>
 oP E (xBin .eql 3 (.tmp 35) (.const (vI 5)) b (vI 5)) o fun p q =>
 xcond p
 (j1 [p] q)
 (oP E (xBin .eql 3 (.tmp 35) (.const (vI 6)) b (vI 6)) q fun ep eq =>
 j1 [ep] eq)))))
def d5j : Hint := (sQ (sQ (sQ (sQ (hS (sQ (hB (sQ (hC (sQ hN) (sQ (hC (sQ hN) (sQ (hC (sQ hN) (sQ (hC (sQ hN) (hU [83] (sQ (hC hN hN)) (hC (sQ hN) (sQ (hC (sQ hN) hN)))))))))))))) (sQ hN))))))
theorem c8L {x0 : Value} (h : d1M x0 w R E) : Cv pG 197 #[x0] w R E := okF (h := d5j) Tryz.func197 (by kernel_rfl) (by kernel_rfl) h
def d1N (x0 w) (R : RT) (E) :=
 oP E (xV (Instr.box 184 x0)) w fun c n =>
 dX n fun a =>
 qP pG (fA 184 c 0) fun o =>
 qP pG (fA 73 o 3) fun l =>
 qP pG (fA 184 c 0) fun p =>
 qP pG (fA 73 p 2) fun e =>
 qP pG (fA 184 c 0) fun q =>
 qP pG (fA 73 q 4) fun d =>
 qP pG (fA 184 c 0) fun r =>
 qP pG (fA 73 r 5) fun b =>
 qL pG a (blk l) (lA 57 l) fun s =>
 qL pG a (blk e) (lA 51 e) fun t =>
 qL pG a (blk d) (lA 23 d) fun u =>
 qL pG a (blk b) (lA 23 b) fun v =>
 oP E (xCall (fC 193) [s, (fC 194)]) a fun y f =>
 keepX [(blk b), (blk d), (blk e)] a f (opK pG E (xCall (fC 189) [t, (fC 190)]) f fun z g =>
 keepX [(blk b), (blk d)] f g (opK pG E (xCall (fC 78) [u, (fC 79)]) g fun aa i =>
 keepX [(blk b)] g i (opK pG E (xCall (fC 78) [v, (fC 79)]) i fun ab j =>
 keepX [] i j (opK pG E (xV (Instr.buildSlice 179 4 #[(0, y), (1, z), (2, aa), (3, ab)])) j fun ac k =>
 keepX [] j k (opK pG E (xCall (fC 75) [ac]) k fun ad m =>
 keepX [] k m (R ad m))))))
def d5k : Hint := (sQ (hS (.reg [(0, 8, 2), (1, 16, 8), (2, 32, 16), (4, 64, 32), (0, 128, 2), (16, 256, 128), (32, 512, 256), (72, 1024, 512), (0, 2048, 2), (256, 4096, 2048), (512, 8192, 4096), (1152, 16384, 8192), (0, 32768, 2), (4096, 65536, 32768), (8192, 131072, 65536), (18432, 262144, 131072), (34952, 524288, 279616), (98304, 1048576, 524288), (262143, 4, 1048576)] [17476, 17476, 17472, 17472, 17476, 17476, 17412, 17408, 17476, 17476, 16452, 16384, 17476, 17476, 1092, 0, 0, 0, 17476] (.early 0 (.early 1 (.early 4 (.early 5 (.early 8 (.early 9 (.early 12 (.early 13 (.load 2 (.load 6 (.load 10 (.load 14 (.step 3 (.step 7 (.step 11 (.step 15 (.step 16 (.step 17 (.early 18 .done)))))))))))))))))))) hN))
theorem c8M {x0 : Value} (h : d1N x0 w R E) : Cv pG 198 #[x0] w R E := okF (h := d5k) Tryz.func198 (by kernel_rfl) (by kernel_rfl) h
end Go.Proofs.YtnhkdkcgdcgmdaaGreatDoor
