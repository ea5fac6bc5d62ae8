/- The second reading of some of the program's functions, printed by gen2.py off the code; each is held against the code by the kernel. -/
import Derived.KernelRfl
import Derived.Test.YthklmeihgmcljaaGreatDoorzTGz
namespace Go.Proofs.YthklmeihgmcljaaGreatDoor
open Go.RowKit
set_option maxRecDepth 100000
variable {w : World} {R : RT} {E : Pan}
def F63 (x0 w) (R : RT) (E) :=
 oP E (xV (Instr.alloc 103 true (.tuple #[]))) w fun c g =>
 dX g fun a =>
 qP pG (xNil x0) fun i =>
 qP pG (fA 66 i 0) fun d =>
 qP pG (xNil x0) fun j =>
 qP pG (fA 66 j 1) fun e =>
 qL pG a (blk d) (lA 61 d) fun k =>
 qL pG a (blk e) (lA 3 e) fun l =>
 qP pG (iA 61 k l) fun f =>
 qL pG a (blk f) (lA 103 f) fun m =>
 oP E (sA 103 c m) a fun _ b =>
 keepX [] a b (xcell pG 103 c b fun n =>
 R n b)
def h63 : Hint := (sQ (hS (.reg [(0, 8, 1), (1, 16, 8), (2, 32, 16), (4, 64, 32), (0, 128, 1), (16, 256, 128), (32, 512, 256), (64, 1024, 512), (136, 2048, 1088), (256, 4096, 2048), (1023, 0, 4100)] [648, 648, 648, 640, 648, 648, 648, 520, 648, 136, 0] (.early 0 (.early 1 (.early 2 (.early 4 (.early 5 (.early 6 (.load 3 (.load 7 (.early 8 (.load 9 (.step 10 .done)))))))))))) hN))
theorem c4e {x0 : Value} (h : F63 x0 w R E) : Cv pG 63 #[x0] w R E := okF (h := h63) Tryz.func63 (by kernel_rfl) (by kernel_rfl) h
def F67 (x0 x1 w) (R : RT) (E) :=
 oP E (xCall (fC 23) [x0, x1]) w fun b c =>
 oP E (xV (Op.unary .not b)) c fun d a =>
 xcond d
 (R (vB false) a)
 (oP E (xNil x0) a fun e f =>
 oP E (fA 66 e 1) f fun g i =>
 oP E (lA 3 g) i fun j k =>
 oP E (xBin .add 3 (.tmp 12) (.const (vI 1)) j (vI 1)) k fun l m =>
 oP E (xNil x0) m fun n o =>
 oP E (fA 66 n 1) o fun p q =>
 oP E (sA 3 p l) q fun _ r =>
 R (vB true) r)
def h67 : Hint := (sQ (hS (sQ (hC (sQ hN) hN)) (sQ (sQ hN))))
theorem c4f {x0 x1 : Value} (h : F67 x0 x1 w R E) : Cv pG 67 #[x0, x1] w R E := okF (h := h67) Tryz.func67 (by kernel_rfl) (by kernel_rfl) h
def b4C (x3 w) (R : RT) (E) :=
 ∀ _τ : Fr, (oP E (lA 80 x3) w fun a b =>
 R a b)
def F74 (x0 w) (R : RT) (E) :=
 oP E (xV (Instr.build 79 #[])) w fun f g =>
 oP E (xV (Instr.box 79 f)) g fun i j =>
 oP E (xV (Instr.alloc 80 true (.tuple #[]))) j fun a k =>
 oP E (sA 80 a i) k fun _ l =>
 oP E (xV (Instr.alloc 169 true (.tuple #[]))) l fun b m =>
 oP E (xV (Instr.makeFunc (.func 118) #[] #[a, b])) m fun n o =>
 oP E (sA 169 b n) o fun _ p =>
 xcut (fun _ q => b4C a q R E) fun j1 =>
 oP E (lA 169 b) p fun r s =>
 oP E (xCall r [x0, (vI 1)]) s fun t u =>
 oP E (xV (Op.unary .not t)) u fun v c =>
 xcond v
 (j1 [] c)
 (oP E (lA 80 a) c fun y z =>
 oP E (xNil y) z fun aa ab =>
 oP E (fA 79 aa 3) ab fun ac ad =>
 oP E (lA 4 ac) ad fun ae d =>
 xcond ae
 (oP E (lA 80 a) d fun af ag =>
 oP E (xNil af) ag fun ah ai =>
 oP E (fA 79 ah 2) ai fun aj ak =>
 oP E (sA 29 aj (vI 30)) ak fun _ al =>
 j1 [] al)
 (oP E (lA 80 a) d fun am an =>
 oP E (xNil am) an fun ao ap =>
 oP E (fA 79 ao 4) ap fun aq ar =>
 oP E (lA 4 aq) ar fun au e =>
 xcond au
 (oP E (lA 80 a) e fun av aw =>
 oP E (xNil av) aw fun ax ay =>
 oP E (fA 79 ax 2) ay fun az ba =>
 oP E (sA 29 az (vI 31)) ba fun _ bb =>
 j1 [] bb)
 (j1 [] e)))
def h74 : Hint := (sQ (sQ (sQ (sQ (hU [] (sQ (hB (sQ (hC hN (sQ (hC hN (sQ (hC hN hN)))))))) (sQ hN))))))
theorem c4g {x0 : Value} (h : F74 x0 w R E) : Cv pG 74 #[x0] w R E := okF (h := h74) Tryz.func74 (by kernel_rfl) (by kernel_rfl) h
def b4D (x6 w) (R : RT) (_E : Pan) :=
 ∀ _τ : Fr, (R x6 w)
def b8C (x6 x25 x26 x27 w) (next3 : NT) (j2 : NT) (_R : RT) (E) :=
 oP E (xBin .lss 3 (.tmp 27) (.tmp 26) x27 x26) w fun b a =>
 xcond b
 (oP E (iA 172 x25 x27) a fun c d =>
 oP E (lA 128 c) d fun e f =>
 oP E (xBuiltin .append #[128, 128] 128 [false, false] [x6, e]) f fun g i =>
 oP E (xBin .add 3 (.tmp 27) (.const (vI 1)) x27 (vI 1)) i fun j k =>
 next3 [g, j] k)
 (j2 [x6] a)
def b4E (x0 x3 w) (R : RT) (E) :=
 ∀ _τ : Fr, (oP E (xCall (fC 120) [(nS), x3]) w fun b c =>
 xcut (fun d e => b4D (nth d 0) e R E) fun j2 =>
 oP E (xBuiltin .len #[172] 3 [false] [x0]) c fun f g =>
 xloop [6, 27] [b, (vI 0)] g fun a i next3 =>
 b8C (a 6) x0 f (a 27) i next3 j2 R E)
def b4F (_x0 x3 _x9 _x10 x11 : Value) (w) (next4 : NT) (_R : RT) (E) :=
 ∀ _τ : Fr, (oP E (xBin .add 3 (.tmp 11) (.const (vI 1)) x11 (vI 1)) w fun a b =>
 next4 [x3, a] b)
def b8D (x0 x3 x9 x10 x11 w) (next4 : NT) (j1 : NT) (R : RT) (E) :=
 oP E (xBin .lss 3 (.tmp 11) (.tmp 10) x11 x10) w fun d b =>
 xcond d
 (xcut (fun e f => b4F x0 (nth e 0) x9 x10 x11 f next4 R E) fun j5 =>
 oP E (iA 172 x9 x11) b fun g i =>
 oP E (lA 128 g) i fun j k =>
 oP E (xBuiltin .len #[128] 3 [false] [j]) k fun l m =>
 oP E (xBin .add 3 (.tmp 15) (.tmp 17) x3 l) m fun a n =>
 oP E (xBin .lss 3 (.tmp 19) (.const (vI 0)) a (vI 0)) n fun o c =>
 xcond o
 (oP E (xV (Instr.makeInterface 9 (Value.string ⟨#[108, 101, 110, 32, 111, 117, 116, 32, 111, 102, 32, 114, 97, 110, 103, 101]⟩))) c fun p q =>
 oP E (xV (Instr.panic p)) q fun _ r =>
 j5 [a] r)
 (j5 [a] c))
 (j1 [x3] b)
def F75 (x0 w) (R : RT) (E) :=
 xcut (fun b c => b4E x0 (nth b 0) c R E) fun j1 =>
 oP E (xBuiltin .len #[172] 3 [false] [x0]) w fun d e =>
 xloop [3, 11] [(vI 0), (vI 0)] e fun a f next4 =>
 b8D x0 (a 3) x0 d (a 11) f next4 j1 R E
def h75 : Hint := (sQ (sQ (hU [3] (sQ (hB (hL [3, 11] (sQ (hS (hC hN hN) (hU [3] (hB (sQ (sQ (sQ (hC hN hN))))) hN)))))) (sQ (hU [6] (sQ (hB (hL [6, 27] (sQ (hS (hC hN hN) (hS (hB (sQ hN)) hN)))))) (sQ hN))))))
theorem c4h {x0 : Value} (h : F75 x0 w R E) : Cv pG 75 #[x0] w R E := okF (h := h75) Tryz.func75 (by kernel_rfl) (by kernel_rfl) h
def b4G (x5 w) (R : RT) (_E : Pan) :=
 ∀ _τ : Fr, (R x5 w)
def b8E (x1 x5 x8 x9 x10 w) (next2 : NT) (j1 : NT) (_R : RT) (E) :=
 oP E (xBin .lss 3 (.tmp 10) (.tmp 9) x10 x9) w fun c a =>
 xcond c
 (oP E (iA 23 x8 x10) a fun d e =>
 oP E (lA 68 d) e fun f g =>
 oP E (xV (Instr.alloc 68 true (.tuple #[]))) g fun b i =>
 oP E (sA 68 b f) i fun _ j =>
 oP E (lA 68 b) j fun k l =>
 oP E (xCall x1 [k]) l fun m n =>
 oP E (xV (Instr.buildSlice 128 1 #[(0, m)])) n fun o p =>
 oP E (xBuiltin .append #[128, 128] 128 [false, false] [x5, o]) p fun q r =>
 oP E (xBin .add 3 (.tmp 10) (.const (vI 1)) x10 (vI 1)) r fun s t =>
 next2 [q, s] t)
 (j1 [x5] a)
def F76 (x0 x1 w) (R : RT) (E) :=
 xcut (fun b c => b4G (nth b 0) c R E) fun j1 =>
 oP E (xBuiltin .len #[23] 3 [false] [x0]) w fun d e =>
 xloop [5, 10] [(nS), (vI 0)] e fun a f next2 =>
 b8E x1 (a 5) x0 d (a 10) f next2 j1 R E
def h76 : Hint := (sQ (sQ (hU [5] (sQ (hB (hL [5, 10] (sQ (hS (hC hN hN) (hS (hB (sQ hN)) hN)))))) (sQ hN))))
theorem c4i {x0 x1 : Value} (h : F76 x0 x1 w R E) : Cv pG 76 #[x0, x1] w R E := okF (h := h76) Tryz.func76 (by kernel_rfl) (by kernel_rfl) h
def F77 (x0 w) (R : RT) (E) :=
 oP E (xV (Instr.box 68 x0)) w fun a b =>
 oP E (lA 68 a) b fun c d =>
 oP E (xV (Instr.build 175 #[(0, c)])) d fun e f =>
 oP E (xV (Instr.makeInterface 175 e)) f fun g i =>
 R g i
def h77 : Hint := (sQ (sQ hN))
theorem c4j {x0 : Value} (h : F77 x0 w R E) : Cv pG 77 #[x0] w R E := okF (h := h77) Tryz.func77 (by kernel_rfl) (by kernel_rfl) h
def b4H (x5 w) (R : RT) (_E : Pan) :=
 ∀ _τ : Fr, (R x5 w)
def b8F (x1 x5 x8 x9 x10 w) (next2 : NT) (j1 : NT) (_R : RT) (E) :=
 oP E (xBin .lss 3 (.tmp 10) (.tmp 9) x10 x9) w fun c a =>
 xcond c
 (oP E (iA 24 x8 x10) a fun d e =>
 oP E (lA 56 d) e fun f g =>
 oP E (xV (Instr.alloc 56 true (.tuple #[]))) g fun b i =>
 oP E (sA 56 b f) i fun _ j =>
 oP E (lA 56 b) j fun k l =>
 oP E (xCall x1 [k]) l fun m n =>
 oP E (xV (Instr.buildSlice 128 1 #[(0, m)])) n fun o p =>
 oP E (xBuiltin .append #[128, 128] 128 [false, false] [x5, o]) p fun q r =>
 oP E (xBin .add 3 (.tmp 10) (.const (vI 1)) x10 (vI 1)) r fun s t =>
 next2 [q, s] t)
 (j1 [x5] a)
def F78 (x0 x1 w) (R : RT) (E) :=
 xcut (fun b c => b4H (nth b 0) c R E) fun j1 =>
 oP E (xBuiltin .len #[24] 3 [false] [x0]) w fun d e =>
 xloop [5, 10] [(nS), (vI 0)] e fun a f next2 =>
 b8F x1 (a 5) x0 d (a 10) f next2 j1 R E
def h78 : Hint := (sQ (sQ (hU [5] (sQ (hB (hL [5, 10] (sQ (hS (hC hN hN) (hS (hB (sQ hN)) hN)))))) (sQ hN))))
theorem c4k {x0 x1 : Value} (h : F78 x0 x1 w R E) : Cv pG 78 #[x0, x1] w R E := okF (h := h78) Tryz.func78 (by kernel_rfl) (by kernel_rfl) h
def F79 (x0 w) (R : RT) (E) :=
 oP E (xV (Instr.box 56 x0)) w fun a b =>
 oP E (lA 56 a) b fun c d =>
 oP E (xV (Instr.build 177 #[(0, c)])) d fun e f =>
 oP E (xV (Instr.makeInterface 177 e)) f fun g i =>
 R g i
def h79 : Hint := (sQ (sQ hN))
theorem c4l {x0 : Value} (h : F79 x0 w R E) : Cv pG 79 #[x0] w R E := okF (h := h79) Tryz.func79 (by kernel_rfl) (by kernel_rfl) h
def b4I (x6 x7 w) (R : RT) (E) :=
 ∀ _τ : Fr, (oP E (lA 40 x7) w fun b c =>
 oP E (sA 40 x6 b) c fun _ a =>
 xcell pG 40 x6 a fun d =>
 R d a)
def b8G (x0 x1 x5 _x6 x7 x8 : Value) (w) (next2 : NT) (j1 : NT) (_R : RT) (E) :=
 oP E (xBin .neq 3 (.tmp 16) (.const (vI 0)) x8 (vI 0)) w fun g d =>
 xcond g
 (dX d fun a =>
 qP pG (fA 139 x5 2) fun e =>
 qL pG a (blk x7) (lA 40 x7) fun i =>
 qL pG a (blk e) (lA 83 e) fun j =>
 oP E (xCall j [x1]) a fun k b =>
 keepX [(blk x7)] a b (opK pG E (xV (Instr.buildSlice 38 2 #[(0, i), (1, k)])) b fun l c =>
 keepX [] b c (qP pG (xV (Instr.build 40 #[(0, x8), (3, l)])) fun m =>
 oP E (sA 40 x7 m) c fun _ f =>
 keepX [] c f (opK pG E (lA 139 x5) f fun n o =>
 oP E (xCall (fC 121) [x0, n]) o fun p q =>
 next2 [p] q))))
 (j1 [] d)
def F81 (x0 x1 x2 w) (R : RT) (E) :=
 oP E (xV (Instr.box 139 x2)) w fun a d =>
 oP E (xV (Instr.alloc 40 true (.tuple #[]))) d fun c e =>
 oP E (fA 139 a 2) e fun f g =>
 oP E (lA 83 f) g fun i j =>
 oP E (xCall i [x1]) j fun k l =>
 oP E (xV (Instr.alloc 40 true (.tuple #[]))) l fun b m =>
 oP E (sA 40 b k) m fun _ n =>
 xcut (fun _ o => b4I c b o R E) fun j1 =>
 oP E (lA 139 a) n fun p q =>
 oP E (xCall (fC 121) [x0, p]) q fun r s =>
 xloop [8] [r] s fun t u next2 =>
 b8G x0 x1 a c b (t 8) u next2 j1 R E
def h81 : Hint := (sQ (sQ (hU [] (sQ (hB (hL [8] (hS (sQ (hC hN hN)) (hS (hB (.reg [(0, 2097152, 256), (0, 4194304, 128), (0, 8388608, 32), (4, 16777216, 8388608), (0, 33554432, 2), (24, 67108864, 50331648), (34, 134217728, 71303168), (65, 268435456, 136314880), (255, 0, 268435584)] [10, 8, 10, 2, 10, 2, 0, 10, 0] (.early 0 (.early 2 (.early 4 (.load 1 (.load 3 (.step 5 (.step 6 (.early 7 (.step 8 .done))))))))))) hN))))) (sQ hN))))
theorem c4m {x0 x1 x2 : Value} (h : F81 x0 x1 x2 w R E) : Cv pG 81 #[x0, x1, x2] w R E := okF (h := h81) Tryz.func81 (by kernel_rfl) (by kernel_rfl) h
def F82 (x0 x1 w) (R : RT) (E) :=
 oP E (xV (Instr.alloc 40 true (.tuple #[]))) w fun a c =>
 oP E (xV (Instr.buildSlice 77 3 #[(0, (Value.string ⟨#[42]⟩)), (1, (Value.string ⟨#[47]⟩)), (2, (Value.string ⟨#[37]⟩))])) c fun d e =>
 oP E (xV (Instr.buildSlice 137 3 #[(0, (vI 8)), (1, (vI 9)), (2, (vI 10))])) e fun f g =>
 oP E (xV (Instr.makeFunc (.func 122) #[x0] #[])) g fun i j =>
 oP E (xV (Instr.build 139 #[(0, d), (1, f), (2, i)])) j fun k l =>
 oP E (xCall (fC 81) [x0, x1, k]) l fun m n =>
 oP E (sA 40 a m) n fun _ b =>
 xcell pG 40 a b fun o =>
 R o b
def h82 : Hint := (sQ (sQ hN))
theorem c4n {x0 x1 : Value} (h : F82 x0 x1 w R E) : Cv pG 82 #[x0, x1] w R E := okF (h := h82) Tryz.func82 (by kernel_rfl) (by kernel_rfl) h
def b4J (x4 x5 w) (R : RT) (E) :=
 ∀ _τ : Fr, (oP E (lA 40 x5) w fun b c =>
 oP E (sA 40 x4 b) c fun _ a =>
 xcell pG 40 x4 a fun d =>
 R d a)
def b8H (x0 x1 _x4 x5 x6 : Value) (w) (next2 : NT) (j1 : NT) (_R : RT) (E) :=
 oP E (xBin .neq 3 (.tmp 12) (.const (vI 0)) x6 (vI 0)) w fun f d =>
 xcond f
 (oP E (xNil x0) d fun g i =>
 oP E (fA 66 g 1) i fun j k =>
 oP E (lA 3 j) k fun l m =>
 oP E (xBin .add 3 (.tmp 19) (.const (vI 1)) l (vI 1)) m fun n o =>
 oP E (xNil x0) o fun p q =>
 oP E (fA 66 p 1) q fun r s =>
 oP E (sA 3 r n) s fun _ t =>
 dX t fun a =>
 qL pG a (blk x5) (lA 40 x5) fun u =>
 oP E (xCall (fC 123) [x0, x1]) a fun v b =>
 keepX [(blk x5)] a b (opK pG E (xV (Instr.buildSlice 38 2 #[(0, u), (1, v)])) b fun y c =>
 keepX [] b c (qP pG (xV (Instr.build 40 #[(0, x6), (3, y)])) fun z =>
 oP E (sA 40 x5 z) c fun _ e =>
 keepX [] c e (opK pG E (xCall (fC 124) [x0]) e fun aa ab =>
 next2 [aa] ab))))
 (j1 [] d)
def F83 (x0 x1 w) (R : RT) (E) :=
 oP E (xV (Instr.alloc 40 true (.tuple #[]))) w fun b c =>
 oP E (xCall (fC 123) [x0, x1]) c fun d e =>
 oP E (xV (Instr.alloc 40 true (.tuple #[]))) e fun a f =>
 oP E (sA 40 a d) f fun _ g =>
 xcut (fun _ i => b4J b a i R E) fun j1 =>
 oP E (xCall (fC 124) [x0]) g fun j k =>
 xloop [6] [j] k fun l m next2 =>
 b8H x0 x1 b a (l 6) m next2 j1 R E
def h83 : Hint := (sQ (sQ (hU [] (sQ (hB (hL [6] (hS (sQ (hC hN hN)) (hS (hB (sQ (.reg [(0, 8388608, 64), (0, 16777216, 32), (0, 33554432, 1), (0, 67108864, 2), (12, 134217728, 100663296), (18, 268435456, 150994944), (33, 536870912, 276824064), (127, 0, 536870944)] [2, 0, 2, 2, 2, 0, 2, 0] (.early 0 (.early 2 (.early 3 (.load 1 (.step 4 (.step 5 (.early 6 (.step 7 .done))))))))))) hN))))) (sQ hN))))
theorem c4o {x0 x1 : Value} (h : F83 x0 x1 w R E) : Cv pG 83 #[x0, x1] w R E := okF (h := h83) Tryz.func83 (by kernel_rfl) (by kernel_rfl) h
def F87 (x0 x1 w) (R : RT) (E) :=
 oP E (xV (Instr.alloc 49 true (.tuple #[]))) w fun a c =>
 oP E (lA 60 x1) c fun d e =>
 oP E (lA 60 x1) e fun f g =>
 oP E (xV (Instr.makeFunc (.func 89) #[f] #[])) g fun i j =>
 oP E (xCall (fC 88) [d, x0, (Value.string ⟨#[38, 38]⟩), (vI 5), i]) j fun k l =>
 oP E (sA 49 a k) l fun _ b =>
 xcell pG 49 a b fun m =>
 R m b
def h87 : Hint := (sQ (sQ hN))
theorem c4p {x0 x1 : Value} (h : F87 x0 x1 w R E) : Cv pG 87 #[x0, x1] w R E := okF (h := h87) Tryz.func87 (by kernel_rfl) (by kernel_rfl) h
def b4K (x10 x11 w) (R : RT) (E) :=
 ∀ _τ : Fr, (oP E (lA 49 x11) w fun b c =>
 oP E (sA 49 x10 b) c fun _ a =>
 xcell pG 49 x10 a fun d =>
 R d a)
def b8I (x0 x1 x2 x3 x4 _x10 x11 : Value) (w) (next2 : NT) (j1 : NT) (_R : RT) (E) :=
 oP E (xCall (fC 105) [x0, x2]) w fun f d =>
 xcond f
 (dX d fun a =>
 qL pG a (blk x11) (lA 49 x11) fun g =>
 oP E (xCall x4 [x1]) a fun i b =>
 keepX [(blk x11)] a b (opK pG E (xV (Instr.buildSlice 47 2 #[(0, g), (1, i)])) b fun j c =>
 keepX [] b c (qP pG (xV (Instr.build 49 #[(0, x3), (3, j)])) fun k =>
 oP E (sA 49 x11 k) c fun _ e =>
 keepX [] c e (next2 [] e))))
 (j1 [] d)
def F88 (x0 x1 x2 x3 x4 w) (R : RT) (E) :=
 oP E (xV (Instr.alloc 49 true (.tuple #[]))) w fun b c =>
 oP E (xCall x4 [x1]) c fun d e =>
 oP E (xV (Instr.alloc 49 true (.tuple #[]))) e fun a f =>
 oP E (sA 49 a d) f fun _ g =>
 xcut (fun _ i => b4K b a i R E) fun j1 =>
 xloop [] [] g fun _ j next2 =>
 b8I x0 x1 x2 x3 x4 b a j next2 j1 R E
def h88 : Hint := (sQ (sQ (hU [] (hB (hL [] (hS (sQ (hC hN hN)) (hB (.reg [(0, 262144, 8), (0, 524288, 2048), (0, 1048576, 16), (0, 2097152, 2), (12, 4194304, 3145728), (18, 8388608, 4718592), (33, 16777216, 8650752), (127, 0, 16779264)] [2, 0, 2, 2, 2, 0, 2, 0] (.early 0 (.early 2 (.early 3 (.load 1 (.step 4 (.step 5 (.early 6 (.step 7 .done))))))))))))) (sQ hN))))
theorem c4q {x0 x1 x2 x3 x4 : Value} (h : F88 x0 x1 x2 x3 x4 w R E) : Cv pG 88 #[x0, x1, x2, x3, x4] w R E := okF (h := h88) Tryz.func88 (by kernel_rfl) (by kernel_rfl) h
def b4L (x0 x1 x4 w) (R : RT) (E) :=
 ∀ _τ : Fr, (oP E (xCall (fC 35) [x0, x1]) w fun f g =>
 oP E (xV (Instr.alloc 40 true (.tuple #[]))) g fun a i =>
 oP E (sA 40 a f) i fun _ j =>
 oP E (xCall (fC 126) [x0]) j fun k l =>
 dX l fun b =>
 qL pG b (blk a) (lA 40 a) fun m =>
 oP E (xCall (fC 35) [x0, x1]) b fun n c =>
 keepX [(blk a)] b c (opK pG E (xV (Instr.buildSlice 38 2 #[(0, m), (1, n)])) c fun o d =>
 keepX [] c d (qP pG (xV (Instr.build 49 #[(0, (vI 3)), (1, k), (2, o)])) fun p =>
 oP E (sA 49 x4 p) d fun _ e =>
 keepX [] d e (xcell pG 49 x4 e fun q =>
 R q e))))
def F89 (x0 x1 w) (R : RT) (E) :=
 oP E (xV (Instr.alloc 49 true (.tuple #[]))) w fun a m =>
 xcut (fun _ n => b4L x0 x1 a n R E) fun j1 =>
 oP E (xCall (fC 125) [x0]) m fun o p =>
 oP E (xV (Op.unary .not o)) p fun q b =>
 xcond q
 (oP E (xCall (fC 52) [x0]) b fun _t13_27 r =>
 j1 [] r)
 (oP E (xCall (fC 105) [x0, (Value.string ⟨#[116, 114, 117, 101]⟩)]) b fun s c =>
 xcond s
 (oP E (xV (Instr.build 49 #[(0, (vI 1))])) c fun t u =>
 oP E (sA 49 a t) u fun _ d =>
 xcell pG 49 a d fun v =>
 R v d)
 (oP E (xCall (fC 105) [x0, (Value.string ⟨#[102, 97, 108, 115, 101]⟩)]) c fun y e =>
 xcond y
 (oP E (xV (Instr.build 49 #[(0, (vI 2))])) e fun z aa =>
 oP E (sA 49 a z) aa fun _ f =>
 xcell pG 49 a f fun ab =>
 R ab f)
 (oP E (xCall (fC 105) [x0, (Value.string ⟨#[33]⟩)]) e fun ac g =>
 xcond ac
 (oP E (xBin .add 3 (.tmp 26) (.const (vI 1)) x1 (vI 1)) g fun ad ae =>
 oP E (xCall (fC 125) [x0]) ae fun af ag =>
 oP E (xCall (fC 55) [x0, ad, af]) ag fun _t30_49 ah =>
 oP E (xBin .add 3 (.tmp 32) (.const (vI 1)) x1 (vI 1)) ah fun ai aj =>
 oP E (xCall (fC 89) [x0, ai]) aj fun ak al =>
 oP E (xV (Instr.buildSlice 47 1 #[(0, ak)])) al fun am an =>
 oP E (xV (Instr.build 49 #[(0, (vI 4)), (3, am)])) an fun ao ap =>
 oP E (sA 49 a ao) ap fun _ i =>
 xcell pG 49 a i fun aq =>
 R aq i)
 (oP E (xCall (fC 105) [x0, (Value.string ⟨#[91]⟩)]) g fun ar j =>
 xcond ar
 (oP E (xBin .add 3 (.tmp 41) (.const (vI 1)) x1 (vI 1)) j fun au av =>
 oP E (xCall (fC 125) [x0]) av fun aw ax =>
 oP E (xCall (fC 55) [x0, au, aw]) ax fun _t45_68 ay =>
 oP E (xBin .add 3 (.tmp 47) (.const (vI 1)) x1 (vI 1)) ay fun az ba =>
 oP E (xCall (fC 41) [x0, az]) ba fun bb bc =>
 oP E (xV (Instr.alloc 49 true (.tuple #[]))) bc fun k bd =>
 oP E (sA 49 k bb) bd fun _ be =>
 oP E (xCall (fC 103) [x0, (Value.string ⟨#[93]⟩)]) be fun _t51_78 bf =>
 oP E (lA 49 k) bf fun bg bh =>
 oP E (sA 49 a bg) bh fun _ l =>
 xcell pG 49 a l fun bi =>
 R bi l)
 (j1 [] j)))))
def h89 : Hint := (sQ (hU [] (hB (sQ (hC hN (sQ (hC (sQ hN) (sQ (hC (sQ hN) (sQ (hC (sQ (sQ hN)) (sQ (hC (sQ (sQ (sQ (sQ hN)))) hN))))))))))) (sQ (sQ (hS (.reg [(0, 288230376151711744, 128), (0, 576460752303423488, 64), (0, 1152921504606846976, 1), (0, 2305843009213693952, 2), (12, 4611686018427387904, 3458764513820540928), (18, 9223372036854775808, 5188146770730811392), (33, 18446744073709551616, 9511602413006487552), (127, 0, 18446744073709551632)] [2, 0, 2, 2, 2, 0, 2, 0] (.early 0 (.early 2 (.early 3 (.load 1 (.step 4 (.step 5 (.early 6 (.step 7 .done))))))))) hN)))))
theorem c4r {x0 x1 : Value} (h : F89 x0 x1 w R E) : Cv pG 89 #[x0, x1] w R E := okF (h := h89) Tryz.func89 (by kernel_rfl) (by kernel_rfl) h
def b4M (x4 x5 w) (R : RT) (E) :=
 ∀ _τ : Fr, (oP E (lA 49 x5) w fun b c =>
 oP E (sA 49 x4 b) c fun _ a =>
 xcell pG 49 x4 a fun d =>
 R d a)
def b8J (x0 x1 _x4 x5 : Value) (w) (next2 : NT) (j1 : NT) (_R : RT) (E) :=
 oP E (xCall (fC 67) [x0, (Value.string ⟨#[38, 38]⟩)]) w fun f d =>
 xcond f
 (dX d fun a =>
 qL pG a (blk x5) (lA 49 x5) fun g =>
 oP E (xCall (fC 127) [x0, x1]) a fun i b =>
 keepX [(blk x5)] a b (opK pG E (xV (Instr.buildSlice 47 2 #[(0, g), (1, i)])) b fun j c =>
 keepX [] b c (qP pG (xV (Instr.build 49 #[(0, (vI 5)), (3, j)])) fun k =>
 oP E (sA 49 x5 k) c fun _ e =>
 keepX [] c e (next2 [] e))))
 (j1 [] d)
def F90 (x0 x1 w) (R : RT) (E) :=
 oP E (xV (Instr.alloc 49 true (.tuple #[]))) w fun b c =>
 oP E (xCall (fC 127) [x0, x1]) c fun d e =>
 oP E (xV (Instr.alloc 49 true (.tuple #[]))) e fun a f =>
 oP E (sA 49 a d) f fun _ g =>
 xcut (fun _ i => b4M b a i R E) fun j1 =>
 xloop [] [] g fun _ j next2 =>
 b8J x0 x1 b a j next2 j1 R E
def h90 : Hint := (sQ (sQ (hU [] (hB (hL [] (hS (sQ (hC hN hN)) (hB (.reg [(0, 2048, 32), (0, 4096, 1), (0, 8192, 2), (6, 16384, 12288), (9, 32768, 18432), (16, 65536, 32768), (63, 0, 65568)] [0, 1, 1, 1, 0, 1, 0] (.early 1 (.early 2 (.load 0 (.step 3 (.step 4 (.early 5 (.step 6 .done)))))))))))) (sQ hN))))
theorem c4s {x0 x1 : Value} (h : F90 x0 x1 w R E) : Cv pG 90 #[x0, x1] w R E := okF (h := h90) Tryz.func90 (by kernel_rfl) (by kernel_rfl) h
def b4N (w) (R : RT) (_E : Pan) :=
 ∀ _τ : Fr, (R (vB true) w)
def b8K (x1 x2 x15 x16 x17 w) (next2 : NT) (j1 : NT) (R : RT) (E) :=
 oP E (xBin .lss 3 (.tmp 17) (.tmp 16) x17 x16) w fun e a =>
 xcond e
 (oP E (iA 38 x15 x17) a fun f g =>
 oP E (lA 40 f) g fun i j =>
 oP E (xV (Instr.alloc 40 true (.tuple #[]))) j fun b k =>
 oP E (sA 40 b i) k fun _ l =>
 oP E (iA 38 x1 x17) l fun m n =>
 oP E (lA 40 m) n fun o p =>
 oP E (xV (Instr.alloc 40 true (.tuple #[]))) p fun c q =>
 oP E (sA 40 c o) q fun _ r =>
 oP E (lA 40 b) r fun s t =>
 oP E (lA 40 c) t fun u v =>
 oP E (xCall x2 [s, u]) v fun y z =>
 oP E (xV (Op.unary .not y)) z fun aa d =>
 xcond aa
 (R (vB false) d)
 (oP E (xBin .add 3 (.tmp 17) (.const (vI 1)) x17 (vI 1)) d fun ab ac =>
 next2 [ab] ac))
 (j1 [] a)
def F93 (x0 x1 x2 w) (R : RT) (E) :=
 oP E (xBuiltin .len #[38] 3 [false] [x0]) w fun b c =>
 oP E (xBuiltin .len #[38] 3 [false] [x1]) c fun d e =>
 oP E (xBin .neq 3 (.tmp 11) (.tmp 13) b d) e fun f a =>
 xcond f
 (R (vB false) a)
 (xcut (fun _ g => b4N g R E) fun j1 =>
 oP E (xBuiltin .len #[38] 3 [false] [x0]) a fun i j =>
 xloop [17] [(vI 0)] j fun k l next2 =>
 b8K x1 x2 x0 i (k 17) l next2 j1 R E)
def h93 : Hint := (sQ (hS (sQ (hC (sQ hN) hN)) (hU [] (sQ (hB (hL [17] (sQ (hS (hC hN hN) (hS (hB (sQ (sQ (sQ (hC (sQ hN) hN))))) hN)))))) (sQ hN))))
theorem c4t {x0 x1 x2 : Value} (h : F93 x0 x1 x2 w R E) : Cv pG 93 #[x0, x1, x2] w R E := okF (h := h93) Tryz.func93 (by kernel_rfl) (by kernel_rfl) h
def F94 (x0 x1 w) (R : RT) (E) :=
 oP E (xV (Instr.box 40 x0)) w fun d f =>
 oP E (xV (Instr.box 40 x1)) f fun e g =>
 oP E (fA 40 d 0) g fun i j =>
 oP E (lA 3 i) j fun k l =>
 oP E (fA 40 e 0) l fun m n =>
 oP E (lA 3 m) n fun o p =>
 oP E (xBin .eql 3 (.tmp 6) (.tmp 8) k o) p fun a q =>
 oP E (gsem (asB a) true (fA 40 d 1)) q fun r s =>
 oP E (gsem (asB a) true (lA 2 r)) s fun t u =>
 oP E (gsem (asB a) true (fA 40 e 1)) u fun v y =>
 oP E (gsem (asB a) true (lA 2 v)) y fun z aa =>
 oP E (gsem (asB a) true (xBin .eql 2 (.tmp 12) (.tmp 14) t z)) aa fun ab ac =>
 oP E (xPick a ab (vB false)) ac fun b ad =>
 oP E (gsem (asB b) true (fA 40 d 2)) ad fun ae af =>
 oP E (gsem (asB b) true (lA 9 ae)) af fun ag ah =>
 oP E (gsem (asB b) true (fA 40 e 2)) ah fun ai aj =>
 oP E (gsem (asB b) true (lA 9 ai)) aj fun ak al =>
 oP E (gsem (asB b) true (xBin .eql 9 (.tmp 19) (.tmp 21) ag ak)) al fun am an =>
 oP E (xPick b am (vB false)) an fun c ao =>
 oP E (gsem (asB c) true (fA 40 d 3)) ao fun ap aq =>
 oP E (gsem (asB c) true (lA 38 ap)) aq fun ar au =>
 oP E (gsem (asB c) true (fA 40 e 3)) au fun av aw =>
 oP E (gsem (asB c) true (lA 38 av)) aw fun ax ay =>
 oP E (gsem (asB c) true (xCall (fC 93) [ar, ax, (fC 94)])) ay fun az ba =>
 oP E (xPick c az (vB false)) ba fun bb bc =>
 R bb bc
def h94 : Hint := (sQ (sQ hN))
theorem c4u {x0 x1 : Value} (h : F94 x0 x1 w R E) : Cv pG 94 #[x0, x1] w R E := okF (h := h94) Tryz.func94 (by kernel_rfl) (by kernel_rfl) h
def b4O (w) (R : RT) (_E : Pan) :=
 ∀ _τ : Fr, (R (vB true) w)
def b8L (x1 x2 x15 x16 x17 w) (next2 : NT) (j1 : NT) (R : RT) (E) :=
 oP E (xBin .lss 3 (.tmp 17) (.tmp 16) x17 x16) w fun e a =>
 xcond e
 (oP E (iA 47 x15 x17) a fun f g =>
 oP E (lA 49 f) g fun i j =>
 oP E (xV (Instr.alloc 49 true (.tuple #[]))) j fun b k =>
 oP E (sA 49 b i) k fun _ l =>
 oP E (iA 47 x1 x17) l fun m n =>
 oP E (lA 49 m) n fun o p =>
 oP E (xV (Instr.alloc 49 true (.tuple #[]))) p fun c q =>
 oP E (sA 49 c o) q fun _ r =>
 oP E (lA 49 b) r fun s t =>
 oP E (lA 49 c) t fun u v =>
 oP E (xCall x2 [s, u]) v fun y z =>
 oP E (xV (Op.unary .not y)) z fun aa d =>
 xcond aa
 (R (vB false) d)
 (oP E (xBin .add 3 (.tmp 17) (.const (vI 1)) x17 (vI 1)) d fun ab ac =>
 next2 [ab] ac))
 (j1 [] a)
def F95 (x0 x1 x2 w) (R : RT) (E) :=
 oP E (xBuiltin .len #[47] 3 [false] [x0]) w fun b c =>
 oP E (xBuiltin .len #[47] 3 [false] [x1]) c fun d e =>
 oP E (xBin .neq 3 (.tmp 11) (.tmp 13) b d) e fun f a =>
 xcond f
 (R (vB false) a)
 (xcut (fun _ g => b4O g R E) fun j1 =>
 oP E (xBuiltin .len #[47] 3 [false] [x0]) a fun i j =>
 xloop [17] [(vI 0)] j fun k l next2 =>
 b8L x1 x2 x0 i (k 17) l next2 j1 R E)
def h95 : Hint := (sQ (hS (sQ (hC (sQ hN) hN)) (hU [] (sQ (hB (hL [17] (sQ (hS (hC hN hN) (hS (hB (sQ (sQ (sQ (hC (sQ hN) hN))))) hN)))))) (sQ hN))))
theorem c4v {x0 x1 x2 : Value} (h : F95 x0 x1 x2 w R E) : Cv pG 95 #[x0, x1, x2] w R E := okF (h := h95) Tryz.func95 (by kernel_rfl) (by kernel_rfl) h
def F96 (x0 x1 w) (R : RT) (E) :=
 oP E (xV (Instr.box 49 x0)) w fun d f =>
 oP E (xV (Instr.box 49 x1)) f fun e g =>
 oP E (fA 49 d 0) g fun i j =>
 oP E (lA 3 i) j fun k l =>
 oP E (fA 49 e 0) l fun m n =>
 oP E (lA 3 m) n fun o p =>
 oP E (xBin .eql 3 (.tmp 6) (.tmp 8) k o) p fun a q =>
 oP E (gsem (asB a) true (fA 49 d 1)) q fun r s =>
 oP E (gsem (asB a) true (lA 3 r)) s fun t u =>
 oP E (gsem (asB a) true (fA 49 e 1)) u fun v y =>
 oP E (gsem (asB a) true (lA 3 v)) y fun z aa =>
 oP E (gsem (asB a) true (xBin .eql 3 (.tmp 12) (.tmp 14) t z)) aa fun ab ac =>
 oP E (xPick a ab (vB false)) ac fun b ad =>
 oP E (gsem (asB b) true (fA 49 d 2)) ad fun ae af =>
 oP E (gsem (asB b) true (lA 38 ae)) af fun ag ah =>
 oP E (gsem (asB b) true (fA 49 e 2)) ah fun ai aj =>
 oP E (gsem (asB b) true (lA 38 ai)) aj fun ak al =>
 oP E (gsem (asB b) true (xCall (fC 93) [ag, ak, (fC 94)])) al fun am an =>
 oP E (xPick b am (vB false)) an fun c ao =>
 oP E (gsem (asB c) true (fA 49 d 3)) ao fun ap aq =>
 oP E (gsem (asB c) true (lA 47 ap)) aq fun ar au =>
 oP E (gsem (asB c) true (fA 49 e 3)) au fun av aw =>
 oP E (gsem (asB c) true (lA 47 av)) aw fun ax ay =>
 oP E (gsem (asB c) true (xCall (fC 95) [ar, ax, (fC 96)])) ay fun az ba =>
 oP E (xPick c az (vB false)) ba fun bb bc =>
 R bb bc
def h96 : Hint := (sQ (sQ hN))
theorem c4w {x0 x1 : Value} (h : F96 x0 x1 w R E) : Cv pG 96 #[x0, x1] w R E := okF (h := h96) Tryz.func96 (by kernel_rfl) (by kernel_rfl) h
def b4P (w) (R : RT) (_E : Pan) :=
 ∀ _τ : Fr, (R (Value.tuple #[(vI 0), (vI 0)]) w)
def b8M (x0 x12 w) (next2 : NT) (j1 : NT) (R : RT) (E) :=
 oP E (xV (Instr.next x12 true 0)) w fun a g =>
 oP E (xT a 0) g fun i b =>
 xcond i
 (oP E (xT a 1) b fun c j =>
 oP E (xT a 2) j fun k l =>
 oP E (xBin .neq 21 (.tmp 17) (.const (Value.int .i32 65533)) k (Value.int .i32 65533)) l fun m d =>
 xcond m
 (next2 [] d)
 (oP E (xV (Instr.sliceAt 9 x0 (some c) none none)) d fun n o =>
 oP E (xCall (fC 128) [n]) o fun e p =>
 oP E (xT e 0) p fun _t24_23 q =>
 oP E (xT e 1) q fun r s =>
 oP E (xBin .eql 3 (.tmp 26) (.const (vI 1)) r (vI 1)) s fun t f =>
 xcond t
 (R (Value.tuple #[c, (vI 11)]) f)
 (next2 [] f)))
 (j1 [] b)
def F97 (x0 w) (R : RT) (E) :=
 oP E (xBuiltin .len #[9] 3 [false] [x0]) w fun b c =>
 oP E (xBin .gtr 3 (.tmp 9) (.const (vI 65536)) b (vI 65536)) c fun d a =>
 xcond d
 (R (Value.tuple #[(vI 0), (vI 10)]) a)
 (xcut (fun _ e => b4P e R E) fun j1 =>
 oP E (xV (Instr.range 9 x0)) a fun f g =>
 xloop [] [] g fun _ i next2 =>
 b8M x0 f i next2 j1 R E)
def h97 : Hint := (sQ (hS (sQ (hC (sQ hN) hN)) (hU [] (sQ (hB (hL [] (sQ (hS (hC hN hN) (hB (sQ (hS (sQ (hC hN hN)) (sQ (sQ (hC (sQ hN) hN))))))))))) (sQ hN))))
theorem c4x {x0 : Value} (h : F97 x0 w R E) : Cv pG 97 #[x0] w R E := okF (h := h97) Tryz.func97 (by kernel_rfl) (by kernel_rfl) h
def b8N (x0 x2 w) (next1 : NT) (R : RT) (E) :=
 oP E (xCall (fC 135) [x0]) w fun b c =>
 oP E (xCall (fC 134) [b, (Value.string ⟨#[35]⟩)]) c fun d a =>
 xcond d
 (oP E (xCall (fC 133) [x0, (fC 136)]) a fun _t13_7 e =>
 oP E (xCall (fC 133) [x0, x2]) e fun _t11_9 f =>
 next1 [] f)
 (R (Value.tuple #[]) a)
def F99 (x0 w) (R : RT) (E) :=
 oP E (xCall (fC 133) [x0, (fC 131)]) w fun _t5_1 a =>
 xloop [] [] a fun _ b next1 =>
 b8N x0 (fC 131) b next1 R E
def h99 : Hint := (sQ (sQ (hB (hL [] (hS (sQ (hC hN hN)) (hS (hB hN) hN))))))
theorem c4y {x0 : Value} (h : F99 x0 w R E) : Cv pG 99 #[x0] w R E := okF (h := h99) Tryz.func99 (by kernel_rfl) (by kernel_rfl) h
def b6k (w) (R : RT) (_E : Pan) :=
 ∀ _τ : Fr, (R (Value.tuple #[(Value.int .i32 0), (vB false)]) w)
def b6l (x8 w) (j1 : NT) (R : RT) (E) :=
 oP E (xV (Instr.next x8 true 0)) w fun a c =>
 oP E (xT a 0) c fun d b =>
 xcond d
 (oP E (xT a 2) b fun e f =>
 R (Value.tuple #[e, (vB true)]) f)
 (j1 [] b)
def c4z (x0 w) (R : RT) (E) :=
 xcut (fun _ a => b6k a R E) fun j1 =>
 oP E (xCall (fC 135) [x0]) w fun b c =>
 oP E (xV (Instr.range 9 b)) c fun d e =>
 xloop [] [] e fun _ f _ =>
 b6l d f j1 R E
def c7r : Hint := (sQ (hU [] (sQ (hB (hL [] (sQ (hS (hC hN hN) (hB (sQ (sQ hN)))))))) (sQ hN)))
theorem c1D {x0 : Value} (h : c4z x0 w R E) : Cv pG 100 #[x0] w R E := okF (h := c7r) Tryz.func100 (by kernel_rfl) (by kernel_rfl) h
def c4A (x0 x1 w) (R : RT) (E) :=
 oP E (xCall (fC 132) [x1]) w fun a e =>
 oP E (xBin .eql 3 (.tmp 6) (.const (vI 3)) a (vI 3)) e fun f b =>
 xcond f
 (oP E (xV (Instr.makeFunc (.func 137) #[x0] #[])) b fun g i =>
 R g i)
 (oP E (xBin .eql 3 (.tmp 6) (.const (vI 4)) a (vI 4)) b fun j c =>
 xcond j
 (oP E (xV (Instr.makeFunc (.func 138) #[x0] #[])) c fun k l =>
 R k l)
 (oP E (xBin .eql 3 (.tmp 6) (.const (vI 5)) a (vI 5)) c fun m d =>
 xcond m
 (oP E (xV (Instr.makeFunc (.func 139) #[x0] #[])) d fun n o =>
 R n o)
 (R (fC 140) d)))
def c7s : Hint := (sQ (hS (sQ (hB (sQ (hC (sQ hN) (sQ (hC (sQ hN) (sQ (hC (sQ hN) hN)))))))) (sQ hN)))
theorem c1E {x0 x1 : Value} (h : c4A x0 x1 w R E) : Cv pG 101 #[x0, x1] w R E := okF (h := c7s) Tryz.func101 (by kernel_rfl) (by kernel_rfl) h
def b2g (x0 x4 w) (R : RT) (E) :=
 ∀ _τ : Fr, (oP E (xCall (fC 104) [x0]) w fun b c =>
 oP E (sA 103 x4 b) c fun _ a =>
 xcell pG 103 x4 a fun d =>
 R d a)
def c4B (x0 x1 w) (R : RT) (E) :=
 oP E (xV (Instr.alloc 103 true (.tuple #[]))) w fun b c =>
 xcut (fun _ d => b2g x0 b d R E) fun j1 =>
 oP E (xCall (fC 51) [x0]) c fun e f =>
 oP E (xV (Instr.field 103 e 0)) f fun g i =>
 oP E (xBin .neq 3 (.tmp 7) (.tmp 8) g x1) i fun j a =>
 xcond j
 (oP E (xCall (fC 52) [x0]) a fun _t11_16 k =>
 j1 [] k)
 (j1 [] a)
def c7t : Hint := (sQ (hU [] (sQ (hC hN hN)) (sQ hN)))
theorem c1F {x0 x1 : Value} (h : c4B x0 x1 w R E) : Cv pG 102 #[x0, x1] w R E := okF (h := c7t) Tryz.func102 (by kernel_rfl) (by kernel_rfl) h
def c4C (x0 x1 w) (R : RT) (E) :=
 oP E (xCall (fC 105) [x0, x1]) w fun b c =>
 oP E (xV (Op.unary .not b)) c fun d a =>
 xcond d
 (oP E (xCall (fC 52) [x0]) a fun _t9_5 e =>
 R (Value.tuple #[]) e)
 (R (Value.tuple #[]) a)
def c7u : Hint := (sQ (hC hN hN))
theorem c1G {x0 x1 : Value} (h : c4C x0 x1 w R E) : Cv pG 103 #[x0, x1] w R E := okF (h := c7u) Tryz.func103 (by kernel_rfl) (by kernel_rfl) h
def b2h (x0 x2 x3 w) (R : RT) (E) :=
 ∀ _τ : Fr, (oP E (xNil x0) w fun b c =>
 oP E (fA 101 b 1) c fun d e =>
 oP E (lA 3 d) e fun f g =>
 oP E (xBin .add 3 (.tmp 14) (.const (vI 1)) f (vI 1)) g fun i j =>
 oP E (xNil x0) j fun k l =>
 oP E (fA 101 k 1) l fun m n =>
 oP E (sA 3 m i) n fun _ o =>
 oP E (lA 103 x3) o fun p q =>
 oP E (sA 103 x2 p) q fun _ a =>
 xcell pG 103 x2 a fun r =>
 R r a)
def c4D (x0 w) (R : RT) (E) :=
 oP E (xV (Instr.alloc 103 true (.tuple #[]))) w fun c d =>
 oP E (xCall (fC 51) [x0]) d fun e f =>
 oP E (xV (Instr.alloc 103 true (.tuple #[]))) f fun a g =>
 oP E (sA 103 a e) g fun _ i =>
 xcut (fun _ j => b2h x0 c a j R E) fun j1 =>
 oP E (fA 103 a 0) i fun k l =>
 oP E (lA 3 k) l fun m n =>
 oP E (xBin .eql 3 (.tmp 7) (.const (vI 5)) m (vI 5)) n fun o b =>
 xcond o
 (oP E (xCall (fC 52) [x0]) b fun _t10_36 p =>
 j1 [] p)
 (j1 [] b)
def c7v : Hint := (sQ (sQ (hU [] (sQ (hC hN hN)) (sQ (sQ hN)))))
theorem c1H {x0 : Value} (h : c4D x0 w R E) : Cv pG 104 #[x0] w R E := okF (h := c7v) Tryz.func104 (by kernel_rfl) (by kernel_rfl) h
def c4E (x0 x1 w) (R : RT) (E) :=
 oP E (xCall (fC 53) [x0, x1]) w fun b c =>
 oP E (xV (Op.unary .not b)) c fun d a =>
 xcond d
 (R (vB false) a)
 (oP E (xNil x0) a fun e f =>
 oP E (fA 101 e 1) f fun g i =>
 oP E (lA 3 g) i fun j k =>
 oP E (xBin .add 3 (.tmp 12) (.const (vI 1)) j (vI 1)) k fun l m =>
 oP E (xNil x0) m fun n o =>
 oP E (fA 101 n 1) o fun p q =>
 oP E (sA 3 p l) q fun _ r =>
 R (vB true) r)
def c7w : Hint := (sQ (hS (sQ (hC (sQ hN) hN)) (sQ (sQ hN))))
theorem c1I {x0 x1 : Value} (h : c4E x0 x1 w R E) : Cv pG 105 #[x0, x1] w R E := okF (h := c7w) Tryz.func105 (by kernel_rfl) (by kernel_rfl) h
def c4F (x0 x1 x2 w) (R : RT) (E) :=
 oP E (xV (Instr.alloc 40 true (.tuple #[]))) w fun a d =>
 oP E (xBin .add 3 (.tmp 9) (.const (vI 1)) x1 (vI 1)) d fun e f =>
 oP E (xCall (fC 141) [x0]) f fun g i =>
 oP E (xCall (fC 55) [x0, e, g]) i fun _t13_7 j =>
 oP E (xBin .add 3 (.tmp 15) (.const (vI 1)) x1 (vI 1)) j fun k l =>
 oP E (xCall (fC 35) [x0, k]) l fun m n =>
 oP E (xV (Instr.alloc 40 true (.tuple #[]))) n fun b o =>
 oP E (sA 40 b m) o fun _ p =>
 oP E (xCall (fC 103) [x0, x2]) p fun _t20_17 q =>
 oP E (lA 40 b) q fun r s =>
 oP E (sA 40 a r) s fun _ c =>
 xcell pG 40 a c fun t =>
 R t c
def c7x : Hint := (sQ (sQ (sQ (sQ (sQ hN)))))
theorem c1J {x0 x1 x2 : Value} (h : c4F x0 x1 x2 w R E) : Cv pG 106 #[x0, x1, x2] w R E := okF (h := c7x) Tryz.func106 (by kernel_rfl) (by kernel_rfl) h
def b2i (x5 w) (R : RT) (_E : Pan) :=
 ∀ _τ : Fr, (R x5 w)
def b6m (x0 x1 x5 w) (next2 : NT) (j1 : NT) (_R : RT) (E) :=
 oP E (xCall (fC 105) [x0, (Value.string ⟨#[125]⟩)]) w fun b c =>
 oP E (xV (Op.unary .not b)) c fun d a =>
 xcond d
 (oP E (xBin .add 3 (.tmp 12) (.const (vI 1)) x1 (vI 1)) a fun e f =>
 oP E (xCall (fC 56) [x0]) f fun g i =>
 oP E (xCall (fC 55) [x0, e, g]) i fun _t16_13 j =>
 oP E (xBin .add 3 (.tmp 19) (.const (vI 1)) x1 (vI 1)) j fun k l =>
 oP E (xCall (fC 57) [x0, k]) l fun m n =>
 oP E (xV (Instr.buildSlice 24 1 #[(0, m)])) n fun o p =>
 oP E (xBuiltin .append #[24, 24] 24 [false, false] [x5, o]) p fun q r =>
 next2 [q] r)
 (j1 [x5] a)
def c4G (x0 x1 w) (R : RT) (E) :=
 oP E (xCall (fC 103) [x0, (Value.string ⟨#[123]⟩)]) w fun _t7_1 a =>
 xcut (fun b c => b2i (nth b 0) c R E) fun j1 =>
 xloop [5] [(nS)] a fun d e next2 =>
 b6m x0 x1 (d 5) e next2 j1 R E
def c7y : Hint := (sQ (sQ (sQ (hU [5] (hB (hL [5] (hS (sQ (hC hN hN)) (hB (sQ hN))))) (sQ hN)))))
theorem c1K {x0 x1 : Value} (h : c4G x0 x1 w R E) : Cv pG 107 #[x0, x1] w R E := okF (h := c7y) Tryz.func107 (by kernel_rfl) (by kernel_rfl) h
def b2j (w) (R : RT) (_E : Pan) :=
 ∀ _τ : Fr, (R (vB true) w)
def b6n (x1 x2 x3 x9 x10 x11 w) (next2 : NT) (j1 : NT) (R : RT) (E) :=
 oP E (xBin .lss 3 (.tmp 11) (.tmp 10) x11 x10) w fun i f =>
 xcond i
 (oP E (iA 128 x9 x11) f fun j k =>
 oP E (lA 131 j) k fun g l =>
 dX l fun c =>
 qL pG c (blk x2) (lA 80 x2) fun m =>
 oP E (xCall (fC 119) [m, g, x1]) c fun n b =>
 keepX [] c b (qP pG (xV (Op.unary .not n)) fun a =>
 qP pG (gsem (asB a) false (xBin .add 3 (.tmp 24) (.const (vI 1)) (gval (asB a) false x1) (vI 1))) fun o =>
 qL pG b (blk x3) (gsem (asB a) false (lA 169 x3)) fun p =>
 oP E (gsem (asB a) false (xInvoke (gval (asB a) false g) "gnomon/tree.parts" [])) b fun q d =>
 keepX [(blk x3)] b d (opK pG E (gsem (asB a) false (xCall p [q, o])) d fun r e =>
 keepX [] d e (qP pG (gsem (asB a) false (xV (Op.unary .not r))) fun s =>
 qP pG (xPick a (vB true) s) fun t =>
 xcond t
 (R (vB false) e)
 (oP E (xBin .add 3 (.tmp 11) (.const (vI 1)) x11 (vI 1)) e fun u v =>
 next2 [u] v)))))
 (j1 [] f)
def c4H (x0 x1 x2 x3 w) (R : RT) (E) :=
 xcut (fun _ a => b2j a R E) fun j1 =>
 oP E (xBuiltin .len #[128] 3 [false] [x0]) w fun b c =>
 xloop [11] [(vI 0)] c fun d e next2 =>
 b6n x1 x2 x3 x0 b (d 11) e next2 j1 R E
def c7z : Hint := (sQ (hU [] (sQ (hB (hL [11] (sQ (hS (hC hN hN) (hS (hB (sQ (hS (.reg [(0, 32768, 4), (0, 65536, 256), (0, 131072, 2), (7, 262144, 229376), (8, 524288, 262144), (24, 1048576, 524288), (32, 2097152, 1048584), (32, 4194304, 1048832), (160, 8388608, 5242880), (32, 16777216, 1048578), (544, 33554432, 17825792), (1376, 67108864, 45088768), (2080, 134217728, 68157440), (4128, 268435456, 135266304)] [64, 65, 65, 0, 65, 65, 1, 65, 64, 65, 65, 0, 65, 65] (.early 1 (.early 2 (.load 0 (.step 3 (.early 4 (.early 5 (.early 7 (.early 9 (.early 10 (.load 6 (.step 8 (.step 11 (.early 12 (.early 13 .done))))))))))))))) (hC (sQ hN) hN)))) hN)))))) (sQ hN)))
theorem c1L {x0 x1 x2 x3 : Value} (h : c4H x0 x1 x2 x3 w R E) : Cv pG 118 #[x0, x1, x2, x3] w R E := okF (h := c7z) Tryz.func118 (by kernel_rfl) (by kernel_rfl) h
def b2k (w) (R : RT) (_E : Pan) :=
 ∀ _τ : Fr, (R (vB true) w)
def c4I (x0 x1 x2 w) (R : RT) (E) :=
 oP E (xNil x0) w fun j k =>
 oP E (fA 79 j 0) k fun l m =>
 oP E (lA 3 l) m fun n o =>
 oP E (xBin .add 3 (.tmp 12) (.const (vI 1)) n (vI 1)) o fun p q =>
 oP E (xNil x0) q fun r s =>
 oP E (fA 79 r 0) s fun t u =>
 oP E (sA 3 t p) u fun _ v =>
 oP E (xNil x0) v fun y z =>
 oP E (fA 79 y 0) z fun aa ab =>
 oP E (lA 3 aa) ab fun ac ad =>
 oP E (xBin .gtr 3 (.tmp 19) (.const (vI 4096)) ac (vI 4096)) ad fun ae d =>
 xcond ae
 (oP E (xNil x0) d fun af ag =>
 oP E (fA 79 af 2) ag fun ah ai =>
 oP E (sA 29 ah (vI 33)) ai fun _ aj =>
 R (vB false) aj)
 (oP E (xBin .gtr 3 (.tmp 24) (.const (vI 64)) x2 (vI 64)) d fun ak e =>
 xcond ak
 (oP E (xNil x0) e fun al am =>
 oP E (fA 79 al 2) am fun an ao =>
 oP E (sA 29 an (vI 32)) ao fun _ ap =>
 R (vB false) ap)
 (oP E (xNil x0) e fun aq ar =>
 oP E (fA 79 aq 1) ar fun au av =>
 oP E (lA 3 au) av fun aw ax =>
 oP E (xBuiltin .max #[3, 3] 3 [false, false] [aw, x2]) ax fun ay az =>
 oP E (xNil x0) az fun ba bb =>
 oP E (fA 79 ba 1) bb fun bc bd =>
 oP E (sA 3 bc ay) bd fun _ be =>
 oP E (xNil x0) be fun bf bg =>
 oP E (fA 79 bf 3) bg fun bh bi =>
 oP E (lA 4 bh) bi fun a bj =>
 oP E (gsem (asB a) false (xInvoke (gval (asB a) false x1) "gnomon/tree.form" [])) bj fun bk bl =>
 oP E (gsem (asB a) false (xV (Op.unary .not bk))) bl fun bm bn =>
 oP E (xPick a (vB true) bm) bn fun bo bp =>
 oP E (xNil x0) bp fun bq br =>
 oP E (fA 79 bq 3) br fun bs bt =>
 oP E (sA 4 bs bo) bt fun _ bu =>
 xcut (fun _ bv => b2k bv R E) fun j1 =>
 oP E (xCall (fC 143) [x1]) bu fun f bw =>
 oP E (xT f 0) bw fun c bz =>
 oP E (xT f 1) bz fun ca g =>
 xcond ca
 (oP E (xNil x0) g fun cb cc =>
 oP E (fA 79 cb 4) cc fun cd ce =>
 oP E (lA 4 cd) ce fun b cf =>
 oP E (gsem (asB b) false (xCall (fC 144) [(gval (asB b) false c)])) cf fun cg ch =>
 oP E (gsem (asB b) false (xV (Op.unary .not cg))) ch fun ci cj =>
 oP E (xPick b (vB true) ci) cj fun ck cl =>
 oP E (xNil x0) cl fun cm cn =>
 oP E (fA 79 cm 4) cn fun co cp =>
 oP E (sA 4 co ck) cp fun _ cq =>
 oP E (xNil x0) cq fun cr cs =>
 oP E (fA 79 cr 5) cs fun ct cu =>
 oP E (lA 77 ct) cu fun cv cw =>
 oP E (xCall (fC 145) [cv, c]) cw fun cx cy =>
 oP E (xV (Op.unary .not cx)) cy fun cz i =>
 xcond cz
 (oP E (xNil x0) i fun da db =>
 oP E (fA 79 da 5) db fun dc dd =>
 oP E (lA 77 dc) dd fun de df =>
 oP E (xV (Instr.buildSlice 77 1 #[(0, c)])) df fun dg dh =>
 oP E (xBuiltin .append #[77, 77] 77 [false, false] [de, dg]) dh fun di dj =>
 oP E (xNil x0) dj fun dk dl =>
 oP E (fA 79 dk 5) dl fun dm dn =>
 oP E (sA 77 dm di) dn fun _ dp =>
 j1 [] dp)
 (j1 [] i))
 (j1 [] g)))
def c7A : Hint := (sQ (hS (sQ (sQ (hC (sQ (sQ hN)) hN))) (hS (sQ (hC (sQ (sQ hN)) hN)) (sQ (sQ (hU [] (sQ (sQ (hC (sQ (sQ (hC hN hN))) hN))) (sQ hN)))))))
theorem c1M {x0 x1 x2 : Value} (h : c4I x0 x1 x2 w R E) : Cv pG 119 #[x0, x1, x2] w R E := okF (h := c7A) Tryz.func119 (by kernel_rfl) (by kernel_rfl) h
def b2l (x0 w) (R : RT) (_E : Pan) :=
 ∀ _τ : Fr, (R x0 w)
def b6o (x0 x1 w) (R : RT) (E) :=
 ∀ _τ : Fr, (xcut (fun c d => b2l (nth c 0) d R E) fun j2 =>
 oP E (xBuiltin .cap #[128] 3 [false] [x0]) w fun e f =>
 oP E (xBuiltin .len #[128] 3 [false] [x0]) f fun g i =>
 oP E (xBin .sub 3 (.tmp 10) (.tmp 12) e g) i fun j k =>
 oP E (xBin .sub 3 (.tmp 8) (.tmp 13) x1 j) k fun a l =>
 oP E (xBin .gtr 3 (.tmp 15) (.const (vI 0)) a (vI 0)) l fun m b =>
 xcond m
 (oP E (xBuiltin .cap #[128] 3 [false] [x0]) b fun n o =>
 oP E (xV (Instr.sliceAt 128 x0 none (some n) none)) o fun p q =>
 oP E (xBuiltin .append #[128, 3] 128 [false, false] [p, a]) q fun r s =>
 oP E (xBuiltin .len #[128] 3 [false] [x0]) s fun t u =>
 oP E (xV (Instr.sliceAt 128 r none (some t) none)) u fun v y =>
 j2 [v] y)
 (j2 [x0] b))
def c4J (x0 x1 w) (R : RT) (E) :=
 xcut (fun _ b => b6o x0 x1 b R E) fun j1 =>
 oP E (xBin .lss 3 (.tmp 5) (.const (vI 0)) x1 (vI 0)) w fun c a =>
 xcond c
 (oP E (xV (Instr.makeInterface 9 (Value.string ⟨#[99, 97, 110, 110, 111, 116, 32, 98, 101, 32, 110, 101, 103, 97, 116, 105, 118, 101]⟩))) a fun d e =>
 oP E (xV (Instr.panic d)) e fun _ f =>
 j1 [] f)
 (j1 [] a)
def c7B : Hint := (sQ (hU [] (sQ (hC hN hN)) (hU [0] (sQ (sQ (hC hN hN))) (sQ hN))))
theorem c1N {x0 x1 : Value} (h : c4J x0 x1 w R E) : Cv pG 120 #[x0, x1] w R E := okF (h := c7B) Tryz.func120 (by kernel_rfl) (by kernel_rfl) h
def b2m (w) (R : RT) (_E : Pan) :=
 ∀ _τ : Fr, (R (vI 0) w)
def b6p (x0 x3 x8 x9 x10 w) (next2 : NT) (j1 : NT) (R : RT) (E) :=
 oP E (xBin .lss 3 (.tmp 10) (.tmp 9) x10 x9) w fun c a =>
 xcond c
 (oP E (iA 77 x8 x10) a fun d e =>
 oP E (lA 9 d) e fun f g =>
 oP E (xCall (fC 105) [x0, f]) g fun i b =>
 xcond i
 (oP E (fA 139 x3 1) b fun j k =>
 oP E (lA 137 j) k fun l m =>
 oP E (iA 137 l x10) m fun n o =>
 oP E (lA 3 n) o fun p q =>
 R p q)
 (oP E (xBin .add 3 (.tmp 10) (.const (vI 1)) x10 (vI 1)) b fun r s =>
 next2 [r] s))
 (j1 [] a)
def c4K (x0 x1 w) (R : RT) (E) :=
 oP E (xV (Instr.box 139 x1)) w fun a c =>
 xcut (fun _ d => b2m d R E) fun j1 =>
 oP E (fA 139 a 0) c fun e f =>
 oP E (lA 77 e) f fun b g =>
 oP E (xBuiltin .len #[77] 3 [false] [b]) g fun i j =>
 xloop [10] [(vI 0)] j fun k l next2 =>
 b6p x0 a b i (k 10) l next2 j1 R E
def c7C : Hint := (sQ (hU [] (sQ (hB (hL [10] (sQ (hS (hC hN hN) (hS (hB (sQ (sQ (hC (sQ hN) hN)))) hN)))))) (sQ hN)))
theorem c1O {x0 x1 : Value} (h : c4K x0 x1 w R E) : Cv pG 121 #[x0, x1] w R E := okF (h := c7C) Tryz.func121 (by kernel_rfl) (by kernel_rfl) h
def b2n (x0 x1 x4 w) (R : RT) (E) :=
 ∀ _τ : Fr, (oP E (xCall (fC 104) [x0]) w fun l m =>
 oP E (xV (Instr.alloc 103 true (.tuple #[]))) m fun a n =>
 oP E (sA 103 a l) n fun _ o =>
 oP E (fA 103 a 0) o fun p q =>
 oP E (lA 3 p) q fun r s =>
 oP E (xBin .eql 3 (.tmp 40) (.const (vI 2)) r (vI 2)) s fun t g =>
 xcond t
 (oP E (fA 103 a 2) g fun u v =>
 oP E (lA 2 u) v fun y z =>
 oP E (xV (Instr.build 40 #[(0, (vI 1)), (1, y)])) z fun aa ab =>
 oP E (sA 40 x4 aa) ab fun _ i =>
 xcell pG 40 x4 i fun ac =>
 R ac i)
 (oP E (xCall (fC 105) [x0, (Value.string ⟨#[91]⟩)]) g fun ad ae =>
 oP E (xV (Op.unary .not ad)) ae fun af j =>
 xcond af
 (oP E (fA 103 a 1) j fun ag ah =>
 oP E (lA 9 ag) ah fun ai aj =>
 oP E (xV (Instr.build 40 #[(0, (vI 2)), (2, ai)])) aj fun ak al =>
 oP E (sA 40 x4 ak) al fun _ k =>
 xcell pG 40 x4 k fun am =>
 R am k)
 (dX j fun c =>
 qP pG (fA 103 a 1) fun b =>
 qL pG c (blk b) (lA 9 b) fun an =>
 oP E (xCall (fC 106) [x0, x1, (Value.string ⟨#[93]⟩)]) c fun ao d =>
 keepX [(blk b)] c d (opK pG E (xV (Instr.buildSlice 38 1 #[(0, ao)])) d fun ap e =>
 keepX [(blk b)] d e (qP pG (xV (Instr.build 40 #[(0, (vI 4)), (2, an), (3, ap)])) fun aq =>
 oP E (sA 40 x4 aq) e fun _ f =>
 keepX [] e f (xcell pG 40 x4 f fun ar =>
 R ar f))))))
def c4L (x0 x1 w) (R : RT) (E) :=
 oP E (xV (Instr.alloc 40 true (.tuple #[]))) w fun a j =>
 xcut (fun _ k => b2n x0 x1 a k R E) fun j1 =>
 oP E (xCall (fC 141) [x0]) j fun l m =>
 oP E (xV (Op.unary .not l)) m fun n b =>
 xcond n
 (oP E (xCall (fC 52) [x0]) b fun _t11_54 o =>
 j1 [] o)
 (oP E (xCall (fC 105) [x0, (Value.string ⟨#[45]⟩)]) b fun p c =>
 xcond p
 (oP E (xBin .add 3 (.tmp 16) (.const (vI 1)) x1 (vI 1)) c fun q r =>
 oP E (xCall (fC 141) [x0]) r fun s t =>
 oP E (xCall (fC 55) [x0, q, s]) t fun _t20_62 u =>
 oP E (xBin .add 3 (.tmp 22) (.const (vI 1)) x1 (vI 1)) u fun v y =>
 oP E (xCall (fC 122) [x0, v]) y fun z aa =>
 oP E (xV (Instr.buildSlice 38 1 #[(0, z)])) aa fun ab ac =>
 oP E (xV (Instr.build 40 #[(0, (vI 5)), (3, ab)])) ac fun ad ae =>
 oP E (sA 40 a ad) ae fun _ d =>
 xcell pG 40 a d fun af =>
 R af d)
 (oP E (xCall (fC 105) [x0, (Value.string ⟨#[40]⟩)]) c fun ag e =>
 xcond ag
 (oP E (xCall (fC 106) [x0, x1, (Value.string ⟨#[41]⟩)]) e fun ah ai =>
 oP E (sA 40 a ah) ai fun _ f =>
 xcell pG 40 a f fun aj =>
 R aj f)
 (oP E (xCall (fC 105) [x0, (Value.string ⟨#[105, 110, 112, 117, 116]⟩)]) e fun ak g =>
 xcond ak
 (oP E (xV (Instr.build 40 #[(0, (vI 3))])) g fun al am =>
 oP E (sA 40 a al) am fun _ i =>
 xcell pG 40 a i fun an =>
 R an i)
 (j1 [] g))))
def c7D : Hint := (sQ (hU [] (hB (sQ (hC hN (sQ (hC (sQ (sQ hN)) (sQ (hC (sQ hN) (sQ (hC (sQ hN) hN))))))))) (sQ (hS (sQ (hC (sQ hN) hN)) (hS (sQ (hC (sQ hN) hN)) (hS (.reg [(0, 2251799813685248, 32), (1, 4503599627370496, 2251799813685248), (0, 9007199254740992, 1), (0, 18014398509481984, 2), (12, 36028797018963968, 27021597764222976), (16, 72057594037927936, 36028797018963968), (34, 144115188075855872, 76561193665298432), (127, 0, 144115188075855888)] [2, 0, 2, 2, 2, 2, 2, 0] (.early 0 (.early 2 (.early 3 (.load 1 (.step 4 (.step 5 (.early 6 (.step 7 .done))))))))) hN))))))
theorem c1P {x0 x1 : Value} (h : c4L x0 x1 w R E) : Cv pG 122 #[x0, x1] w R E := okF (h := c7D) Tryz.func122 (by kernel_rfl) (by kernel_rfl) h
def c4M (x0 w) (R : RT) (E) :=
 oP E (xCall (fC 23) [x0, (Value.string ⟨#[42]⟩)]) w fun d a =>
 xcond d
 (R (vI 8) a)
 (oP E (xCall (fC 23) [x0, (Value.string ⟨#[47]⟩)]) a fun e b =>
 xcond e
 (R (vI 9) b)
 (oP E (xCall (fC 23) [x0, (Value.string ⟨#[37]⟩)]) b fun f c =>
 xcond f
 (R (vI 10) c)
 (R (vI 0) c)))
def c7E : Hint := (sQ (hS (hB (sQ (hC (sQ hN) (sQ (hC (sQ hN) (sQ (hC (sQ hN) hN))))))) (sQ hN)))
theorem c1Q {x0 : Value} (h : c4M x0 w R E) : Cv pG 124 #[x0] w R E := okF (h := c7E) Tryz.func124 (by kernel_rfl) (by kernel_rfl) h
def c4N (x0 w) (R : RT) (E) :=
 oP E (xCall (fC 141) [x0]) w fun a e =>
 oP E (gsem (asB a) false (xCall (fC 53) [(gval (asB a) false x0), (Value.string ⟨#[116, 114, 117, 101]⟩)])) e fun f g =>
 oP E (xPick a (vB true) f) g fun b i =>
 oP E (gsem (asB b) false (xCall (fC 53) [(gval (asB b) false x0), (Value.string ⟨#[102, 97, 108, 115, 101]⟩)])) i fun j k =>
 oP E (xPick b (vB true) j) k fun c l =>
 oP E (gsem (asB c) false (xCall (fC 53) [(gval (asB c) false x0), (Value.string ⟨#[33]⟩)])) l fun m n =>
 oP E (xPick c (vB true) m) n fun d o =>
 oP E (gsem (asB d) false (xCall (fC 53) [(gval (asB d) false x0), (Value.string ⟨#[91]⟩)])) o fun p q =>
 oP E (xPick d (vB true) p) q fun r s =>
 R r s
def c7F : Hint := (sQ (sQ hN))
theorem c1R {x0 : Value} (h : c4N x0 w R E) : Cv pG 125 #[x0] w R E := okF (h := c7F) Tryz.func125 (by kernel_rfl) (by kernel_rfl) h
end Go.Proofs.YthklmeihgmcljaaGreatDoor
