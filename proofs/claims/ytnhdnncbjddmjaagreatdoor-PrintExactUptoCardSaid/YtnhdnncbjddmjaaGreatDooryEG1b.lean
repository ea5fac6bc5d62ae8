/- The second reading of some of the program's functions, printed by gen2.py off the code; each is held against the code by the kernel. -/
import Derived.KernelRfl
import Derived.Test.YtnhdnncbjddmjaaGreatDooryEGz
namespace Go.Proofs.YtnhdnncbjddmjaaGreatDoor
open Go.RowKit
set_option maxRecDepth 100000
variable {w:World}{R:RT}{E:Pan}
def b4S(x0 x2 x4 x7 w)(next2:NT)(R:RT)(E):=
 opK pG E (fA 71 x4 3) w fun c d=>
 oP E (lA 49 c) d fun e f=>
 oP E (xBuiltin .len #[49] 3 [false] [e]) f fun g i=>
 oP E (bN .lss 3 35 38 x7 g) i fun a j=>
 oP E (gYs a (xNil (zT a x0))) j fun k l=>
 oP E (gYs a (fA 76 k 2)) l fun m n=>
 oP E (gYs a (lA 3 m)) n fun o p=>
 oP E (gYs a (bC .eql 3 44 o (vI 0))) p fun q r=>
 oP E (xPick a q (vB false)) r fun s b=>
 xcond s
 (oP E (fA 71 x4 3) b fun t u=>
 oP E (lA 49 t) u fun v y=>
 oP E (iA 49 v x7) y fun z aa=>
 oP E (lA 71 z) aa fun ab ac=>
 oP E (bC .add 3 55 x2 (vI 1)) ac fun ad ae=>
 oP E (xCall (fC 75) [x0,ab,ad]) ae fun _t57_35 af=>
 oP E (bC .add 3 47 x7 (vI 1)) af fun ag ah=>
 next2 [ag] ah)
 (R (Value.tuple #[]) b)
def b1Q(x0 x2 x4 w)(R:RT)(E):=
 ∀_τ:Fr,(xloop [7] [(vI 0)] w fun a b next2=>
 b4S x0 x2 x4 (a 7) b next2 R E)
def b4T(x0 x2 x4 x6 w)(next3:NT)(j1:NT)(_R:RT)(E):=
 opK pG E (fA 71 x4 2) w fun c d=>
 oP E (lA 34 c) d fun e f=>
 oP E (xBuiltin .len #[34] 3 [false] [e]) f fun g i=>
 oP E (bN .lss 3 12 15 x6 g) i fun a j=>
 oP E (gYs a (xNil (zT a x0))) j fun k l=>
 oP E (gYs a (fA 76 k 2)) l fun m n=>
 oP E (gYs a (lA 3 m)) n fun o p=>
 oP E (gYs a (bC .eql 3 21 o (vI 0))) p fun q r=>
 oP E (xPick a q (vB false)) r fun s b=>
 xcond s
 (oP E (fA 71 x4 2) b fun t u=>
 oP E (lA 34 t) u fun v y=>
 oP E (iA 34 v x6) y fun z aa=>
 oP E (lA 36 z) aa fun ab ac=>
 oP E (bC .add 3 32 x2 (vI 1)) ac fun ad ae=>
 oP E (xCall (fC 76) [x0,ab,ad]) ae fun _t34_71 af=>
 oP E (bC .add 3 24 x6 (vI 1)) af fun ag ah=>
 next3 [ag] ah)
 (j1 [] b)
def F75(x0 x1 x2 w)(R:RT)(E):=
 opK pG E (xV (Instr.box 71 x1)) w fun a c=>
 oP E (xCall (fC 51) [x0,x2]) c fun d e=>
 oP E (xV (Op.unary .not d)) e fun f b=>
 xcond f
 (R (Value.tuple #[]) b)
 (xcut (fun _ g=>b1Q x0 x2 a g R E) fun j1=>
 xloop [6] [(vI 0)] b fun i j next3=>
 b4T x0 x2 a (i 6) j next3 j1 R E)
def h75:Hint:=(sQ (hS (sQ (hC hN hN)) (hU [] (sQ (hB (hL [6] (hS (sQ (hC hN hN)) (hS (hB hN) hN))))) (sQ (hB (hL [7] (hS (sQ (hC hN hN)) (hS (hB hN) hN))))))))
theorem b9l{x0 x1 x2:Value}(h:F75 x0 x1 x2 w R E):Cv pG 75 #[x0,x1,x2] w R E:=okF (h:=h75) Tryz.func75 (by kernel_rfl) (by kernel_rfl) h
def b4U(x0 x2 x4 x6 w)(next1:NT)(R:RT)(E):=
 opK pG E (fA 36 x4 3) w fun c d=>
 oP E (lA 34 c) d fun e f=>
 oP E (xBuiltin .len #[34] 3 [false] [e]) f fun g i=>
 oP E (bN .lss 3 11 14 x6 g) i fun a j=>
 oP E (gYs a (xNil (zT a x0))) j fun k l=>
 oP E (gYs a (fA 76 k 2)) l fun m n=>
 oP E (gYs a (lA 3 m)) n fun o p=>
 oP E (gYs a (bC .eql 3 20 o (vI 0))) p fun q r=>
 oP E (xPick a q (vB false)) r fun s b=>
 xcond s
 (oP E (fA 36 x4 3) b fun t u=>
 oP E (lA 34 t) u fun v y=>
 oP E (iA 34 v x6) y fun z aa=>
 oP E (lA 36 z) aa fun ab ac=>
 oP E (bC .add 3 31 x2 (vI 1)) ac fun ad ae=>
 oP E (xCall (fC 76) [x0,ab,ad]) ae fun _t33_35 af=>
 oP E (bC .add 3 23 x6 (vI 1)) af fun ag ah=>
 next1 [ag] ah)
 (R (Value.tuple #[]) b)
def F76(x0 x1 x2 w)(R:RT)(E):=
 opK pG E (xV (Instr.box 36 x1)) w fun b c=>
 oP E (xCall (fC 51) [x0,x2]) c fun d e=>
 oP E (xV (Op.unary .not d)) e fun f a=>
 xcond f
 (R (Value.tuple #[]) a)
 (xloop [6] [(vI 0)] a fun g i next1=>
 b4U x0 x2 b (g 6) i next1 R E)
def h76:Hint:=(sQ (hS (sQ (hC hN hN)) (sQ (hB (hL [6] (hS (sQ (hC hN hN)) (hS (hB hN) hN)))))))
theorem b9m{x0 x1 x2:Value}(h:F76 x0 x1 x2 w R E):Cv pG 76 #[x0,x1,x2] w R E:=okF (h:=h76) Tryz.func76 (by kernel_rfl) (by kernel_rfl) h
def b1R(x4 w)(R:RT)(_E:Pan):=
 ∀_τ:Fr,(xcond x4
 (R (vB true) w)
 (R (vB false) w))
def F77(x0 w)(R:RT)(E):=
 xcut (fun v y=>b1R (nth v 0) y R E) fun j1=>
 oP E (bC .eql 9 3 x0 (Value.string ⟨#[118,97,114]⟩)) w fun a b=>
 xcond a
 (j1 [a] b)
 (oP E (bC .eql 9 3 x0 (Value.string ⟨#[97,114,114,97,121]⟩)) b fun c d=>
 xcond c
 (j1 [c] d)
 (oP E (bC .eql 9 3 x0 (Value.string ⟨#[105,102]⟩)) d fun e f=>
 xcond e
 (j1 [e] f)
 (oP E (bC .eql 9 3 x0 (Value.string ⟨#[101,108,115,101]⟩)) f fun g i=>
 xcond g
 (j1 [g] i)
 (oP E (bC .eql 9 3 x0 (Value.string ⟨#[119,104,105,108,101]⟩)) i fun j k=>
 xcond j
 (j1 [j] k)
 (oP E (bC .eql 9 3 x0 (Value.string ⟨#[97,115,115,101,114,116]⟩)) k fun l m=>
 xcond l
 (j1 [l] m)
 (oP E (bC .eql 9 3 x0 (Value.string ⟨#[97,115,115,117,109,101]⟩)) m fun n o=>
 xcond n
 (j1 [n] o)
 (oP E (bC .eql 9 3 x0 (Value.string ⟨#[115,107,105,112]⟩)) o fun p q=>
 xcond p
 (j1 [p] q)
 (oP E (bC .eql 9 3 x0 (Value.string ⟨#[105,110,112,117,116]⟩)) q fun r s=>
 xcond r
 (j1 [r] s)
 (oP E (bC .eql 9 3 x0 (Value.string ⟨#[116,114,117,101]⟩)) s fun t u=>
 xcond t
 (j1 [t] u)
 (oP E (bC .eql 9 3 x0 (Value.string ⟨#[102,97,108,115,101]⟩)) u fun z aa=>
 j1 [z] aa))))))))))
def h77:Hint:=(sQ (hS (sQ (hB (hU [4] (sQ (hC hN (sQ (hC hN (sQ (hC hN (sQ (hC hN (sQ (hC hN (sQ (hC hN (sQ (hC hN (sQ (hC hN (sQ (hC hN (sQ (hC hN hN)))))))))))))))))))) (hC (sQ hN) hN)))) (sQ hN)))
theorem b9n{x0:Value}(h:F77 x0 w R E):Cv pG 77 #[x0] w R E:=okF (h:=h77) Tryz.func77 (by kernel_rfl) (by kernel_rfl) h
def b1S(x8 x9 x10 w)(R:RT)(E):=
 ∀_τ:Fr,(oP E (bN .lss 3 84 85 x10 x9) w fun b e=>
 oP E (gNo b (bC .gtr 3 88 (zF b x10) (vI 1114111))) e fun f g=>
 oP E (xPick b (vB true) f) g fun a i=>
 oP E (gNo a (bC .geq 3 92 (zF a x10) (vI 55296))) i fun c j=>
 oP E (gsem (asB (zF a c)) true (xBin .lss 3 (.tmp 95) (.const (vI 57344)) (gval (asB (zF a c)) true x10) (vI 57344))) j fun k l=>
 oP E (gNo a (xPick (zF a c) k (vB false))) l fun m n=>
 oP E (xPick a (vB true) m) n fun o d=>
 xcond o
 (R (Value.tuple #[(vI 65533),(vI 1),(vB false)]) d)
 (R (Value.tuple #[x10,x8,(vB true)]) d))
def b4V(x0 x1 x8 _x9 x10 x11:Value)(w)(next3:NT)(j2:NT)(R:RT)(E):=
 opK pG E (bN .lss 3 47 48 x11 x8) w fun e c=>
 xcond e
 (oP E (bN .add 3 52 53 x1 x11) c fun f g=>
 oP E (xBuiltin .len #[9] 3 [false] [x0]) g fun i j=>
 oP E (bN .geq 3 54 56 f i) j fun a k=>
 oP E (gNo a (bN .add 3 60 61 (zF a x1) (zF a x11))) k fun l m=>
 oP E (gNo a (xV (Instr.index 9 (zF a x0) l))) m fun n o=>
 oP E (gNo a (bC .lss 5 63 n (Value.int .u8 128))) o fun p q=>
 oP E (xPick a (vB true) p) q fun b r=>
 oP E (gNo b (bN .add 3 68 69 (zF b x1) (zF b x11))) r fun s t=>
 oP E (gNo b (xV (Instr.index 9 (zF b x0) s))) t fun u v=>
 oP E (gNo b (bC .geq 5 71 u (Value.int .u8 192))) v fun y z=>
 oP E (xPick b (vB true) y) z fun aa d=>
 xcond aa
 (R (Value.tuple #[(vI 65533),(vI 1),(vB false)]) d)
 (oP E (xBin .mul 3 (.const (vI 64)) (.tmp 74) (vI 64) x10) d fun ab ac=>
 oP E (bN .add 3 77 78 x1 x11) ac fun ad ae=>
 oP E (xV (Instr.index 9 x0 ad)) ae fun af ag=>
 oP E (xV (convert 5 3 af)) ag fun ah ai=>
 oP E (bN .add 3 75 81 ab ah) ai fun aj ak=>
 oP E (bC .sub 3 82 aj (vI 128)) ak fun al am=>
 oP E (bC .add 3 50 x11 (vI 1)) am fun an ao=>
 next3 [al,an] ao))
 (j2 [x10] c)
def b1T(x0 x1 x8 x9 x10 w)(R:RT)(E):=
 ∀_τ:Fr,(xcut (fun b c=>b1S x8 x9 (nth b 0) c R E) fun j2=>
 xloop [10,11] [x10,(vI 1)] w fun a d next3=>
 b4V x0 x1 x8 x9 (a 10) (a 11) d next3 j2 R E)
def F78(x0 x1 w)(R:RT)(E):=
 opK pG E (xV (Instr.index 9 x0 x1)) w fun k l=>
 oP E (xV (convert 5 3 k)) l fun a m=>
 xcut (fun b n=>b1T x0 x1 (nth b 0) (nth b.tail 0) (nth b.tail.tail 0) n R E) fun j1=>
 oP E (bC .lss 3 17 a (vI 128)) m fun o f=>
 xcond o
 (R (Value.tuple #[a,(vI 1),(vB true)]) f)
 (oP E (bC .geq 3 21 a (vI 194)) f fun c p=>
 oP E (gYs c (bC .lss 3 24 (zT c a) (vI 224))) p fun q r=>
 oP E (xPick c q (vB false)) r fun s g=>
 xcond s
 (oP E (bC .sub 3 27 a (vI 192)) g fun t u=>
 j1 [(vI 2),(vI 128),t] u)
 (oP E (bC .geq 3 30 a (vI 224)) g fun d v=>
 oP E (gYs d (bC .lss 3 33 (zT d a) (vI 240))) v fun y z=>
 oP E (xPick d y (vB false)) z fun aa i=>
 xcond aa
 (oP E (bC .sub 3 36 a (vI 224)) i fun ab ac=>
 j1 [(vI 3),(vI 2048),ab] ac)
 (oP E (bC .geq 3 39 a (vI 240)) i fun e ad=>
 oP E (gYs e (bC .lss 3 42 (zT e a) (vI 245))) ad fun ae af=>
 oP E (xPick e ae (vB false)) af fun ag j=>
 xcond ag
 (oP E (bC .sub 3 45 a (vI 240)) j fun ah ai=>
 j1 [(vI 4),(vI 65536),ah] ai)
 (R (Value.tuple #[(vI 65533),(vI 1),(vB false)]) j))))
def h78:Hint:=(sQ (sQ (sQ (hU [8,9,10] (hB (sQ (hC (sQ hN) (sQ (hC hN (sQ (hC hN (sQ (hC hN (sQ hN)))))))))) (hU [10] (sQ (hB (hL [10,11] (hS (sQ (hC hN hN)) (hS (hB (hS (sQ (hC (sQ hN) hN)) hN)) hN))))) (hS (sQ (hC (sQ hN) hN)) (sQ hN)))))))
theorem b9o{x0 x1:Value}(h:F78 x0 x1 w R E):Cv pG 78 #[x0,x1] w R E:=okF (h:=h78) Tryz.func78 (by kernel_rfl) (by kernel_rfl) h
def b1U(w)(R:RT)(_E:Pan):=
 ∀_τ:Fr,(R (vI 6) w)
def b4W(x0 x3 x4 w)(next2:NT)(j1:NT)(R:RT)(E):=
 opK pG E (xBuiltin .len #[9] 3 [false] [x3]) w fun c d=>
 oP E (bN .lss 3 53 55 x4 c) d fun e a=>
 xcond e
 (oP E (xV (Instr.index 9 x3 x4)) a fun f g=>
 oP E (xV (convert 5 3 f)) g fun i j=>
 oP E (bN .eql 3 59 63 x0 i) j fun k b=>
 xcond k
 (R (vI 5) b)
 (oP E (bC .add 3 57 x4 (vI 1)) b fun l m=>
 next2 [l] m))
 (j1 [] a)
def F79(x0 w)(R:RT)(E):=
 opK pG E (bC .eql 3 5 x0 (vI 32)) w fun c p=>
 oP E (gNo c (bC .eql 3 8 (zF c x0) (vI 9))) p fun q r=>
 oP E (xPick c (vB true) q) r fun d s=>
 oP E (gNo d (bC .eql 3 12 (zF d x0) (vI 13))) s fun t u=>
 oP E (xPick d (vB true) t) u fun v l=>
 xcond v
 (R (vI 1) l)
 (oP E (bC .eql 3 15 x0 (vI 10)) l fun y m=>
 xcond y
 (R (vI 2) m)
 (oP E (xCall (fC 94) [x0,(vI 48),(vI 57)]) m fun z n=>
 xcond z
 (R (vI 4) n)
 (oP E (xCall (fC 94) [x0,(vI 97),(vI 122)]) n fun e aa=>
 oP E (gNo e (xCall (fC 94) [(zF e x0),(vI 65),(vI 90)])) aa fun ab ac=>
 oP E (xPick e (vB true) ab) ac fun f ad=>
 oP E (gNo f (bC .eql 3 26 (zF f x0) (vI 95))) ad fun ae af=>
 oP E (xPick f (vB true) ae) af fun a ag=>
 oP E (gNo a (xCall (fC 94) [(zF a x0),(vI 192),(vI 591)])) ag fun g ah=>
 oP E (gsem (asB (zF a g)) true (xBin .neq 3 (.tmp 33) (.const (vI 215)) (gval (asB (zF a g)) true x0) (vI 215))) ah fun ai aj=>
 oP E (gNo a (xPick (zF a g) ai (vB false))) aj fun i ak=>
 oP E (gsem (asB (zF a i)) true (xBin .neq 3 (.tmp 37) (.const (vI 247)) (gval (asB (zF a i)) true x0) (vI 247))) ak fun al am=>
 oP E (gNo a (xPick (zF a i) al (vB false))) am fun an ao=>
 oP E (xPick a (vB true) an) ao fun b ap=>
 oP E (gNo b (xCall (fC 94) [(zF b x0),(vI 913),(vI 969)])) ap fun j aq=>
 oP E (gsem (asB (zF b j)) true (xBin .neq 3 (.tmp 45) (.const (vI 930)) (gval (asB (zF b j)) true x0) (vI 930))) aq fun ar au=>
 oP E (gNo b (xPick (zF b j) ar (vB false))) au fun av aw=>
 oP E (xPick b (vB true) av) aw fun k ax=>
 oP E (gNo k (xCall (fC 94) [(zF k x0),(vI 1040),(vI 1103)])) ax fun ay az=>
 oP E (xPick k (vB true) ay) az fun ba o=>
 xcond ba
 (R (vI 3) o)
 (xcut (fun _ bb=>b1U bb R E) fun j1=>
 xloop [4] [(vI 0)] o fun bc bd next2=>
 b4W x0 (Value.string ⟨#[59,44,123,125,40,41,91,93,61,33,60,62,43,45,42,47,37,38,124]⟩) (bc 4) bd next2 j1 R E))))
def h79:Hint:=(sQ (hS (sQ (hC (sQ hN) hN)) (hS (sQ (hC (sQ hN) hN)) (hS (sQ (hC (sQ hN) hN)) (hS (sQ (hC (sQ hN) hN)) (sQ (hU [] (sQ (hB (hL [4] (hS (sQ (hC hN hN)) (hS (hB (sQ (hC (sQ hN) hN))) hN))))) (sQ hN))))))))
theorem b9p{x0:Value}(h:F79 x0 w R E):Cv pG 79 #[x0] w R E:=okF (h:=h79) Tryz.func79 (by kernel_rfl) (by kernel_rfl) h
def F80(x0 w)(R:RT)(E):=
 opK pG E (xV (Instr.typeAssert x0 92 118 true)) w fun g u=>
 oP E (xT g 1) u fun v y=>
 oP E (xT g 0) y fun z i=>
 xcond v
 (oP E (xV (Instr.alloc 118 true (.tuple #[]))) i fun j aa=>
 oP E (sA 118 j z) aa fun _ ab=>
 oP E (fA 118 j 0) ab fun ac ad=>
 oP E (fA 46 ac 0) ad fun ae af=>
 oP E (lA 9 ae) af fun ag ah=>
 R (Value.tuple #[ag,(vB true)]) ah)
 (oP E (xV (Instr.typeAssert x0 92 120 true)) i fun k ai=>
 oP E (xT k 1) ai fun aj ak=>
 oP E (xT k 0) ak fun al l=>
 xcond aj
 (oP E (xV (Instr.alloc 120 true (.tuple #[]))) l fun c am=>
 oP E (sA 120 c al) am fun _ an=>
 dX an fun d=>
 qP pG (fA 120 c 0) fun ao=>
 qP pG (fA 51 ao 1) fun m=>
 qP pG (fA 120 c 0) fun ap=>
 qP pG (fA 51 ap 0) fun n=>
 qL pG d (blk m) (lA 9 m) fun aq=>
 qL pG d (blk n) (lA 3 n) fun ar=>
 qP pG (bC .eql 3 22 ar (vI 1)) fun a=>
 qP pG (gNo a (fA 120 c 0)) fun au=>
 qP pG (gNo a (fA 51 au 0)) fun o=>
 qL pG d (blk o) (gNo a (lA 3 o)) fun av=>
 qP pG (gNo a (bC .eql 3 27 av (vI 2))) fun aw=>
 qP pG (xPick a (vB true) aw) fun ax=>
 R (Value.tuple #[aq,ax]) d)
 (oP E (xV (Instr.typeAssert x0 92 85 true)) l fun p ay=>
 oP E (xT p 1) ay fun az ba=>
 oP E (xT p 0) ba fun bb q=>
 xcond az
 (oP E (xV (Instr.alloc 85 true (.tuple #[]))) q fun e bc=>
 oP E (sA 85 e bb) bc fun _ bd=>
 dX bd fun f=>
 qP pG (fA 85 e 0) fun be=>
 qP pG (fA 36 be 2) fun r=>
 qP pG (fA 85 e 0) fun bf=>
 qP pG (fA 36 bf 0) fun s=>
 qL pG f (blk r) (lA 9 r) fun bg=>
 qL pG f (blk s) (lA 3 s) fun bh=>
 qP pG (bC .eql 3 38 bh (vI 2)) fun b=>
 qP pG (gNo b (fA 85 e 0)) fun bi=>
 qP pG (gNo b (fA 36 bi 0)) fun t=>
 qL pG f (blk t) (gNo b (lA 3 t)) fun bj=>
 qP pG (gNo b (bC .eql 3 43 bj (vI 4))) fun bk=>
 qP pG (xPick b (vB true) bk) fun bl=>
 R (Value.tuple #[bg,bl]) f)
 (R (Value.tuple #[(eS),(vB false)]) q)))
def h80:Hint:=(sQ (hS (sQ (hB (sQ (hC (sQ (sQ hN)) (sQ (hC (sQ (hS (.reg [(0,131072,32),(1,262144,131072),(2,524288,262144),(0,1048576,32),(8,2097152,1048576),(16,4194304,2097152),(32,8388608,4194304),(64,16777216,8388608),(128,33554432,16777248),(384,67108864,50331648),(640,134217728,83886080),(1152,268435456,150994944),(2176,536870912,285212672),(135,4,524288),(16383,8,536870912)] [1060,1060,1056,1060,1060,1028,1060,1060,1060,1060,36,1060,1060,1060,1060] (.early 0 (.early 1 (.early 3 (.early 4 (.load 2 (.load 5 (.early 6 (.early 7 (.early 8 (.early 9 (.early 13 (.load 10 (.early 11 (.early 12 (.early 14 .done)))))))))))))))) hN)) (sQ (hC (sQ (hS (.reg [(0,8589934592,64),(1,17179869184,8589934592),(2,34359738368,17179869184),(0,68719476736,64),(8,137438953472,68719476736),(16,274877906944,137438953472),(32,549755813888,274877906944),(64,1099511627776,549755813888),(128,2199023255552,1099511627840),(384,4398046511104,3298534883328),(640,8796093022208,5497558138880),(1152,17592186044416,9895604649984),(2176,35184372088832,18691697672192),(135,4,34359738368),(16383,8,35184372088832)] [1060,1060,1056,1060,1060,1028,1060,1060,1060,1060,36,1060,1060,1060,1060] (.early 0 (.early 1 (.early 3 (.early 4 (.load 2 (.load 5 (.early 6 (.early 7 (.early 8 (.early 9 (.early 13 (.load 10 (.early 11 (.early 12 (.early 14 .done)))))))))))))))) hN)) hN)))))))) (sQ hN)))
theorem b9q{x0:Value}(h:F80 x0 w R E):Cv pG 80 #[x0] w R E:=okF (h:=h80) Tryz.func80 (by kernel_rfl) (by kernel_rfl) h
def b1V(w)(R:RT)(_E:Pan):=
 ∀_τ:Fr,(R (vB true) w)
def b4X(x21 w)(next2:NT)(j1:NT)(R:RT)(E):=
 opK pG E (xV (Instr.next x21 true 0)) w fun c g=>
 oP E (xT c 0) g fun i d=>
 xcond i
 (oP E (xT c 1) d fun j k=>
 oP E (xT c 2) k fun e l=>
 oP E (xCall (fC 98) [e]) l fun m n=>
 oP E (xV (Op.unary .not m)) n fun a o=>
 oP E (gNo a (bC .eql 3 30 (zF a j) (vI 0))) o fun b p=>
 oP E (gsem (asB (zF a b)) true (xCall (fC 99) [(gval (asB (zF a b)) true e)])) p fun q r=>
 oP E (gsem (asB (zF a b)) true (bC .neq 3 34 q (vI 3))) r fun s t=>
 oP E (gNo a (xPick (zF a b) s (vB false))) t fun u v=>
 oP E (xPick a (vB true) u) v fun y f=>
 xcond y
 (R (vB false) f)
 (next2 [] f))
 (j1 [] d)
def F81(x0 w)(R:RT)(E):=
 opK pG E (bC .eql 9 5 x0 (eS)) w fun a e=>
 oP E (gNo a (xCall (fC 95) [(zF a x0)])) e fun f g=>
 oP E (gNo a (xV (Op.unary .not f))) g fun i j=>
 oP E (xPick a (vB true) i) j fun b k=>
 oP E (gNo b (xCall (fC 96) [(zF b x0)])) k fun l m=>
 oP E (xPick b (vB true) l) m fun c n=>
 oP E (gNo c (xCall (fC 97) [(zF c x0)])) n fun o p=>
 oP E (xPick c (vB true) o) p fun q d=>
 xcond q
 (R (vB false) d)
 (xcut (fun _ r=>b1V r R E) fun j1=>
 oP E (xV (Instr.range 9 x0)) d fun s t=>
 xloop [] [] t fun _ u next2=>
 b4X s u next2 j1 R E)
def h81:Hint:=(sQ (hS (sQ (hC (sQ hN) hN)) (hU [] (sQ (hB (hL [] (sQ (hS (hC hN hN) (hB (sQ (sQ (hC (sQ hN) hN))))))))) (sQ hN))))
theorem b9r{x0:Value}(h:F81 x0 w R E):Cv pG 81 #[x0] w R E:=okF (h:=h81) Tryz.func81 (by kernel_rfl) (by kernel_rfl) h
def F82(x0 x1 w)(R:RT)(E):=
 opK pG E (xCall (fC 100) [x0,x1]) w fun a b=>
 oP E (bC .geq 3 7 a (vI 0)) b fun c d=>
 R c d
def h82:Hint:=(sQ (sQ hN))
theorem b9s{x0 x1:Value}(h:F82 x0 x1 w R E):Cv pG 82 #[x0,x1] w R E:=okF (h:=h82) Tryz.func82 (by kernel_rfl) (by kernel_rfl) h
def F93(x0 x1 w)(R:RT)(E):=
 opK pG E (lA 38 x0) w fun a b=>
 oP E (lA 71 x1) b fun c d=>
 oP E (xCall (fC 50) [a,c]) d fun _t4_5 e=>
 R (Value.tuple #[]) e
def h93:Hint:=hN
theorem b9t{x0 x1:Value}(h:F93 x0 x1 w R E):Cv pG 93 #[x0,x1] w R E:=okF (h:=h93) Tryz.func93 (by kernel_rfl) (by kernel_rfl) h
def F94(x0 x1 x2 w)(R:RT)(E):=
 opK pG E (bN .geq 3 7 8 x0 x1) w fun a b=>
 oP E (gYs a (bN .leq 3 11 12 (zT a x0) (zT a x2))) b fun c d=>
 oP E (xPick a c (vB false)) d fun e f=>
 R e f
def h94:Hint:=(sQ (sQ hN))
theorem b9u{x0 x1 x2:Value}(h:F94 x0 x1 x2 w R E):Cv pG 94 #[x0,x1,x2] w R E:=okF (h:=h94) Tryz.func94 (by kernel_rfl) (by kernel_rfl) h
def F96(x0 w)(R:RT)(E):=
 opK pG E (xCall (fC 105) [x0]) w fun a b=>
 oP E (bC .gtr 3 4 a (vI 32)) b fun c d=>
 R c d
def h96:Hint:=(sQ (sQ hN))
theorem b9v{x0:Value}(h:F96 x0 w R E):Cv pG 96 #[x0] w R E:=okF (h:=h96) Tryz.func96 (by kernel_rfl) (by kernel_rfl) h
def b1W(x4 w)(R:RT)(_E:Pan):=
 ∀_τ:Fr,(xcond x4
 (R (vB true) w)
 (R (vB false) w))
def F97(x0 w)(R:RT)(E):=
 xcut (fun v y=>b1W (nth v 0) y R E) fun j1=>
 oP E (bC .eql 9 3 x0 (Value.string ⟨#[118,97,114]⟩)) w fun a b=>
 xcond a
 (j1 [a] b)
 (oP E (bC .eql 9 3 x0 (Value.string ⟨#[97,114,114,97,121]⟩)) b fun c d=>
 xcond c
 (j1 [c] d)
 (oP E (bC .eql 9 3 x0 (Value.string ⟨#[105,102]⟩)) d fun e f=>
 xcond e
 (j1 [e] f)
 (oP E (bC .eql 9 3 x0 (Value.string ⟨#[101,108,115,101]⟩)) f fun g i=>
 xcond g
 (j1 [g] i)
 (oP E (bC .eql 9 3 x0 (Value.string ⟨#[119,104,105,108,101]⟩)) i fun j k=>
 xcond j
 (j1 [j] k)
 (oP E (bC .eql 9 3 x0 (Value.string ⟨#[97,115,115,101,114,116]⟩)) k fun l m=>
 xcond l
 (j1 [l] m)
 (oP E (bC .eql 9 3 x0 (Value.string ⟨#[97,115,115,117,109,101]⟩)) m fun n o=>
 xcond n
 (j1 [n] o)
 (oP E (bC .eql 9 3 x0 (Value.string ⟨#[115,107,105,112]⟩)) o fun p q=>
 xcond p
 (j1 [p] q)
 (oP E (bC .eql 9 3 x0 (Value.string ⟨#[105,110,112,117,116]⟩)) q fun r s=>
 xcond r
 (j1 [r] s)
 (oP E (bC .eql 9 3 x0 (Value.string ⟨#[116,114,117,101]⟩)) s fun t u=>
 xcond t
 (j1 [t] u)
 (oP E (bC .eql 9 3 x0 (Value.string ⟨#[102,97,108,115,101]⟩)) u fun z aa=>
 j1 [z] aa))))))))))
def h97:Hint:=(sQ (hS (sQ (hB (hU [4] (sQ (hC hN (sQ (hC hN (sQ (hC hN (sQ (hC hN (sQ (hC hN (sQ (hC hN (sQ (hC hN (sQ (hC hN (sQ (hC hN (sQ (hC hN hN)))))))))))))))))))) (hC (sQ hN) hN)))) (sQ hN)))
theorem b9w{x0:Value}(h:F97 x0 w R E):Cv pG 97 #[x0] w R E:=okF (h:=h97) Tryz.func97 (by kernel_rfl) (by kernel_rfl) h
def F98(x0 w)(R:RT)(E):=
 opK pG E (xCall (fC 99) [x0]) w fun b c=>
 oP E (bC .eql 3 6 b (vI 3)) c fun a d=>
 oP E (gNo a (bC .eql 3 9 (zF a b) (vI 4))) d fun e f=>
 oP E (xPick a (vB true) e) f fun g i=>
 R g i
def h98:Hint:=(sQ (sQ (sQ hN)))
theorem b9x{x0:Value}(h:F98 x0 w R E):Cv pG 98 #[x0] w R E:=okF (h:=h98) Tryz.func98 (by kernel_rfl) (by kernel_rfl) h
def b1X(x39 w)(R:RT)(_E:Pan):=
 ∀_τ:Fr,(xcond x39
 (R (vI 3) w)
 (R (vI 6) w))
def b1Y(x1 x31 w)(R:RT)(E):=
 ∀_τ:Fr,(xcond x31
 (R (vI 6) w)
 (oP E (xV (Instr.makeFunc (.func 106) #[] #[x1])) w fun a n=>
 oP E (xCall a [(Value.int .i32 48),(Value.int .i32 57)]) n fun o b=>
 xcond o
 (R (vI 4) b)
 (xcut (fun p q=>b1X (nth p 0) q R E) fun j4=>
 oP E (lA 21 x1) b fun r s=>
 oP E (bC .eql 21 40 r (Value.int .i32 95)) s fun c d=>
 xcond c
 (j4 [c] d)
 (oP E (xCall a [(Value.int .i32 97),(Value.int .i32 122)]) d fun e f=>
 xcond e
 (j4 [e] f)
 (oP E (xCall a [(Value.int .i32 65),(Value.int .i32 90)]) f fun g i=>
 xcond g
 (j4 [g] i)
 (oP E (xCall a [(Value.int .i32 192),(Value.int .i32 591)]) i fun j k=>
 xcond j
 (j4 [j] k)
 (oP E (xCall a [(Value.int .i32 913),(Value.int .i32 969)]) k fun l m=>
 xcond l
 (j4 [l] m)
 (oP E (xCall a [(Value.int .i32 1040),(Value.int .i32 1103)]) m fun t u=>
 j4 [t] u))))))))
def b1Z(x1 x4 x11 w)(R:RT)(E):=
 ∀_τ:Fr,(xcond x11
 (R (vI 5) w)
 (xcut (fun e f=>b1Y x1 (nth e 0) f R E) fun j3=>
 oP E (bC .eql 21 4 x4 (Value.int .i32 215)) w fun a b=>
 xcond a
 (j3 [a] b)
 (oP E (bC .eql 21 4 x4 (Value.int .i32 247)) b fun c d=>
 xcond c
 (j3 [c] d)
 (oP E (bC .eql 21 4 x4 (Value.int .i32 930)) d fun g i=>
 j3 [g] i))))
def b2a(x1 x4 x5 w)(R:RT)(E):=
 ∀_τ:Fr,(xcond x5
 (R (vI 1) w)
 (oP E (bC .eql 21 4 x4 (Value.int .i32 10)) w fun ao a=>
 xcond ao
 (R (vI 2) a)
 (xcut (fun ap aq=>b1Z x1 x4 (nth ap 0) aq R E) fun j2=>
 oP E (bC .eql 21 4 x4 (Value.int .i32 59)) a fun b c=>
 xcond b
 (j2 [b] c)
 (oP E (bC .eql 21 4 x4 (Value.int .i32 44)) c fun d e=>
 xcond d
 (j2 [d] e)
 (oP E (bC .eql 21 4 x4 (Value.int .i32 123)) e fun f g=>
 xcond f
 (j2 [f] g)
 (oP E (bC .eql 21 4 x4 (Value.int .i32 125)) g fun i j=>
 xcond i
 (j2 [i] j)
 (oP E (bC .eql 21 4 x4 (Value.int .i32 40)) j fun k l=>
 xcond k
 (j2 [k] l)
 (oP E (bC .eql 21 4 x4 (Value.int .i32 41)) l fun m n=>
 xcond m
 (j2 [m] n)
 (oP E (bC .eql 21 4 x4 (Value.int .i32 91)) n fun o p=>
 xcond o
 (j2 [o] p)
 (oP E (bC .eql 21 4 x4 (Value.int .i32 93)) p fun q r=>
 xcond q
 (j2 [q] r)
 (oP E (bC .eql 21 4 x4 (Value.int .i32 61)) r fun s t=>
 xcond s
 (j2 [s] t)
 (oP E (bC .eql 21 4 x4 (Value.int .i32 33)) t fun u v=>
 xcond u
 (j2 [u] v)
 (oP E (bC .eql 21 4 x4 (Value.int .i32 60)) v fun y z=>
 xcond y
 (j2 [y] z)
 (oP E (bC .eql 21 4 x4 (Value.int .i32 62)) z fun aa ab=>
 xcond aa
 (j2 [aa] ab)
 (oP E (bC .eql 21 4 x4 (Value.int .i32 43)) ab fun ac ad=>
 xcond ac
 (j2 [ac] ad)
 (oP E (bC .eql 21 4 x4 (Value.int .i32 45)) ad fun ae af=>
 xcond ae
 (j2 [ae] af)
 (oP E (bC .eql 21 4 x4 (Value.int .i32 42)) af fun ag ah=>
 xcond ag
 (j2 [ag] ah)
 (oP E (bC .eql 21 4 x4 (Value.int .i32 47)) ah fun ai aj=>
 xcond ai
 (j2 [ai] aj)
 (oP E (bC .eql 21 4 x4 (Value.int .i32 37)) aj fun ak al=>
 xcond ak
 (j2 [ak] al)
 (oP E (bC .eql 21 4 x4 (Value.int .i32 38)) al fun am an=>
 xcond am
 (j2 [am] an)
 (oP E (bC .eql 21 4 x4 (Value.int .i32 124)) an fun ar au=>
 j2 [ar] au)))))))))))))))))))))
def F99(x0 w)(R:RT)(E):=
 opK pG E (xV (Instr.box 21 x0)) w fun b g=>
 oP E (lA 21 b) g fun a i=>
 xcut (fun j k=>b2a b a (nth j 0) k R E) fun j1=>
 oP E (bC .eql 21 4 a (Value.int .i32 32)) i fun c d=>
 xcond c
 (j1 [c] d)
 (oP E (bC .eql 21 4 a (Value.int .i32 9)) d fun e f=>
 xcond e
 (j1 [e] f)
 (oP E (bC .eql 21 4 a (Value.int .i32 13)) f fun l m=>
 j1 [l] m))
def h99:Hint:=(sQ (hS (sQ (hB (hU [5] (sQ (hC hN (sQ (hC hN hN)))) (hC (sQ hN) (sQ (hC (sQ hN) (hU [11] (sQ (hC hN (sQ (hC hN (sQ (hC hN (sQ (hC hN (sQ (hC hN (sQ (hC hN (sQ (hC hN (sQ (hC hN (sQ (hC hN (sQ (hC hN (sQ (hC hN (sQ (hC hN (sQ (hC hN (sQ (hC hN (sQ (hC hN (sQ (hC hN (sQ (hC hN (sQ (hC hN hN)))))))))))))))))))))))))))))))))))) (hC (sQ hN) (hU [31] (sQ (hC hN (sQ (hC hN hN)))) (hC (sQ hN) hN)))))))))) (sQ (hS (hB (sQ (hC (sQ hN) (hU [39] (sQ (hC hN (sQ (hC hN (sQ (hC hN (sQ (hC hN (sQ (hC hN hN)))))))))) (hC (sQ hN) hN))))) (sQ hN)))))
theorem b9y{x0:Value}(h:F99 x0 w R E):Cv pG 99 #[x0] w R E:=okF (h:=h99) Tryz.func99 (by kernel_rfl) (by kernel_rfl) h
def a9s(w)(R:RT)(_E:Pan):=
 ∀_τ:Fr,(R (vI (-1)) w)
def b2S(x0 x1 x7 x8 w)(next2:NT)(j1:NT)(R:RT)(E):=
 opK pG E (bN .lss 3 8 7 x8 x7) w fun c a=>
 xcond c
 (oP E (iA 63 x0 x8) a fun d e=>
 oP E (lA 9 d) e fun f g=>
 oP E (bN .eql 9 11 15 x1 f) g fun i b=>
 xcond i
 (R x8 b)
 (oP E (bC .add 3 8 x8 (vI 1)) b fun j k=>
 next2 [j] k))
 (j1 [] a)
def b9z(x0 x1 w)(R:RT)(E):=
 xcut (fun _ a=>a9s a R E) fun j1=>
 oP E (xBuiltin .len #[63] 3 [false] [x0]) w fun b c=>
 xloop [8] [(vI 0)] c fun d e next2=>
 b2S x0 x1 b (d 8) e next2 j1 R E
def c0I:Hint:=(sQ (hU [] (sQ (hB (hL [8] (sQ (hS (hC hN hN) (hS (hB (sQ (sQ (hC (sQ hN) hN)))) hN)))))) (sQ hN)))
theorem b7a{x0 x1:Value}(h:b9z x0 x1 w R E):Cv pG 100 #[x0,x1] w R E:=okF (h:=c0I) Tryz.func100 (by kernel_rfl) (by kernel_rfl) h
def a9t(x2 w)(R:RT)(_E:Pan):=
 ∀_τ:Fr,(R x2 w)
def b2T(x2 x4 w)(next2:NT)(j1:NT)(_R:RT)(E):=
 opK pG E (xV (Instr.next x4 true 0)) w fun b c=>
 oP E (xT b 0) c fun d a=>
 xcond d
 (oP E (bC .add 3 7 x2 (vI 1)) a fun e f=>
 next2 [e] f)
 (j1 [x2] a)
def b9A(x0 w)(R:RT)(E):=
 xcut (fun a b=>a9t (nth a 0) b R E) fun j1=>
 oP E (xV (Instr.range 9 x0)) w fun c d=>
 xloop [2] [(vI 0)] d fun e f next2=>
 b2T (e 2) c f next2 j1 R E
def c0J:Hint:=(sQ (hU [2] (sQ (hB (hL [2] (sQ (hS (hC hN hN) (hB hN)))))) (sQ hN)))
theorem b7b{x0:Value}(h:b9A x0 w R E):Cv pG 105 #[x0] w R E:=okF (h:=c0J) Tryz.func105 (by kernel_rfl) (by kernel_rfl) h
def b9B(x0 x1 x2 w)(R:RT)(E):=
 opK pG E (lA 21 x2) w fun b c=>
 oP E (bN .leq 21 6 7 x0 b) c fun a d=>
 oP E (gYs a (lA 21 x2)) d fun e f=>
 oP E (gYs a (bN .leq 21 10 11 e (zT a x1))) f fun g i=>
 oP E (xPick a g (vB false)) i fun j k=>
 R j k
def c0K:Hint:=(sQ (sQ hN))
theorem b7c{x0 x1 x2:Value}(h:b9B x0 x1 x2 w R E):Cv pG 106 #[x0,x1,x2] w R E:=okF (h:=c0K) Tryz.func106 (by kernel_rfl) (by kernel_rfl) h
def a9u(x3 x59 w)(R:RT)(E):=
 ∀_τ:Fr,(xcond x59
 (oP E (bC .eql 3 65 x3 (vI 2)) w fun a b=>
 R a b)
 (R (vB false) w))
def a9v(x3 x38 x54 w)(R:RT)(E):=
 ∀_τ:Fr,(xcond x54
 (oP E (bC .eql 3 57 x3 (vI 1)) w fun j k=>
 R j k)
 (xcut (fun l m=>a9u x3 (nth l 0) m R E) fun j3=>
 oP E (bC .eql 3 38 x38 (vI 6)) w fun a b=>
 xcond a
 (j3 [a] b)
 (oP E (bC .eql 3 38 x38 (vI 7)) b fun c d=>
 xcond c
 (j3 [c] d)
 (oP E (bC .eql 3 38 x38 (vI 8)) d fun e f=>
 xcond e
 (j3 [e] f)
 (oP E (bC .eql 3 38 x38 (vI 9)) f fun g i=>
 xcond g
 (j3 [g] i)
 (oP E (bC .eql 3 38 x38 (vI 10)) i fun n o=>
 j3 [n] o))))))
def a9w(x3 x38 x49 w)(R:RT)(E):=
 ∀_τ:Fr,(xcond x49
 (oP E (bC .eql 3 52 x3 (vI 0)) w fun c d=>
 R c d)
 (xcut (fun e f=>a9v x3 x38 (nth e 0) f R E) fun j2=>
 oP E (bC .eql 3 38 x38 (vI 4)) w fun a b=>
 xcond a
 (j2 [a] b)
 (oP E (bC .eql 3 38 x38 (vI 5)) b fun g i=>
 j2 [g] i)))
def b9C(x0 w)(R:RT)(E):=
 opK pG E (xV (Instr.box 85 x0)) w fun b n=>
 oP E (fA 85 b 0) n fun o p=>
 oP E (fA 36 o 3) p fun q r=>
 oP E (lA 34 q) r fun s t=>
 oP E (xBuiltin .len #[34] 3 [false] [s]) t fun g u=>
 oP E (lA 85 b) u fun v y=>
 oP E (xV (Instr.makeInterface 85 v)) y fun z aa=>
 oP E (xCall (fC 80) [z]) aa fun i ab=>
 oP E (xT i 0) ab fun _t14_17 ac=>
 oP E (xT i 1) ac fun ad ae=>
 oP E (fA 85 b 0) ae fun af ag=>
 oP E (fA 36 af 0) ag fun ah ai=>
 oP E (lA 3 ah) ai fun aj ak=>
 oP E (bC .neq 3 18 aj (vI 1)) ak fun c al=>
 oP E (gYs c (fA 85 b 0)) al fun am an=>
 oP E (gYs c (fA 36 am 1)) an fun ao ap=>
 oP E (gYs c (lA 2 ao)) ap fun aq ar=>
 oP E (gYs c (bC .neq 2 23 aq (vI 0))) ar fun au av=>
 oP E (xPick c au (vB false)) av fun a aw=>
 oP E (gNo a (xV (Op.unary .not (zF a ad)))) aw fun d ax=>
 oP E (gsem (asB (zF a d)) true (fA 85 b 0)) ax fun ay az=>
 oP E (gsem (asB (zF a d)) true (fA 36 ay 2)) az fun ba bb=>
 oP E (gsem (asB (zF a d)) true (lA 9 ba)) bb fun bc bd=>
 oP E (gsem (asB (zF a d)) true (bC .neq 9 32 bc (eS))) bd fun be bf=>
 oP E (gNo a (xPick (zF a d) be (vB false))) bf fun bg bh=>
 oP E (xPick a (vB true) bg) bh fun bi j=>
 xcond bi
 (R (vB false) j)
 (oP E (fA 85 b 0) j fun bj bk=>
 oP E (fA 36 bj 0) bk fun bl bm=>
 oP E (lA 3 bl) bm fun e bn=>
 oP E (bC .eql 3 38 e (vI 1)) bn fun bo k=>
 xcond bo
 (oP E (fA 85 b 0) k fun bp bq=>
 oP E (fA 36 bp 1) bq fun br bs=>
 oP E (lA 2 br) bs fun bt bu=>
 oP E (bC .geq 2 43 bt (vI 0)) bu fun f bv=>
 oP E (gYs f (bC .eql 3 46 (zT f g) (vI 0))) bv fun bw bz=>
 oP E (xPick f bw (vB false)) bz fun ca cb=>
 R ca cb)
 (xcut (fun cc cd=>a9w g e (nth cc 0) cd R E) fun j1=>
 oP E (bC .eql 3 38 e (vI 2)) k fun l m=>
 xcond l
 (j1 [l] m)
 (oP E (bC .eql 3 38 e (vI 3)) m fun ce cf=>
 j1 [ce] cf)))
def c0L:Hint:=(sQ (sQ (sQ (hS (sQ (hC (sQ hN) hN)) (hS (sQ (hB (sQ (hC (sQ hN) (hU [49] (sQ (hC hN hN)) (hC (sQ hN) (hU [54] (sQ (hC hN hN)) (hC (sQ hN) (hU [59] (sQ (hC hN (sQ (hC hN (sQ (hC hN (sQ (hC hN hN)))))))) (hC (sQ hN) hN)))))))))) (sQ hN))))))
theorem b7d{x0:Value}(h:b9C x0 w R E):Cv pG 124 #[x0] w R E:=okF (h:=c0L) Tryz.func124 (by kernel_rfl) (by kernel_rfl) h
def b9D(x0 w)(R:RT)(E):=
 opK pG E (xV (Instr.box 85 x0)) w fun a b=>
 oP E (fA 85 a 0) b fun c d=>
 oP E (fA 36 c 3) d fun e f=>
 oP E (lA 34 e) f fun g i=>
 oP E (xCall (fC 126) [g,(fC 127)]) i fun j k=>
 R j k
def c0M:Hint:=(sQ (sQ hN))
theorem b7e{x0:Value}(h:b9D x0 w R E):Cv pG 125 #[x0] w R E:=okF (h:=c0M) Tryz.func125 (by kernel_rfl) (by kernel_rfl) h
def a9x(x5 w)(R:RT)(_E:Pan):=
 ∀_τ:Fr,(R x5 w)
def b2U(x1 x5 x8 x9 x10 w)(next2:NT)(j1:NT)(_R:RT)(E):=
 opK pG E (bN .lss 3 10 9 x10 x9) w fun c a=>
 xcond c
 (oP E (iA 34 x8 x10) a fun d e=>
 oP E (lA 36 d) e fun f g=>
 oP E (xV (Instr.alloc 36 true (.tuple #[]))) g fun b i=>
 oP E (sA 36 b f) i fun _ j=>
 oP E (lA 36 b) j fun k l=>
 oP E (xCall x1 [k]) l fun m n=>
 oP E (xV (Instr.buildSlice 86 1 #[(0,m)])) n fun o p=>
 oP E (xBuiltin .append #[86,86] 86 [false,false] [x5,o]) p fun q r=>
 oP E (bC .add 3 10 x10 (vI 1)) r fun s t=>
 next2 [q,s] t)
 (j1 [x5] a)
def b9E(x0 x1 w)(R:RT)(E):=
 xcut (fun b c=>a9x (nth b 0) c R E) fun j1=>
 oP E (xBuiltin .len #[34] 3 [false] [x0]) w fun d e=>
 xloop [5,10] [(nS),(vI 0)] e fun a f next2=>
 b2U x1 (a 5) x0 d (a 10) f next2 j1 R E
def c0N:Hint:=(sQ (sQ (hU [5] (sQ (hB (hL [5,10] (sQ (hS (hC hN hN) (hS (hB (sQ hN)) hN)))))) (sQ hN))))
theorem b7f{x0 x1:Value}(h:b9E x0 x1 w R E):Cv pG 126 #[x0,x1] w R E:=okF (h:=c0N) Tryz.func126 (by kernel_rfl) (by kernel_rfl) h
def b9F(x0 w)(R:RT)(E):=
 opK pG E (xV (Instr.box 36 x0)) w fun a b=>
 oP E (lA 36 a) b fun c d=>
 oP E (xV (Instr.build 85 #[(0,c)])) d fun e f=>
 oP E (xV (Instr.makeInterface 85 e)) f fun g i=>
 R g i
def c0O:Hint:=(sQ (sQ hN))
theorem b7g{x0:Value}(h:b9F x0 w R E):Cv pG 127 #[x0] w R E:=okF (h:=c0O) Tryz.func127 (by kernel_rfl) (by kernel_rfl) h
def b9G(x0 w)(R:RT)(E):=
 opK pG E (xV (Instr.box 118 x0)) w fun b c=>
 oP E (fA 118 b 0) c fun d e=>
 oP E (fA 46 d 1) e fun f g=>
 oP E (lA 3 f) g fun i j=>
 oP E (bC .geq 3 5 i (vI 0)) j fun a k=>
 oP E (gYs a (fA 118 b 0)) k fun l m=>
 oP E (gYs a (fA 46 l 1)) m fun n o=>
 oP E (gYs a (lA 3 n)) o fun p q=>
 oP E (gYs a (bC .leq 3 10 p (vI 2147483647))) q fun r s=>
 oP E (xPick a r (vB false)) s fun t u=>
 R t u
def c0P:Hint:=(sQ (sQ hN))
theorem b7h{x0:Value}(h:b9G x0 w R E):Cv pG 128 #[x0] w R E:=okF (h:=c0P) Tryz.func128 (by kernel_rfl) (by kernel_rfl) h
def b9H(x0 w)(R:RT)(E):=
 opK pG E (xV (Instr.box 118 x0)) w fun _t1_1 a=>
 R (nS) a
def c0Q:Hint:=(sQ (sQ hN))
theorem b7i{x0:Value}(h:b9H x0 w R E):Cv pG 129 #[x0] w R E:=okF (h:=c0Q) Tryz.func129 (by kernel_rfl) (by kernel_rfl) h
def a9y(x4 x5 x35 x83 w)(R:RT)(E):=
 ∀_τ:Fr,(xcond x83
 (oP E (gYs x5 (lA 181 x4)) w fun b c=>
 oP E (gYs x5 (xV (Instr.build 181 #[(0,(vI 0)),(1,(vI 1))]))) c fun d e=>
 oP E (gYs x5 (bN .eql 181 88 89 b d)) e fun f g=>
 oP E (xPick x5 f (vB false)) g fun i j=>
 R i j)
 (oP E (bC .eql 3 35 x35 (vI 7)) w fun k a=>
 xcond k
 (oP E (gYs x5 (lA 181 x4)) a fun l m=>
 oP E (gYs x5 (xV (Instr.build 181 #[]))) m fun n o=>
 oP E (gYs x5 (bN .eql 181 96 97 l n)) o fun p q=>
 oP E (xPick x5 p (vB false)) q fun r s=>
 R r s)
 (R (vB false) a)))
def b9I(x0 w)(R:RT)(E):=
 opK pG E (xV (Instr.box 120 x0)) w fun a r=>
 oP E (fA 120 a 0) r fun s t=>
 oP E (fA 51 s 4) t fun u v=>
 oP E (lA 23 u) v fun y z=>
 oP E (xBuiltin .len #[23] 3 [false] [y]) z fun aa ab=>
 oP E (fA 120 a 0) ab fun ac ad=>
 oP E (fA 51 ac 5) ad fun ae af=>
 oP E (lA 23 ae) af fun ag ah=>
 oP E (xBuiltin .len #[23] 3 [false] [ag]) ah fun ai aj=>
 oP E (bN .add 3 9 13 aa ai) aj fun ak al=>
 oP E (bC .gtr 3 14 ak (vI 0)) al fun j am=>
 oP E (fA 120 a 0) am fun an ao=>
 oP E (fA 51 an 2) ao fun ap aq=>
 oP E (lA 34 ap) aq fun ar au=>
 oP E (xBuiltin .len #[34] 3 [false] [ar]) au fun av aw=>
 oP E (fA 120 a 0) aw fun ax ay=>
 oP E (fA 51 ax 3) ay fun az ba=>
 oP E (lA 49 az) ba fun bb bc=>
 oP E (xBuiltin .len #[49] 3 [false] [bb]) bc fun bd be=>
 oP E (xV (Instr.build 181 #[(0,av),(1,bd)])) be fun bf bg=>
 oP E (xV (Instr.alloc 181 true (.tuple #[]))) bg fun c bh=>
 oP E (sA 181 c bf) bh fun _ bi=>
 oP E (fA 120 a 0) bi fun bj bk=>
 oP E (fA 51 bj 1) bk fun bl bm=>
 oP E (lA 9 bl) bm fun bn bo=>
 oP E (bC .eql 9 27 bn (eS)) bo fun k bp=>
 oP E (gYs k (xV (Op.unary .not (zT k j)))) bp fun bq br=>
 oP E (xPick k bq (vB false)) br fun bs bt=>
 oP E (fA 120 a 0) bt fun bu bv=>
 oP E (fA 51 bu 0) bv fun bw bz=>
 oP E (lA 3 bw) bz fun b ca=>
 oP E (bC .eql 3 35 b (vI 1)) ca fun cb l=>
 xcond cb
 (oP E (xV (Op.unary .not j)) l fun e cc=>
 oP E (gYs e (lA 181 c)) cc fun cd ce=>
 oP E (gYs e (xV (Instr.build 181 #[(0,(vI 1)),(1,(vI 0))]))) ce fun cf cg=>
 oP E (gYs e (bN .eql 181 41 42 cd cf)) cg fun ch ci=>
 oP E (xPick e ch (vB false)) ci fun cj ck=>
 R cj ck)
 (oP E (bC .eql 3 35 b (vI 2)) l fun cl m=>
 xcond cl
 (oP E (xV (Op.unary .not j)) m fun f cm=>
 oP E (gYs f (lA 181 c)) cm fun cn co=>
 oP E (gYs f (xV (Instr.build 181 #[(0,(vI 2)),(1,(vI 0))]))) co fun cp cq=>
 oP E (gYs f (bN .eql 181 50 51 cn cp)) cq fun cr cs=>
 oP E (xPick f cr (vB false)) cs fun ct cu=>
 R ct cu)
 (oP E (bC .eql 3 35 b (vI 3)) m fun cv n=>
 xcond cv
 (oP E (fA 120 a 0) n fun cw cx=>
 oP E (fA 51 cw 1) cx fun cy cz=>
 oP E (lA 9 cy) cz fun da db=>
 oP E (bC .eql 9 58 da (eS)) db fun g dc=>
 oP E (gYs g (lA 181 c)) dc fun dd de=>
 oP E (gYs g (xV (Instr.build 181 #[(0,(vI 0)),(1,(vI 1))]))) de fun df dg=>
 oP E (gYs g (bN .eql 181 61 62 dd df)) dg fun dh di=>
 oP E (xPick g dh (vB false)) di fun dj dk=>
 R dj dk)
 (oP E (bC .eql 3 35 b (vI 4)) n fun dl o=>
 xcond dl
 (oP E (fA 120 a 0) o fun dm dn=>
 oP E (fA 51 dm 1) dn fun dp dq=>
 oP E (lA 9 dp) dq fun dr ds=>
 oP E (bC .eql 9 69 dr (eS)) ds fun d dt=>
 oP E (gYs d (fA 120 a 0)) dt fun du dv=>
 oP E (gYs d (fA 51 du 5)) dv fun dw dx=>
 oP E (gYs d (lA 23 dw)) dx fun dy dz=>
 oP E (gYs d (xBuiltin .len #[23] 3 [false] [dy])) dz fun ea eb=>
 oP E (gYs d (bC .eql 3 75 ea (vI 0))) eb fun ec ed=>
 oP E (xPick d ec (vB false)) ed fun i ee=>
 oP E (gYs i (lA 181 c)) ee fun ef eg=>
 oP E (gYs i (xV (Instr.build 181 #[(0,(vI 0)),(1,(vI 1))]))) eg fun eh ei=>
 oP E (gYs i (bN .eql 181 79 80 ef eh)) ei fun ej ek=>
 oP E (xPick i ej (vB false)) ek fun el em=>
 R el em)
 (xcut (fun en eo=>a9y c bs b (nth en 0) eo R E) fun j1=>
 oP E (bC .eql 3 35 b (vI 5)) o fun p q=>
 xcond p
 (j1 [p] q)
 (oP E (bC .eql 3 35 b (vI 6)) q fun ep eq=>
 j1 [ep] eq)))))
def c0R:Hint:=(sQ (sQ (sQ (sQ (hS (sQ (hB (sQ (hC (sQ hN) (sQ (hC (sQ hN) (sQ (hC (sQ hN) (sQ (hC (sQ hN) (hU [83] (sQ (hC hN hN)) (hC (sQ hN) (sQ (hC (sQ hN) hN)))))))))))))) (sQ hN))))))
theorem b7j{x0:Value}(h:b9I x0 w R E):Cv pG 130 #[x0] w R E:=okF (h:=c0R) Tryz.func130 (by kernel_rfl) (by kernel_rfl) h
def b9J(x0 w)(R:RT)(E):=
 opK pG E (xV (Instr.box 120 x0)) w fun c n=>
 dX n fun a=>
 qP pG (fA 120 c 0) fun o=>
 qP pG (fA 51 o 3) fun l=>
 qP pG (fA 120 c 0) fun p=>
 qP pG (fA 51 p 2) fun e=>
 qP pG (fA 120 c 0) fun q=>
 qP pG (fA 51 q 4) fun d=>
 qP pG (fA 120 c 0) fun r=>
 qP pG (fA 51 r 5) fun b=>
 qL pG a (blk l) (lA 49 l) fun s=>
 qL pG a (blk e) (lA 34 e) fun t=>
 qL pG a (blk d) (lA 23 d) fun u=>
 qL pG a (blk b) (lA 23 b) fun v=>
 oP E (xCall (fC 132) [s,(fC 133)]) a fun y f=>
 keepX [(blk b),(blk d),(blk e)] a f (opK pG E (xCall (fC 126) [t,(fC 127)]) f fun z g=>
 keepX [(blk b),(blk d)] f g (opK pG E (xCall (fC 44) [u,(fC 45)]) g fun aa i=>
 keepX [(blk b)] g i (opK pG E (xCall (fC 44) [v,(fC 45)]) i fun ab j=>
 keepX [] i j (opK pG E (xV (Instr.buildSlice 115 4 #[(0,y),(1,z),(2,aa),(3,ab)])) j fun ac k=>
 keepX [] j k (opK pG E (xCall (fC 41) [ac]) k fun ad m=>
 keepX [] k m (R ad m))))))
def c0S:Hint:=(sQ (hS (.reg [(0,8,2),(1,16,8),(2,32,16),(4,64,32),(0,128,2),(16,256,128),(32,512,256),(72,1024,512),(0,2048,2),(256,4096,2048),(512,8192,4096),(1152,16384,8192),(0,32768,2),(4096,65536,32768),(8192,131072,65536),(18432,262144,131072),(34952,524288,279616),(98304,1048576,524288),(262143,4,1048576)] [17476,17476,17472,17472,17476,17476,17412,17408,17476,17476,16452,16384,17476,17476,1092,0,0,0,17476] (.early 0 (.early 1 (.early 4 (.early 5 (.early 8 (.early 9 (.early 12 (.early 13 (.load 2 (.load 6 (.load 10 (.load 14 (.step 3 (.step 7 (.step 11 (.step 15 (.step 16 (.step 17 (.early 18 .done)))))))))))))))))))) hN))
theorem b7k{x0:Value}(h:b9J x0 w R E):Cv pG 131 #[x0] w R E:=okF (h:=c0S) Tryz.func131 (by kernel_rfl) (by kernel_rfl) h
def a9z(x5 w)(R:RT)(_E:Pan):=
 ∀_τ:Fr,(R x5 w)
def b2V(x1 x5 x8 x9 x10 w)(next2:NT)(j1:NT)(_R:RT)(E):=
 opK pG E (bN .lss 3 10 9 x10 x9) w fun c a=>
 xcond c
 (oP E (iA 49 x8 x10) a fun d e=>
 oP E (lA 71 d) e fun f g=>
 oP E (xV (Instr.alloc 71 true (.tuple #[]))) g fun b i=>
 oP E (sA 71 b f) i fun _ j=>
 oP E (lA 71 b) j fun k l=>
 oP E (xCall x1 [k]) l fun m n=>
 oP E (xV (Instr.buildSlice 86 1 #[(0,m)])) n fun o p=>
 oP E (xBuiltin .append #[86,86] 86 [false,false] [x5,o]) p fun q r=>
 oP E (bC .add 3 10 x10 (vI 1)) r fun s t=>
 next2 [q,s] t)
 (j1 [x5] a)
def b9K(x0 x1 w)(R:RT)(E):=
 xcut (fun b c=>a9z (nth b 0) c R E) fun j1=>
 oP E (xBuiltin .len #[49] 3 [false] [x0]) w fun d e=>
 xloop [5,10] [(nS),(vI 0)] e fun a f next2=>
 b2V x1 (a 5) x0 d (a 10) f next2 j1 R E
def c0T:Hint:=(sQ (sQ (hU [5] (sQ (hB (hL [5,10] (sQ (hS (hC hN hN) (hS (hB (sQ hN)) hN)))))) (sQ hN))))
theorem b7l{x0 x1:Value}(h:b9K x0 x1 w R E):Cv pG 132 #[x0,x1] w R E:=okF (h:=c0T) Tryz.func132 (by kernel_rfl) (by kernel_rfl) h
def b9L(x0 w)(R:RT)(E):=
 opK pG E (xV (Instr.box 71 x0)) w fun a b=>
 oP E (lA 71 a) b fun c d=>
 oP E (xV (Instr.build 185 #[(0,c)])) d fun e f=>
 oP E (xV (Instr.makeInterface 185 e)) f fun g i=>
 R g i
def c0U:Hint:=(sQ (sQ hN))
theorem b7m{x0:Value}(h:b9L x0 w R E):Cv pG 133 #[x0] w R E:=okF (h:=c0U) Tryz.func133 (by kernel_rfl) (by kernel_rfl) h
def a9A(x3 x50 w)(R:RT)(E):=
 ∀_τ:Fr,(xcond x50
 (oP E (lA 187 x3) w fun a b=>
 oP E (xV (Instr.build 187 #[(0,(vI 0)),(1,(vI 2))])) b fun c d=>
 oP E (bN .eql 187 53 54 a c) d fun e f=>
 R e f)
 (R (vB false) w))
def a9B(x3 x38 x39 w)(R:RT)(E):=
 ∀_τ:Fr,(xcond x39
 (oP E (lA 187 x3) w fun d e=>
 oP E (xV (Instr.build 187 #[])) e fun f g=>
 oP E (bN .eql 187 42 43 d f) g fun i j=>
 R i j)
 (oP E (bC .eql 3 38 x38 (vI 4)) w fun k a=>
 xcond k
 (oP E (lA 187 x3) a fun l m=>
 oP E (xV (Instr.build 187 #[(0,(vI 0)),(1,(vI 1))])) m fun n o=>
 oP E (bN .eql 187 47 48 l n) o fun p q=>
 R p q)
 (xcut (fun r s=>a9A x3 (nth r 0) s R E) fun j2=>
 oP E (bC .eql 3 38 x38 (vI 5)) a fun b c=>
 xcond b
 (j2 [b] c)
 (oP E (bC .eql 3 38 x38 (vI 6)) c fun t u=>
 j2 [t] u))))
def b9M(x0 w)(R:RT)(E):=
 opK pG E (xV (Instr.box 185 x0)) w fun a k=>
 oP E (fA 185 a 0) k fun l m=>
 oP E (fA 71 l 2) m fun n o=>
 oP E (lA 34 n) o fun p q=>
 oP E (xBuiltin .len #[34] 3 [false] [p]) q fun r s=>
 oP E (fA 185 a 0) s fun t u=>
 oP E (fA 71 t 3) u fun v y=>
 oP E (lA 49 v) y fun z aa=>
 oP E (xBuiltin .len #[49] 3 [false] [z]) aa fun ab ac=>
 oP E (xV (Instr.build 187 #[(0,r),(1,ab)])) ac fun ad ae=>
 oP E (xV (Instr.alloc 187 true (.tuple #[]))) ae fun d af=>
 oP E (sA 187 d ad) af fun _ ag=>
 oP E (fA 185 a 0) ag fun ah ai=>
 oP E (fA 71 ah 0) ai fun aj ak=>
 oP E (lA 3 aj) ak fun al am=>
 oP E (bC .eql 3 15 al (vI 3)) am fun an f=>
 xcond an
 (oP E (fA 185 a 0) f fun ao ap=>
 oP E (fA 71 ao 1) ap fun aq ar=>
 oP E (lA 3 aq) ar fun au av=>
 oP E (bC .geq 3 19 au (vI 1)) av fun b aw=>
 oP E (gYs b (fA 185 a 0)) aw fun ax ay=>
 oP E (gYs b (fA 71 ax 1)) ay fun az ba=>
 oP E (gYs b (lA 3 az)) ba fun bb bc=>
 oP E (gYs b (bC .leq 3 24 bb (vI 6))) bc fun bd be=>
 oP E (xPick b bd (vB false)) be fun c bf=>
 oP E (gYs c (lA 187 d)) bf fun bg bh=>
 oP E (gYs c (xV (Instr.build 187 #[(0,(vI 2)),(1,(vI 0))]))) bh fun bi bj=>
 oP E (gYs c (bN .eql 187 28 29 bg bi)) bj fun bk bl=>
 oP E (xPick c bk (vB false)) bl fun bm bn=>
 R bm bn)
 (oP E (fA 185 a 0) f fun bo bp=>
 oP E (fA 71 bo 1) bp fun bq br=>
 oP E (lA 3 bq) br fun bs bt=>
 oP E (bC .neq 3 34 bs (vI 0)) bt fun bu g=>
 xcond bu
 (R (vB false) g)
 (oP E (fA 185 a 0) g fun bv bw=>
 oP E (fA 71 bv 0) bw fun bz ca=>
 oP E (lA 3 bz) ca fun e cb=>
 xcut (fun cc cd=>a9B d e (nth cc 0) cd R E) fun j1=>
 oP E (bC .eql 3 38 e (vI 1)) cb fun i j=>
 xcond i
 (j1 [i] j)
 (oP E (bC .eql 3 38 e (vI 2)) j fun ce cf=>
 j1 [ce] cf)))
def c0V:Hint:=(sQ (sQ (hS (sQ (hC (sQ hN) hN)) (hS (sQ (hC (sQ hN) hN)) (hS (sQ (hB (hU [39] (sQ (hC hN hN)) (hC (sQ hN) (sQ (hC (sQ hN) (hU [50] (sQ (hC hN hN)) (hC (sQ hN) hN)))))))) (sQ hN))))))
theorem b7n{x0:Value}(h:b9M x0 w R E):Cv pG 135 #[x0] w R E:=okF (h:=c0V) Tryz.func135 (by kernel_rfl) (by kernel_rfl) h
def b9N(x0 w)(R:RT)(E):=
 opK pG E (xV (Instr.box 185 x0)) w fun f j=>
 dX j fun a=>
 qP pG (fA 185 f 0) fun k=>
 qP pG (fA 71 k 2) fun g=>
 qP pG (fA 185 f 0) fun l=>
 qP pG (fA 71 l 3) fun b=>
 qL pG a (blk g) (lA 34 g) fun m=>
 qL pG a (blk b) (lA 49 b) fun n=>
 oP E (xCall (fC 126) [m,(fC 127)]) a fun o c=>
 keepX [(blk b)] a c (opK pG E (xCall (fC 132) [n,(fC 133)]) c fun p d=>
 keepX [] c d (opK pG E (xV (Instr.buildSlice 115 2 #[(0,o),(1,p)])) d fun q e=>
 keepX [] d e (opK pG E (xCall (fC 41) [q]) e fun r i=>
 keepX [] e i (R r i))))
def c0W:Hint:=(sQ (hS (.reg [(0,8,2),(1,16,8),(2,32,16),(4,64,32),(0,128,2),(16,256,128),(32,512,256),(72,1024,512),(136,2048,1088),(384,4096,2048),(1023,4,4096)] [68,68,64,64,68,68,4,0,0,0,68] (.early 0 (.early 1 (.early 4 (.early 5 (.load 2 (.load 6 (.step 3 (.step 7 (.step 8 (.step 9 (.early 10 .done)))))))))))) hN))
theorem b7o{x0:Value}(h:b9N x0 w R E):Cv pG 136 #[x0] w R E:=okF (h:=c0W) Tryz.func136 (by kernel_rfl) (by kernel_rfl) h
end Go.Proofs.YtnhdnncbjddmjaaGreatDoor
