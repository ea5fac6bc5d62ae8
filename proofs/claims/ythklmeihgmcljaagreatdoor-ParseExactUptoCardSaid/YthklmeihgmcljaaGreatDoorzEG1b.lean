/- The second reading of some of the program's functions, printed by gen2.py off the code; each is held against the code by the kernel. -/
import Derived.KernelRfl
import Derived.Test.YthklmeihgmcljaaGreatDoorzEGz
namespace Go.Proofs.YthklmeihgmcljaaGreatDoor
open Go.RowKit
set_option maxRecDepth 100000
variable {w:World}{R:RT}{E:Pan}
def c5b(w)(R:RT)(_E:Pan):=
 ∀_τ:Fr,(R (Value.tuple #[(vI 0),(vI 0)]) w)
def d2M(x0 x4 w)(next2:NT)(j1:NT)(R:RT)(E):=
 opK pG E (xBuiltin .len #[9] 3 [false] [x0]) w fun d e=>
 oP E (bN .lss 3 11 13 x4 d) e fun f b=>
 xcond f
 (oP E (xCall (fC 108) [x0,x4]) b fun a g=>
 oP E (xT a 0) g fun _t19_13 i=>
 oP E (xT a 1) i fun j k=>
 oP E (xT a 2) k fun l m=>
 oP E (xV (Op.unary .not l)) m fun n c=>
 xcond n
 (R (Value.tuple #[x4,(vI 11)]) c)
 (oP E (bN .add 3 25 26 x4 j) c fun o p=>
 next2 [o] p))
 (j1 [] b)
def F58(x0 w)(R:RT)(E):=
 opK pG E (xBuiltin .len #[9] 3 [false] [x0]) w fun b c=>
 oP E (bC .gtr 3 9 b (vI 65536)) c fun d a=>
 xcond d
 (R (Value.tuple #[(vI 0),(vI 10)]) a)
 (xcut (fun _ e=>c5b e R E) fun j1=>
 xloop [4] [(vI 0)] a fun f g next2=>
 d2M x0 (f 4) g next2 j1 R E)
def h58:Hint:=(sQ (hS (sQ (hC (sQ hN) hN)) (hU [] (sQ (hB (hL [4] (hS (sQ (hC hN hN)) (hB (sQ (hS (sQ (hC (sQ hN) hN)) hN))))))) (sQ hN))))
theorem d2N{x0:Value}(h:F58 x0 w R E):Cv pG 58 #[x0] w R E:=okF (h:=h58) Tryz.func58 (by kernel_rfl) (by kernel_rfl) h
def c5c(x4 x5 w)(R:RT)(E):=
 ∀_τ:Fr,(oP E (lA 28 x5) w fun b c=>
 oP E (sA 28 x4 b) c fun _ a=>
 xcell pG 28 x4 a fun d=>
 R d a)
def c5d(_x0 _x1 _x4 _x5 x6 x8:Value)(w)(next2:NT)(_R:RT)(E):=
 ∀_τ:Fr,(oP E (bN .add 3 38 39 x6 x8) w fun a b=>
 next2 [a] b)
def d2O(x0 x1 x4 x5 x6 w)(next2:NT)(j1:NT)(R:RT)(E):=
 opK pG E (xBuiltin .len #[9] 3 [false] [x0]) w fun e f=>
 oP E (bN .lss 3 11 13 x6 e) f fun a g=>
 oP E (gT a (bN .lss 3 16 17 (zT a x6) (zT a x1))) g fun i j=>
 oP E (xPick a i (vB false)) j fun k c=>
 xcond k
 (oP E (xCall (fC 108) [x0,x6]) c fun b l=>
 oP E (xT b 0) l fun m n=>
 oP E (xT b 1) n fun o p=>
 oP E (xT b 2) p fun _t26_30 q=>
 oP E (fA 28 x5 1) q fun r s=>
 oP E (lA 3 r) s fun t u=>
 oP E (bC .add 3 28 t (vI 1)) u fun v y=>
 oP E (fA 28 x5 1) y fun z aa=>
 oP E (sA 3 z v) aa fun _ ab=>
 xcut (fun _ ac=>c5d x0 x1 x4 x5 x6 o ac next2 R E) fun j3=>
 oP E (bC .eql 3 31 m (vI 10)) ab fun ad d=>
 xcond ad
 (oP E (fA 28 x5 0) d fun ae af=>
 oP E (lA 3 ae) af fun ag ah=>
 oP E (bC .add 3 34 ag (vI 1)) ah fun ai aj=>
 oP E (fA 28 x5 0) aj fun ak al=>
 oP E (sA 3 ak ai) al fun _ am=>
 oP E (fA 28 x5 1) am fun an ao=>
 oP E (sA 3 an (vI 1)) ao fun _ ap=>
 j3 [] ap)
 (j3 [] d))
 (j1 [] c)
def F59(x0 x1 w)(R:RT)(E):=
 opK pG E (xV (Instr.alloc 28 true (.tuple #[]))) w fun b c=>
 oP E (xV (Instr.build 28 #[(0,(vI 1)),(1,(vI 1))])) c fun d e=>
 oP E (xV (Instr.alloc 28 true (.tuple #[]))) e fun a f=>
 oP E (sA 28 a d) f fun _ g=>
 xcut (fun _ i=>c5c b a i R E) fun j1=>
 xloop [6] [(vI 0)] g fun j k next2=>
 d2O x0 x1 b a (j 6) k next2 j1 R E
def h59:Hint:=(sQ (sQ (hU [] (sQ (hB (hL [6] (hS (sQ (hC hN hN)) (hB (sQ (sQ (hU [] (sQ (hC (sQ hN) hN)) hN)))))))) (sQ hN))))
theorem d2P{x0 x1:Value}(h:F59 x0 x1 w R E):Cv pG 59 #[x0,x1] w R E:=okF (h:=h59) Tryz.func59 (by kernel_rfl) (by kernel_rfl) h
def c5e(x1 w)(R:RT)(_E:Pan):=
 ∀_τ:Fr,(R x1 w)
def c5f(_x0 x1 x5 x6:Value)(w)(j1:NT)(next2:NT)(_R:RT)(E):=
 ∀_τ:Fr,(oP E (bC .neq 3 33 x5 (vI 1)) w fun a c=>
 oP E (gT a (bC .neq 3 36 (zT a x5) (vI 2))) c fun d e=>
 oP E (xPick a d (vB false)) e fun f b=>
 xcond f
 (j1 [x1] b)
 (oP E (bN .add 3 39 40 x1 x6) b fun g i=>
 next2 [g] i))
def d2Q(x0 x1 w)(next4:NT)(next2:NT)(_R:RT)(E):=
 opK pG E (xBuiltin .len #[9] 3 [false] [x0]) w fun c d=>
 oP E (bN .lss 3 21 23 x1 c) d fun a e=>
 oP E (gT a (xV (Instr.index 9 (zT a x0) (zT a x1)))) e fun f g=>
 oP E (gT a (bC .neq 5 28 f (Value.int .u8 10))) g fun i j=>
 oP E (xPick a i (vB false)) j fun k b=>
 xcond k
 (oP E (bC .add 3 31 x1 (vI 1)) b fun l m=>
 next4 [l] m)
 (next2 [x1] b)
def d2R(x0 x1 w)(j1:NT)(next2:NT)(R:RT)(E):=
 opK pG E (xBuiltin .len #[9] 3 [false] [x0]) w fun d e=>
 oP E (bN .lss 3 7 9 x1 d) e fun f a=>
 xcond f
 (oP E (xCall (fC 109) [x0,x1]) a fun b g=>
 oP E (xT b 0) g fun i j=>
 oP E (xT b 1) j fun k l=>
 xcut (fun m n=>c5f x0 (nth m 0) i k n j1 next2 R E) fun j3=>
 oP E (xV (Instr.index 9 x0 x1)) l fun o p=>
 oP E (bC .eql 5 19 o (Value.int .u8 35)) p fun q c=>
 xcond q
 (xloop [1] [x1] c fun r s next4=>
 d2Q x0 (r 1) s next4 next2 R E)
 (j3 [x1] c))
 (j1 [x1] a)
def F60(x0 x1 w)(R:RT)(E):=
 xcut (fun a b=>c5e (nth a 0) b R E) fun j1=>
 xloop [1] [x1] w fun c d next2=>
 d2R x0 (c 1) d j1 next2 R E
def h60:Hint:=(sQ (hU [1] (hB (hL [1] (hS (sQ (hC hN hN)) (hB (sQ (hU [1] (sQ (hC (hS (hB (hL [1] (hS (sQ (hC hN hN)) (hB hN)))) hN) hN)) (hS (sQ (hC hN hN)) hN))))))) (sQ hN)))
theorem d2S{x0 x1:Value}(h:F60 x0 x1 w R E):Cv pG 60 #[x0,x1] w R E:=okF (h:=h60) Tryz.func60 (by kernel_rfl) (by kernel_rfl) h
def c5g(x5 x8 w)(R:RT)(E):=
 ∀_τ:Fr,(oP E (lA 28 x5) w fun b c=>
 oP E (sA 28 x8 b) c fun _ a=>
 xcell pG 28 x8 a fun d=>
 R d a)
def c5h(_x0 _x3 _x5 _x8 x9 x11:Value)(w)(next2:NT)(_R:RT)(E):=
 ∀_τ:Fr,(oP E (bN .add 3 35 36 x9 x11) w fun a b=>
 next2 [a] b)
def d2T(x0 x3 x5 x8 x9 w)(next2:NT)(j1:NT)(R:RT)(E):=
 opK pG E (bN .lss 3 14 15 x9 x3) w fun d b=>
 xcond d
 (oP E (xCall (fC 108) [x0,x9]) b fun a e=>
 oP E (xT a 0) e fun f g=>
 oP E (xT a 1) g fun i j=>
 oP E (xT a 2) j fun _t23_20 k=>
 oP E (fA 28 x5 1) k fun l m=>
 oP E (lA 3 l) m fun n o=>
 oP E (bC .add 3 25 n (vI 1)) o fun p q=>
 oP E (fA 28 x5 1) q fun r s=>
 oP E (sA 3 r p) s fun _ t=>
 xcut (fun _ u=>c5h x0 x3 x5 x8 x9 i u next2 R E) fun j3=>
 oP E (bC .eql 3 28 f (vI 10)) t fun v c=>
 xcond v
 (oP E (fA 28 x5 0) c fun y z=>
 oP E (lA 3 y) z fun aa ab=>
 oP E (bC .add 3 31 aa (vI 1)) ab fun ac ad=>
 oP E (fA 28 x5 0) ad fun ae af=>
 oP E (sA 3 ae ac) af fun _ ag=>
 oP E (fA 28 x5 1) ag fun ah ai=>
 oP E (sA 3 ah (vI 1)) ai fun _ aj=>
 j3 [] aj)
 (j3 [] c))
 (j1 [] b)
def F61(x0 x1 x2 x3 w)(R:RT)(E):=
 opK pG E (xV (Instr.box 28 x1)) w fun a c=>
 oP E (xV (Instr.alloc 28 true (.tuple #[]))) c fun b d=>
 xcut (fun _ e=>c5g a b e R E) fun j1=>
 xloop [9] [x2] d fun f g next2=>
 d2T x0 x3 a b (f 9) g next2 j1 R E
def h61:Hint:=(sQ (hU [] (sQ (hB (hL [9] (hS (sQ (hC hN hN)) (hB (sQ (sQ (hU [] (sQ (hC (sQ hN) hN)) hN)))))))) (sQ hN)))
theorem d2U{x0 x1 x2 x3:Value}(h:F61 x0 x1 x2 x3 w R E):Cv pG 61 #[x0,x1,x2,x3] w R E:=okF (h:=h61) Tryz.func61 (by kernel_rfl) (by kernel_rfl) h
def F62(x0 x1 w)(R:RT)(E):=
 opK pG E (xV (Instr.alloc 103 true (.tuple #[]))) w fun a u=>
 oP E (xCall (fC 109) [x0,x1]) u fun g v=>
 oP E (xT g 0) v fun b y=>
 oP E (xT g 1) y fun _t17_7 z=>
 oP E (bC .eql 3 18 b (vI 3)) z fun aa i=>
 xcond aa
 (oP E (xCall (fC 110) [x0,x1]) i fun j ab=>
 oP E (xT j 0) ab fun c ac=>
 oP E (xT j 1) ac fun ad ae=>
 oP E (xV (Instr.sliceAt 9 x0 (some x1) (some c) none)) ae fun d af=>
 oP E (xCall (fC 111) [d]) af fun ag k=>
 xcond ag
 (oP E (xV (Instr.build 103 #[(0,(vI 3)),(1,d)])) k fun ah ai=>
 oP E (sA 103 a ah) ai fun _ l=>
 xcell pG 103 a l fun aj=>
 R (Value.tuple #[aj,c,(vI 0)]) l)
 (oP E (bC .gtr 3 36 ad (vI 32)) k fun ak m=>
 xcond ak
 (oP E (xV (Instr.build 103 #[])) m fun al am=>
 oP E (sA 103 a al) am fun _ n=>
 xcell pG 103 a n fun an=>
 R (Value.tuple #[an,(vI 0),(vI 22)]) n)
 (oP E (xV (Instr.build 103 #[(0,(vI 1)),(1,d)])) m fun ao ap=>
 oP E (sA 103 a ao) ap fun _ o=>
 xcell pG 103 a o fun aq=>
 R (Value.tuple #[aq,c,(vI 0)]) o)))
 (oP E (bC .eql 3 18 b (vI 4)) i fun ar p=>
 xcond ar
 (oP E (xCall (fC 112) [x0,x1]) p fun e au=>
 oP E (xT e 0) au fun av aw=>
 oP E (xT e 1) aw fun ax ay=>
 oP E (xT e 2) ay fun az ba=>
 oP E (sA 103 a av) ba fun _ q=>
 xcell pG 103 a q fun bb=>
 R (Value.tuple #[bb,ax,az]) q)
 (oP E (bC .eql 3 18 b (vI 5)) p fun bc r=>
 xcond bc
 (oP E (xCall (fC 113) [x0,x1]) r fun f bd=>
 oP E (xT f 0) bd fun be bf=>
 oP E (xT f 1) bf fun bg bh=>
 oP E (xT f 2) bh fun bi bj=>
 oP E (sA 103 a be) bj fun _ s=>
 xcell pG 103 a s fun bk=>
 R (Value.tuple #[bk,bg,bi]) s)
 (oP E (xV (Instr.build 103 #[])) r fun bl bm=>
 oP E (sA 103 a bl) bm fun _ t=>
 xcell pG 103 a t fun bn=>
 R (Value.tuple #[bn,(vI 0),(vI 20)]) t)))
def h62:Hint:=(sQ (sQ (hS (sQ (hB (sQ (hC (sQ (sQ (hS (sQ (hC (sQ hN) hN)) (hS (sQ (hC (sQ hN) hN)) (sQ hN))))) (sQ (hC (sQ hN) (sQ (hC (sQ hN) hN)))))))) (sQ hN))))
theorem d2V{x0 x1:Value}(h:F62 x0 x1 w R E):Cv pG 62 #[x0,x1] w R E:=okF (h:=h62) Tryz.func62 (by kernel_rfl) (by kernel_rfl) h
def F63(x0 w)(R:RT)(E):=
 opK pG E (xV (Instr.alloc 103 true (.tuple #[]))) w fun c g=>
 dX g fun a=>
 qP pG (xNil x0) fun i=>
 qP pG (fA 66 i 0) fun d=>
 qP pG (xNil x0) fun j=>
 qP pG (fA 66 j 1) fun e=>
 qL pG a (blk d) (lA 61 d) fun k=>
 qL pG a (blk e) (lA 3 e) fun l=>
 qP pG (iA 61 k l) fun f=>
 qL pG a (blk f) (lA 103 f) fun m=>
 oP E (sA 103 c m) a fun _ b=>
 keepX [] a b (xcell pG 103 c b fun n=>
 R n b)
def h63:Hint:=(sQ (hS (.reg [(0,8,1),(1,16,8),(2,32,16),(4,64,32),(0,128,1),(16,256,128),(32,512,256),(64,1024,512),(136,2048,1088),(256,4096,2048),(1023,0,4100)] [648,648,648,640,648,648,648,520,648,136,0] (.early 0 (.early 1 (.early 2 (.early 4 (.early 5 (.early 6 (.load 3 (.load 7 (.early 8 (.load 9 (.step 10 .done)))))))))))) hN))
theorem d2W{x0:Value}(h:F63 x0 w R E):Cv pG 63 #[x0] w R E:=okF (h:=h63) Tryz.func63 (by kernel_rfl) (by kernel_rfl) h
def F64(x0 w)(R:RT)(E):=
 opK pG E (xCall (fC 63) [x0]) w fun d e=>
 oP E (xV (Instr.alloc 103 true (.tuple #[]))) e fun b f=>
 oP E (sA 103 b d) f fun _ g=>
 oP E (xNil x0) g fun i j=>
 oP E (fA 66 i 2) j fun k l=>
 oP E (lA 3 k) l fun m n=>
 oP E (bC .neq 3 9 m (vI 0)) n fun a o=>
 oP E (gF a (fA 103 b 0)) o fun p q=>
 oP E (gF a (lA 3 p)) q fun r s=>
 oP E (gF a (bC .neq 3 13 r (vI 1))) s fun t u=>
 oP E (xPick a (vB true) t) u fun v c=>
 xcond v
 (oP E (xCall (fC 66) [x0,(vI 40)]) c fun _t17_23 y=>
 R (eS) y)
 (oP E (xNil x0) c fun z aa=>
 oP E (fA 66 z 1) aa fun ab ac=>
 oP E (lA 3 ab) ac fun ad ae=>
 oP E (bC .add 3 21 ad (vI 1)) ae fun af ag=>
 oP E (xNil x0) ag fun ah ai=>
 oP E (fA 66 ah 1) ai fun aj ak=>
 oP E (sA 3 aj af) ak fun _ al=>
 oP E (fA 103 b 1) al fun am an=>
 oP E (lA 9 am) an fun ao ap=>
 R ao ap)
def h64:Hint:=(sQ (sQ (hS (sQ (hC (sQ (sQ hN)) hN)) (sQ (sQ hN)))))
theorem d2X{x0:Value}(h:F64 x0 w R E):Cv pG 64 #[x0] w R E:=okF (h:=h64) Tryz.func64 (by kernel_rfl) (by kernel_rfl) h
def F65(x0 x1 w)(R:RT)(E):=
 opK pG E (xCall (fC 67) [x0,x1]) w fun b c=>
 oP E (xV (Op.unary .not b)) c fun d a=>
 xcond d
 (oP E (xCall (fC 66) [x0,(vI 40)]) a fun _t9_5 e=>
 R (Value.tuple #[]) e)
 (R (Value.tuple #[]) a)
def h65:Hint:=(sQ (hC hN hN))
theorem d2Y{x0 x1:Value}(h:F65 x0 x1 w R E):Cv pG 65 #[x0,x1] w R E:=okF (h:=h65) Tryz.func65 (by kernel_rfl) (by kernel_rfl) h
def F66(x0 x1 w)(R:RT)(E):=
 opK pG E (xNil x0) w fun b c=>
 oP E (fA 66 b 2) c fun d e=>
 oP E (lA 3 d) e fun f g=>
 oP E (bC .eql 3 7 f (vI 0)) g fun i a=>
 xcond i
 (oP E (xNil x0) a fun j k=>
 oP E (fA 66 j 2) k fun l m=>
 oP E (sA 3 l x1) m fun _ n=>
 oP E (xCall (fC 63) [x0]) n fun o p=>
 oP E (xV (Instr.field 103 o 3)) p fun q r=>
 oP E (xNil x0) r fun s t=>
 oP E (fA 66 s 3) t fun u v=>
 oP E (sA 28 u q) v fun _ y=>
 R (Value.tuple #[]) y)
 (R (Value.tuple #[]) a)
def h66:Hint:=(sQ (hC (sQ hN) hN))
theorem d2Z{x0 x1:Value}(h:F66 x0 x1 w R E):Cv pG 66 #[x0,x1] w R E:=okF (h:=h66) Tryz.func66 (by kernel_rfl) (by kernel_rfl) h
def F67(x0 x1 w)(R:RT)(E):=
 opK pG E (xCall (fC 23) [x0,x1]) w fun b c=>
 oP E (xV (Op.unary .not b)) c fun d a=>
 xcond d
 (R (vB false) a)
 (oP E (xNil x0) a fun e f=>
 oP E (fA 66 e 1) f fun g i=>
 oP E (lA 3 g) i fun j k=>
 oP E (bC .add 3 12 j (vI 1)) k fun l m=>
 oP E (xNil x0) m fun n o=>
 oP E (fA 66 n 1) o fun p q=>
 oP E (sA 3 p l) q fun _ r=>
 R (vB true) r)
def h67:Hint:=(sQ (hS (sQ (hC (sQ hN) hN)) (sQ (sQ hN))))
theorem d3a{x0 x1:Value}(h:F67 x0 x1 w R E):Cv pG 67 #[x0,x1] w R E:=okF (h:=h67) Tryz.func67 (by kernel_rfl) (by kernel_rfl) h
def F68(x0 x1 x2 w)(R:RT)(E):=
 opK pG E (xV (Instr.alloc 56 true (.tuple #[]))) w fun a d=>
 oP E (xCall (fC 43) [x0,x2]) d fun e f=>
 oP E (xV (Instr.buildSlice 47 1 #[(0,e)])) f fun g i=>
 oP E (xV (Instr.build 56 #[(0,x1),(3,g)])) i fun j k=>
 oP E (xV (Instr.alloc 56 true (.tuple #[]))) k fun b l=>
 oP E (sA 56 b j) l fun _ m=>
 oP E (xCall (fC 65) [x0,(Value.string ⟨#[59]⟩)]) m fun _t15_13 n=>
 oP E (lA 56 b) n fun o p=>
 oP E (sA 56 a o) p fun _ c=>
 xcell pG 56 a c fun q=>
 R q c
def h68:Hint:=(sQ (sQ (sQ (sQ hN))))
theorem d3b{x0 x1 x2:Value}(h:F68 x0 x1 x2 w R E):Cv pG 68 #[x0,x1,x2] w R E:=okF (h:=h68) Tryz.func68 (by kernel_rfl) (by kernel_rfl) h
def c5i(x0 x5 w)(R:RT)(E):=
 ∀_τ:Fr,(oP E (xCall (fC 65) [x0,(Value.string ⟨#[125]⟩)]) w fun _t32_3 a=>
 R x5 a)
def d3c(x0 x1 x5 w)(next2:NT)(j1:NT)(_R:RT)(E):=
 opK pG E (xNil x0) w fun d e=>
 oP E (fA 66 d 2) e fun f g=>
 oP E (lA 3 f) g fun i j=>
 oP E (bC .eql 3 11 i (vI 0)) j fun a k=>
 oP E (gT a (xCall (fC 25) [(zT a x0)])) k fun l m=>
 oP E (xPick a l (vB false)) m fun n b=>
 xcond n
 (oP E (xCall (fC 114) [x0,x1]) b fun _t19_19 o=>
 oP E (xNil x0) o fun p q=>
 oP E (fA 66 p 2) q fun r s=>
 oP E (lA 3 r) s fun t u=>
 oP E (bC .eql 3 23 t (vI 0)) u fun v c=>
 xcond v
 (oP E (xCall (fC 26) [x0,x1]) c fun y z=>
 oP E (xV (Instr.buildSlice 24 1 #[(0,y)])) z fun aa ab=>
 oP E (xBuiltin .append #[24,24] 24 [false,false] [x5,aa]) ab fun ac ad=>
 next2 [ac] ad)
 (next2 [x5] c))
 (j1 [x5] b)
def F69(x0 x1 w)(R:RT)(E):=
 opK pG E (xCall (fC 65) [x0,(Value.string ⟨#[123]⟩)]) w fun _t7_1 a=>
 xcut (fun b c=>c5i x0 (nth b 0) c R E) fun j1=>
 xloop [5] [(nS)] a fun d e next2=>
 d3c x0 x1 (d 5) e next2 j1 R E
def h69:Hint:=(sQ (sQ (sQ (hU [5] (hB (hL [5] (hS (sQ (hC hN hN)) (hB (sQ (sQ (hC hN hN))))))) (sQ (sQ hN))))))
theorem d3d{x0 x1:Value}(h:F69 x0 x1 w R E):Cv pG 69 #[x0,x1] w R E:=okF (h:=h69) Tryz.func69 (by kernel_rfl) (by kernel_rfl) h
def c5j(x2 x3 w)(R:RT)(E):=
 ∀_τ:Fr,(oP E (lA 120 x3) w fun b c=>
 oP E (sA 120 x2 b) c fun _ a=>
 xcell pG 120 x2 a fun d=>
 R d a)
def d3e(x1 _x2 x3 x5:Value)(w)(next3:NT)(j2:NT)(_R:RT)(E):=
 opK pG E (fA 26 x1 1) w fun c d=>
 oP E (lA 24 c) d fun e f=>
 oP E (xBuiltin .len #[24] 3 [false] [e]) f fun g i=>
 oP E (bN .lss 3 20 23 x5 g) i fun a j=>
 oP E (gT a (fA 120 x3 2)) j fun k l=>
 oP E (gT a (lA 3 k)) l fun m n=>
 oP E (gT a (bC .eql 3 27 m (vI 0))) n fun o p=>
 oP E (xPick a o (vB false)) p fun q b=>
 xcond q
 (oP E (fA 26 x1 1) b fun r s=>
 oP E (lA 24 r) s fun t u=>
 oP E (iA 24 t x5) u fun v y=>
 oP E (lA 56 v) y fun z aa=>
 oP E (xCall (fC 116) [x3,z,(vI 1)]) aa fun _t37_42 ab=>
 oP E (bC .add 3 30 x5 (vI 1)) ab fun ac ad=>
 next3 [ac] ad)
 (j2 [] b)
def c5k(x1 x2 x3 w)(R:RT)(E):=
 ∀_τ:Fr,(xcut (fun _ a=>c5j x2 x3 a R E) fun j2=>
 xloop [5] [(vI 0)] w fun b c next3=>
 d3e x1 x2 x3 (b 5) c next3 j2 R E)
def d3f(x1 _x2 x3 x4:Value)(w)(next4:NT)(j1:NT)(_R:RT)(E):=
 opK pG E (fA 26 x1 0) w fun c d=>
 oP E (lA 23 c) d fun e f=>
 oP E (xBuiltin .len #[23] 3 [false] [e]) f fun g i=>
 oP E (bN .lss 3 7 10 x4 g) i fun a j=>
 oP E (gT a (fA 120 x3 2)) j fun k l=>
 oP E (gT a (lA 3 k)) l fun m n=>
 oP E (gT a (bC .eql 3 14 m (vI 0))) n fun o p=>
 oP E (xPick a o (vB false)) p fun q b=>
 xcond q
 (oP E (xCall (fC 115) [x3,(vI 1)]) b fun _t19_66 r=>
 oP E (bC .add 3 17 x4 (vI 1)) r fun s t=>
 next4 [s] t)
 (j1 [] b)
def F70(x0 w)(R:RT)(E):=
 opK pG E (xV (Instr.box 26 x0)) w fun b d=>
 oP E (xV (Instr.alloc 120 true (.tuple #[]))) d fun c e=>
 oP E (xV (Instr.build 120 #[])) e fun f g=>
 oP E (xV (Instr.alloc 120 true (.tuple #[]))) g fun a i=>
 oP E (sA 120 a f) i fun _ j=>
 xcut (fun _ k=>c5k b c a k R E) fun j1=>
 xloop [4] [(vI 0)] j fun l m next4=>
 d3f b c a (l 4) m next4 j1 R E
def h70:Hint:=(sQ (sQ (hU [] (sQ (hB (hL [4] (hS (sQ (hC hN hN)) (hS (hB hN) hN))))) (hU [] (sQ (hB (hL [5] (hS (sQ (hC hN hN)) (hS (hB hN) hN))))) (sQ hN)))))
theorem d3g{x0:Value}(h:F70 x0 w R E):Cv pG 70 #[x0] w R E:=okF (h:=h70) Tryz.func70 (by kernel_rfl) (by kernel_rfl) h
def F71(x0 x1 x2 w)(R:RT)(E):=
 opK pG E (xV (Op.unary .not x2)) w fun d c=>
 xcond d
 (oP E (xNil x0) c fun e f=>
 oP E (fA 123 e 0) f fun g i=>
 oP E (lA 4 g) i fun a j=>
 oP E (gT a (bC .eql 9 14 (zT a x1) (eS))) j fun k l=>
 oP E (xPick a k (vB false)) l fun m n=>
 oP E (xNil x0) n fun o p=>
 oP E (fA 123 o 0) p fun q r=>
 oP E (sA 4 q m) r fun _ s=>
 R (Value.tuple #[]) s)
 (oP E (xNil x0) c fun t u=>
 oP E (fA 123 t 1) u fun v y=>
 oP E (lA 4 v) y fun b z=>
 oP E (gT b (xCall (fC 117) [(zT b x1)])) z fun aa ab=>
 oP E (xPick b aa (vB false)) ab fun ac ad=>
 oP E (xNil x0) ad fun ae af=>
 oP E (fA 123 ae 1) af fun ag ah=>
 oP E (sA 4 ag ac) ah fun _ ai=>
 R (Value.tuple #[]) ai)
def h71:Hint:=(hS (sQ (hC (sQ hN) hN)) hN)
theorem d3h{x0 x1 x2:Value}(h:F71 x0 x1 x2 w R E):Cv pG 71 #[x0,x1,x2] w R E:=okF (h:=h71) Tryz.func71 (by kernel_rfl) (by kernel_rfl) h
def d3i(x0 x3 x9 w)(next5:NT)(R:RT)(E):=
 opK pG E (fA 56 x3 5) w fun c d=>
 oP E (lA 24 c) d fun e f=>
 oP E (xBuiltin .len #[24] 3 [false] [e]) f fun g i=>
 oP E (bN .lss 3 146 149 x9 g) i fun a j=>
 oP E (gT a (xNil (zT a x0))) j fun k l=>
 oP E (gT a (fA 123 k 0)) l fun m n=>
 oP E (gT a (lA 4 m)) n fun o p=>
 oP E (xPick a o (vB false)) p fun q b=>
 xcond q
 (oP E (fA 56 x3 5) b fun r s=>
 oP E (lA 24 r) s fun t u=>
 oP E (iA 24 t x9) u fun v y=>
 oP E (lA 56 v) y fun z aa=>
 oP E (xCall (fC 72) [x0,z]) aa fun _t165_123 ab=>
 oP E (bC .add 3 157 x9 (vI 1)) ab fun ac ad=>
 next5 [ac] ad)
 (R (Value.tuple #[]) b)
def c5l(x0 x3 w)(R:RT)(E):=
 ∀_τ:Fr,(xloop [9] [(vI 0)] w fun a b next5=>
 d3i x0 x3 (a 9) b next5 R E)
def d3j(x0 x3 x8 w)(next6:NT)(j4:NT)(_R:RT)(E):=
 opK pG E (fA 56 x3 4) w fun c d=>
 oP E (lA 24 c) d fun e f=>
 oP E (xBuiltin .len #[24] 3 [false] [e]) f fun g i=>
 oP E (bN .lss 3 126 129 x8 g) i fun a j=>
 oP E (gT a (xNil (zT a x0))) j fun k l=>
 oP E (gT a (fA 123 k 0)) l fun m n=>
 oP E (gT a (lA 4 m)) n fun o p=>
 oP E (xPick a o (vB false)) p fun q b=>
 xcond q
 (oP E (fA 56 x3 4) b fun r s=>
 oP E (lA 24 r) s fun t u=>
 oP E (iA 24 t x8) u fun v y=>
 oP E (lA 56 v) y fun z aa=>
 oP E (xCall (fC 72) [x0,z]) aa fun _t145_155 ab=>
 oP E (bC .add 3 137 x8 (vI 1)) ab fun ac ad=>
 next6 [ac] ad)
 (j4 [] b)
def c5m(x0 x3 w)(R:RT)(E):=
 ∀_τ:Fr,(xcut (fun _ a=>c5l x0 x3 a R E) fun j4=>
 xloop [8] [(vI 0)] w fun b c next6=>
 d3j x0 x3 (b 8) c next6 j4 R E)
def d3k(x0 x3 x7 w)(next7:NT)(j3:NT)(_R:RT)(E):=
 opK pG E (fA 56 x3 2) w fun c d=>
 oP E (lA 38 c) d fun e f=>
 oP E (xBuiltin .len #[38] 3 [false] [e]) f fun g i=>
 oP E (bN .lss 3 106 109 x7 g) i fun a j=>
 oP E (gT a (xNil (zT a x0))) j fun k l=>
 oP E (gT a (fA 123 k 0)) l fun m n=>
 oP E (gT a (lA 4 m)) n fun o p=>
 oP E (xPick a o (vB false)) p fun q b=>
 xcond q
 (oP E (fA 56 x3 2) b fun r s=>
 oP E (lA 38 r) s fun t u=>
 oP E (iA 38 t x7) u fun v y=>
 oP E (lA 40 v) y fun z aa=>
 oP E (xCall (fC 85) [x0,z]) aa fun _t125_187 ab=>
 oP E (bC .add 3 117 x7 (vI 1)) ab fun ac ad=>
 next7 [ac] ad)
 (j3 [] b)
def c5n(x0 x3 w)(R:RT)(E):=
 ∀_τ:Fr,(xcut (fun _ a=>c5m x0 x3 a R E) fun j3=>
 xloop [7] [(vI 0)] w fun b c next7=>
 d3k x0 x3 (b 7) c next7 j3 R E)
def d3l(x0 x3 x6 w)(next8:NT)(j2:NT)(_R:RT)(E):=
 opK pG E (fA 56 x3 3) w fun c d=>
 oP E (lA 47 c) d fun e f=>
 oP E (xBuiltin .len #[47] 3 [false] [e]) f fun g i=>
 oP E (bN .lss 3 86 89 x6 g) i fun a j=>
 oP E (gT a (xNil (zT a x0))) j fun k l=>
 oP E (gT a (fA 123 k 0)) l fun m n=>
 oP E (gT a (lA 4 m)) n fun o p=>
 oP E (xPick a o (vB false)) p fun q b=>
 xcond q
 (oP E (fA 56 x3 3) b fun r s=>
 oP E (lA 47 r) s fun t u=>
 oP E (iA 47 t x6) u fun v y=>
 oP E (lA 49 v) y fun z aa=>
 oP E (xCall (fC 92) [x0,z]) aa fun _t105_219 ab=>
 oP E (bC .add 3 97 x6 (vI 1)) ab fun ac ad=>
 next8 [ac] ad)
 (j2 [] b)
def c5o(x0 x3 x4 x5 w)(R:RT)(E):=
 ∀_τ:Fr,(oP E (fA 56 x3 1) w fun j k=>
 oP E (lA 9 j) k fun l m=>
 oP E (fA 56 x3 0) m fun n o=>
 oP E (lA 3 n) o fun p q=>
 oP E (bC .eql 3 30 p (vI 1)) q fun e r=>
 oP E (gF e (fA 56 x3 0)) r fun s t=>
 oP E (gF e (lA 3 s)) t fun u v=>
 oP E (gF e (bC .eql 3 34 u (vI 2))) v fun y z=>
 oP E (xPick e (vB true) y) z fun aa ab=>
 oP E (xCall (fC 71) [x0,l,aa]) ab fun _t37_21 ac=>
 oP E (xNil x0) ac fun ad ae=>
 oP E (fA 123 ad 0) ae fun af ag=>
 oP E (lA 4 af) ag fun c ah=>
 oP E (gT c (fA 56 x3 2)) ah fun ai aj=>
 oP E (gT c (lA 38 ai)) aj fun ak al=>
 oP E (gT c (xBuiltin .len #[38] 3 [false] [ak])) al fun am an=>
 oP E (gT c (bN .eql 3 46 47 am (zT c x4))) an fun ao ap=>
 oP E (xPick c ao (vB false)) ap fun d aq=>
 oP E (gT d (fA 56 x3 3)) aq fun ar au=>
 oP E (gT d (lA 47 ar)) au fun av aw=>
 oP E (gT d (xBuiltin .len #[47] 3 [false] [av])) aw fun ax ay=>
 oP E (gT d (bN .eql 3 53 54 ax (zT d x5))) ay fun az ba=>
 oP E (xPick d az (vB false)) ba fun a bb=>
 oP E (gT a (fA 56 x3 4)) bb fun bc bd=>
 oP E (gT a (lA 24 bc)) bd fun be bf=>
 oP E (gT a (xBuiltin .len #[24] 3 [false] [be])) bf fun bg bh=>
 oP E (gT a (bC .eql 3 60 bg (vI 0))) bh fun f bi=>
 oP E (gsem (asB (zT a f)) false (fA 56 x3 0)) bi fun bj bk=>
 oP E (gsem (asB (zT a f)) false (lA 3 bj)) bk fun bl bm=>
 oP E (gsem (asB (zT a f)) false (bC .eql 3 64 bl (vI 3))) bm fun bn bo=>
 oP E (gT a (xPick (zT a f) (vB true) bn)) bo fun g bp=>
 oP E (gsem (asB (zT a g)) false (fA 56 x3 0)) bp fun bq br=>
 oP E (gsem (asB (zT a g)) false (lA 3 bq)) br fun bs bt=>
 oP E (gsem (asB (zT a g)) false (bC .eql 3 69 bs (vI 4))) bt fun bu bv=>
 oP E (gT a (xPick (zT a g) (vB true) bu)) bv fun bw bz=>
 oP E (xPick a bw (vB false)) bz fun b ca=>
 oP E (gT b (fA 56 x3 5)) ca fun cb cc=>
 oP E (gT b (lA 24 cb)) cc fun cd ce=>
 oP E (gT b (xBuiltin .len #[24] 3 [false] [cd])) ce fun cf cg=>
 oP E (gT b (bC .eql 3 76 cf (vI 0))) cg fun i ch=>
 oP E (gsem (asB (zT b i)) false (fA 56 x3 0)) ch fun ci cj=>
 oP E (gsem (asB (zT b i)) false (lA 3 ci)) cj fun ck cl=>
 oP E (gsem (asB (zT b i)) false (bC .eql 3 80 ck (vI 3))) cl fun cm cn=>
 oP E (gT b (xPick (zT b i) (vB true) cm)) cn fun co cp=>
 oP E (xPick b co (vB false)) cp fun cq cr=>
 oP E (xNil x0) cr fun cs ct=>
 oP E (fA 123 cs 0) ct fun cu cv=>
 oP E (sA 4 cu cq) cv fun _ cw=>
 xcut (fun _ cx=>c5n x0 x3 cx R E) fun j2=>
 xloop [6] [(vI 0)] cw fun cy cz next8=>
 d3l x0 x3 (cy 6) cz next8 j2 R E)
def c5p(x0 _x3 x4 x5 x11 x19:Value)(w)(j1:NT)(_R:RT)(E):=
 ∀_τ:Fr,(xcond x19
 (j1 [x4,(vI 1)] w)
 (oP E (bC .eql 3 11 x11 (vI 7)) w fun b a=>
 xcond b
 (j1 [x4,x5] a)
 (oP E (xNil x0) a fun c d=>
 oP E (fA 123 c 0) d fun e f=>
 oP E (sA 4 e (vB false)) f fun _ g=>
 j1 [x4,x5] g)))
def F72(x0 x1 w)(R:RT)(E):=
 opK pG E (xV (Instr.box 56 x1)) w fun b m=>
 xcut (fun c n=>c5o x0 b (nth c 0) (nth c.tail 0) n R E) fun j1=>
 oP E (fA 56 b 0) m fun o p=>
 oP E (lA 3 o) p fun a q=>
 oP E (bC .eql 3 11 a (vI 1)) q fun r d=>
 xcond r
 (j1 [(vI 1),(vI 0)] d)
 (oP E (bC .eql 3 11 a (vI 2)) d fun s e=>
 xcond s
 (j1 [(vI 2),(vI 0)] e)
 (xcut (fun t u=>c5p x0 b (vI 0) (vI 0) a (nth t 0) u j1 R E) fun j9=>
 oP E (bC .eql 3 11 a (vI 3)) e fun f g=>
 xcond f
 (j9 [f] g)
 (oP E (bC .eql 3 11 a (vI 4)) g fun i j=>
 xcond i
 (j9 [i] j)
 (oP E (bC .eql 3 11 a (vI 5)) j fun k l=>
 xcond k
 (j9 [k] l)
 (oP E (bC .eql 3 11 a (vI 6)) l fun v y=>
 j9 [v] y)))))
def h72:Hint:=(sQ (sQ (hU [4,5] (sQ (hB (sQ (hC hN (sQ (hC hN (hU [19] (sQ (hC hN (sQ (hC hN (sQ (hC hN hN)))))) (hC hN (sQ (hC hN hN)))))))))) (sQ (sQ (hU [] (sQ (hB (hL [6] (hS (sQ (hC hN hN)) (hS (hB hN) hN))))) (hU [] (sQ (hB (hL [7] (hS (sQ (hC hN hN)) (hS (hB hN) hN))))) (hU [] (sQ (hB (hL [8] (hS (sQ (hC hN hN)) (hS (hB hN) hN))))) (sQ (hB (hL [9] (hS (sQ (hC hN hN)) (hS (hB hN) hN)))))))))))))
theorem d3m{x0 x1:Value}(h:F72 x0 x1 w R E):Cv pG 72 #[x0,x1] w R E:=okF (h:=h72) Tryz.func72 (by kernel_rfl) (by kernel_rfl) h
def F73(x0 w)(R:RT)(E):=
 opK pG E (xV (Instr.box 123 x0)) w fun a d=>
 oP E (fA 123 a 0) d fun e f=>
 oP E (lA 4 e) f fun g i=>
 oP E (xV (Op.unary .not g)) i fun j b=>
 xcond j
 (R (vI 30) b)
 (oP E (fA 123 a 1) b fun k l=>
 oP E (lA 4 k) l fun m n=>
 oP E (xV (Op.unary .not m)) n fun o c=>
 xcond o
 (R (vI 31) c)
 (R (vI 0) c))
def h73:Hint:=(sQ (hS (sQ (hC (sQ hN) hN)) (hS (sQ (hC (sQ hN) hN)) (sQ hN))))
theorem d3n{x0:Value}(h:F73 x0 w R E):Cv pG 73 #[x0] w R E:=okF (h:=h73) Tryz.func73 (by kernel_rfl) (by kernel_rfl) h
def c5q(x3 w)(R:RT)(E):=
 ∀_τ:Fr,(oP E (lA 80 x3) w fun a b=>
 R a b)
def F74(x0 w)(R:RT)(E):=
 opK pG E (xV (Instr.build 79 #[])) w fun f g=>
 oP E (xV (Instr.box 79 f)) g fun i j=>
 oP E (xV (Instr.alloc 80 true (.tuple #[]))) j fun a k=>
 oP E (sA 80 a i) k fun _ l=>
 oP E (xV (Instr.alloc 169 true (.tuple #[]))) l fun b m=>
 oP E (xV (Instr.makeFunc (.func 118) #[] #[a,b])) m fun n o=>
 oP E (sA 169 b n) o fun _ p=>
 xcut (fun _ q=>c5q a q R E) fun j1=>
 oP E (lA 169 b) p fun r s=>
 oP E (xCall r [x0,(vI 1)]) s fun t u=>
 oP E (xV (Op.unary .not t)) u fun v c=>
 xcond v
 (j1 [] c)
 (oP E (lA 80 a) c fun y z=>
 oP E (xNil y) z fun aa ab=>
 oP E (fA 79 aa 3) ab fun ac ad=>
 oP E (lA 4 ac) ad fun ae d=>
 xcond ae
 (oP E (lA 80 a) d fun af ag=>
 oP E (xNil af) ag fun ah ai=>
 oP E (fA 79 ah 2) ai fun aj ak=>
 oP E (sA 29 aj (vI 30)) ak fun _ al=>
 j1 [] al)
 (oP E (lA 80 a) d fun am an=>
 oP E (xNil am) an fun ao ap=>
 oP E (fA 79 ao 4) ap fun aq ar=>
 oP E (lA 4 aq) ar fun au e=>
 xcond au
 (oP E (lA 80 a) e fun av aw=>
 oP E (xNil av) aw fun ax ay=>
 oP E (fA 79 ax 2) ay fun az ba=>
 oP E (sA 29 az (vI 31)) ba fun _ bb=>
 j1 [] bb)
 (j1 [] e)))
def h74:Hint:=(sQ (sQ (sQ (sQ (hU [] (sQ (hB (sQ (hC hN (sQ (hC hN (sQ (hC hN hN)))))))) (sQ hN))))))
theorem d3o{x0:Value}(h:F74 x0 w R E):Cv pG 74 #[x0] w R E:=okF (h:=h74) Tryz.func74 (by kernel_rfl) (by kernel_rfl) h
def c5r(x6 w)(R:RT)(_E:Pan):=
 ∀_τ:Fr,(R x6 w)
def d3p(x6 x25 x26 x27 w)(next3:NT)(j2:NT)(_R:RT)(E):=
 opK pG E (bN .lss 3 27 26 x27 x26) w fun b a=>
 xcond b
 (oP E (iA 172 x25 x27) a fun c d=>
 oP E (lA 128 c) d fun e f=>
 oP E (xBuiltin .append #[128,128] 128 [false,false] [x6,e]) f fun g i=>
 oP E (bC .add 3 27 x27 (vI 1)) i fun j k=>
 next3 [g,j] k)
 (j2 [x6] a)
def c5s(x0 x3 w)(R:RT)(E):=
 ∀_τ:Fr,(oP E (xCall (fC 120) [(nS),x3]) w fun b c=>
 xcut (fun d e=>c5r (nth d 0) e R E) fun j2=>
 oP E (xBuiltin .len #[172] 3 [false] [x0]) c fun f g=>
 xloop [6,27] [b,(vI 0)] g fun a i next3=>
 d3p (a 6) x0 f (a 27) i next3 j2 R E)
def c5t(_x0 x3 _x9 _x10 x11:Value)(w)(next4:NT)(_R:RT)(E):=
 ∀_τ:Fr,(oP E (bC .add 3 11 x11 (vI 1)) w fun a b=>
 next4 [x3,a] b)
def d3q(x0 x3 x9 x10 x11 w)(next4:NT)(j1:NT)(R:RT)(E):=
 opK pG E (bN .lss 3 11 10 x11 x10) w fun d b=>
 xcond d
 (xcut (fun e f=>c5t x0 (nth e 0) x9 x10 x11 f next4 R E) fun j5=>
 oP E (iA 172 x9 x11) b fun g i=>
 oP E (lA 128 g) i fun j k=>
 oP E (xBuiltin .len #[128] 3 [false] [j]) k fun l m=>
 oP E (bN .add 3 15 17 x3 l) m fun a n=>
 oP E (bC .lss 3 19 a (vI 0)) n fun o c=>
 xcond o
 (oP E (xV (Instr.makeInterface 9 (Value.string ⟨#[108,101,110,32,111,117,116,32,111,102,32,114,97,110,103,101]⟩))) c fun p q=>
 oP E (xV (Instr.panic p)) q fun _ r=>
 j5 [a] r)
 (j5 [a] c))
 (j1 [x3] b)
def F75(x0 w)(R:RT)(E):=
 xcut (fun b c=>c5s x0 (nth b 0) c R E) fun j1=>
 oP E (xBuiltin .len #[172] 3 [false] [x0]) w fun d e=>
 xloop [3,11] [(vI 0),(vI 0)] e fun a f next4=>
 d3q x0 (a 3) x0 d (a 11) f next4 j1 R E
def h75:Hint:=(sQ (sQ (hU [3] (sQ (hB (hL [3,11] (sQ (hS (hC hN hN) (hU [3] (hB (sQ (sQ (sQ (hC hN hN))))) hN)))))) (sQ (hU [6] (sQ (hB (hL [6,27] (sQ (hS (hC hN hN) (hS (hB (sQ hN)) hN)))))) (sQ hN))))))
theorem d3r{x0:Value}(h:F75 x0 w R E):Cv pG 75 #[x0] w R E:=okF (h:=h75) Tryz.func75 (by kernel_rfl) (by kernel_rfl) h
def c5u(x5 w)(R:RT)(_E:Pan):=
 ∀_τ:Fr,(R x5 w)
def d3s(x1 x5 x8 x9 x10 w)(next2:NT)(j1:NT)(_R:RT)(E):=
 opK pG E (bN .lss 3 10 9 x10 x9) w fun c a=>
 xcond c
 (oP E (iA 23 x8 x10) a fun d e=>
 oP E (lA 68 d) e fun f g=>
 oP E (xV (Instr.alloc 68 true (.tuple #[]))) g fun b i=>
 oP E (sA 68 b f) i fun _ j=>
 oP E (lA 68 b) j fun k l=>
 oP E (xCall x1 [k]) l fun m n=>
 oP E (xV (Instr.buildSlice 128 1 #[(0,m)])) n fun o p=>
 oP E (xBuiltin .append #[128,128] 128 [false,false] [x5,o]) p fun q r=>
 oP E (bC .add 3 10 x10 (vI 1)) r fun s t=>
 next2 [q,s] t)
 (j1 [x5] a)
def F76(x0 x1 w)(R:RT)(E):=
 xcut (fun b c=>c5u (nth b 0) c R E) fun j1=>
 oP E (xBuiltin .len #[23] 3 [false] [x0]) w fun d e=>
 xloop [5,10] [(nS),(vI 0)] e fun a f next2=>
 d3s x1 (a 5) x0 d (a 10) f next2 j1 R E
def h76:Hint:=(sQ (sQ (hU [5] (sQ (hB (hL [5,10] (sQ (hS (hC hN hN) (hS (hB (sQ hN)) hN)))))) (sQ hN))))
theorem d3t{x0 x1:Value}(h:F76 x0 x1 w R E):Cv pG 76 #[x0,x1] w R E:=okF (h:=h76) Tryz.func76 (by kernel_rfl) (by kernel_rfl) h
def F77(x0 w)(R:RT)(E):=
 opK pG E (xV (Instr.box 68 x0)) w fun a b=>
 oP E (lA 68 a) b fun c d=>
 oP E (xV (Instr.build 175 #[(0,c)])) d fun e f=>
 oP E (xV (Instr.makeInterface 175 e)) f fun g i=>
 R g i
def h77:Hint:=(sQ (sQ hN))
theorem d3u{x0:Value}(h:F77 x0 w R E):Cv pG 77 #[x0] w R E:=okF (h:=h77) Tryz.func77 (by kernel_rfl) (by kernel_rfl) h
def c5v(x5 w)(R:RT)(_E:Pan):=
 ∀_τ:Fr,(R x5 w)
def d3v(x1 x5 x8 x9 x10 w)(next2:NT)(j1:NT)(_R:RT)(E):=
 opK pG E (bN .lss 3 10 9 x10 x9) w fun c a=>
 xcond c
 (oP E (iA 24 x8 x10) a fun d e=>
 oP E (lA 56 d) e fun f g=>
 oP E (xV (Instr.alloc 56 true (.tuple #[]))) g fun b i=>
 oP E (sA 56 b f) i fun _ j=>
 oP E (lA 56 b) j fun k l=>
 oP E (xCall x1 [k]) l fun m n=>
 oP E (xV (Instr.buildSlice 128 1 #[(0,m)])) n fun o p=>
 oP E (xBuiltin .append #[128,128] 128 [false,false] [x5,o]) p fun q r=>
 oP E (bC .add 3 10 x10 (vI 1)) r fun s t=>
 next2 [q,s] t)
 (j1 [x5] a)
def F78(x0 x1 w)(R:RT)(E):=
 xcut (fun b c=>c5v (nth b 0) c R E) fun j1=>
 oP E (xBuiltin .len #[24] 3 [false] [x0]) w fun d e=>
 xloop [5,10] [(nS),(vI 0)] e fun a f next2=>
 d3v x1 (a 5) x0 d (a 10) f next2 j1 R E
def h78:Hint:=(sQ (sQ (hU [5] (sQ (hB (hL [5,10] (sQ (hS (hC hN hN) (hS (hB (sQ hN)) hN)))))) (sQ hN))))
theorem d3w{x0 x1:Value}(h:F78 x0 x1 w R E):Cv pG 78 #[x0,x1] w R E:=okF (h:=h78) Tryz.func78 (by kernel_rfl) (by kernel_rfl) h
def F79(x0 w)(R:RT)(E):=
 opK pG E (xV (Instr.box 56 x0)) w fun a b=>
 oP E (lA 56 a) b fun c d=>
 oP E (xV (Instr.build 177 #[(0,c)])) d fun e f=>
 oP E (xV (Instr.makeInterface 177 e)) f fun g i=>
 R g i
def h79:Hint:=(sQ (sQ hN))
theorem d3x{x0:Value}(h:F79 x0 w R E):Cv pG 79 #[x0] w R E:=okF (h:=h79) Tryz.func79 (by kernel_rfl) (by kernel_rfl) h
def c0j(x6 x7 w)(R:RT)(E):=
 ∀_τ:Fr,(oP E (lA 40 x7) w fun b c=>
 oP E (sA 40 x6 b) c fun _ a=>
 xcell pG 40 x6 a fun d=>
 R d a)
def c5w(x0 x1 x5 _x6 x7 x8:Value)(w)(next2:NT)(j1:NT)(_R:RT)(E):=
 opK pG E (bC .neq 3 16 x8 (vI 0)) w fun g d=>
 xcond g
 (dX d fun a=>
 qP pG (fA 139 x5 2) fun e=>
 qL pG a (blk x7) (lA 40 x7) fun i=>
 qL pG a (blk e) (lA 83 e) fun j=>
 oP E (xCall j [x1]) a fun k b=>
 keepX [(blk x7)] a b (opK pG E (xV (Instr.buildSlice 38 2 #[(0,i),(1,k)])) b fun l c=>
 keepX [] b c (qP pG (xV (Instr.build 40 #[(0,x8),(3,l)])) fun m=>
 oP E (sA 40 x7 m) c fun _ f=>
 keepX [] c f (opK pG E (lA 139 x5) f fun n o=>
 oP E (xCall (fC 121) [x0,n]) o fun p q=>
 next2 [p] q))))
 (j1 [] d)
def F81(x0 x1 x2 w)(R:RT)(E):=
 opK pG E (xV (Instr.box 139 x2)) w fun a d=>
 oP E (xV (Instr.alloc 40 true (.tuple #[]))) d fun c e=>
 oP E (fA 139 a 2) e fun f g=>
 oP E (lA 83 f) g fun i j=>
 oP E (xCall i [x1]) j fun k l=>
 oP E (xV (Instr.alloc 40 true (.tuple #[]))) l fun b m=>
 oP E (sA 40 b k) m fun _ n=>
 xcut (fun _ o=>c0j c b o R E) fun j1=>
 oP E (lA 139 a) n fun p q=>
 oP E (xCall (fC 121) [x0,p]) q fun r s=>
 xloop [8] [r] s fun t u next2=>
 c5w x0 x1 a c b (t 8) u next2 j1 R E
def h81:Hint:=(sQ (sQ (hU [] (sQ (hB (hL [8] (hS (sQ (hC hN hN)) (hS (hB (.reg [(0,2097152,256),(0,4194304,128),(0,8388608,32),(4,16777216,8388608),(0,33554432,2),(24,67108864,50331648),(34,134217728,71303168),(65,268435456,136314880),(255,0,268435584)] [10,8,10,2,10,2,0,10,0] (.early 0 (.early 2 (.early 4 (.load 1 (.load 3 (.step 5 (.step 6 (.early 7 (.step 8 .done))))))))))) hN))))) (sQ hN))))
theorem d3y{x0 x1 x2:Value}(h:F81 x0 x1 x2 w R E):Cv pG 81 #[x0,x1,x2] w R E:=okF (h:=h81) Tryz.func81 (by kernel_rfl) (by kernel_rfl) h
def F82(x0 x1 w)(R:RT)(E):=
 opK pG E (xV (Instr.alloc 40 true (.tuple #[]))) w fun a c=>
 oP E (xV (Instr.buildSlice 77 3 #[(0,(Value.string ⟨#[42]⟩)),(1,(Value.string ⟨#[47]⟩)),(2,(Value.string ⟨#[37]⟩))])) c fun d e=>
 oP E (xV (Instr.buildSlice 137 3 #[(0,(vI 8)),(1,(vI 9)),(2,(vI 10))])) e fun f g=>
 oP E (xV (Instr.makeFunc (.func 122) #[x0] #[])) g fun i j=>
 oP E (xV (Instr.build 139 #[(0,d),(1,f),(2,i)])) j fun k l=>
 oP E (xCall (fC 81) [x0,x1,k]) l fun m n=>
 oP E (sA 40 a m) n fun _ b=>
 xcell pG 40 a b fun o=>
 R o b
def h82:Hint:=(sQ (sQ hN))
theorem d3z{x0 x1:Value}(h:F82 x0 x1 w R E):Cv pG 82 #[x0,x1] w R E:=okF (h:=h82) Tryz.func82 (by kernel_rfl) (by kernel_rfl) h
def c5x(x4 x5 w)(R:RT)(E):=
 ∀_τ:Fr,(oP E (lA 40 x5) w fun b c=>
 oP E (sA 40 x4 b) c fun _ a=>
 xcell pG 40 x4 a fun d=>
 R d a)
def d3A(x0 x1 _x4 x5 x6:Value)(w)(next2:NT)(j1:NT)(_R:RT)(E):=
 opK pG E (bC .neq 3 12 x6 (vI 0)) w fun f d=>
 xcond f
 (oP E (xNil x0) d fun g i=>
 oP E (fA 66 g 1) i fun j k=>
 oP E (lA 3 j) k fun l m=>
 oP E (bC .add 3 19 l (vI 1)) m fun n o=>
 oP E (xNil x0) o fun p q=>
 oP E (fA 66 p 1) q fun r s=>
 oP E (sA 3 r n) s fun _ t=>
 dX t fun a=>
 qL pG a (blk x5) (lA 40 x5) fun u=>
 oP E (xCall (fC 123) [x0,x1]) a fun v b=>
 keepX [(blk x5)] a b (opK pG E (xV (Instr.buildSlice 38 2 #[(0,u),(1,v)])) b fun y c=>
 keepX [] b c (qP pG (xV (Instr.build 40 #[(0,x6),(3,y)])) fun z=>
 oP E (sA 40 x5 z) c fun _ e=>
 keepX [] c e (opK pG E (xCall (fC 124) [x0]) e fun aa ab=>
 next2 [aa] ab))))
 (j1 [] d)
def F83(x0 x1 w)(R:RT)(E):=
 opK pG E (xV (Instr.alloc 40 true (.tuple #[]))) w fun b c=>
 oP E (xCall (fC 123) [x0,x1]) c fun d e=>
 oP E (xV (Instr.alloc 40 true (.tuple #[]))) e fun a f=>
 oP E (sA 40 a d) f fun _ g=>
 xcut (fun _ i=>c5x b a i R E) fun j1=>
 oP E (xCall (fC 124) [x0]) g fun j k=>
 xloop [6] [j] k fun l m next2=>
 d3A x0 x1 b a (l 6) m next2 j1 R E
def h83:Hint:=(sQ (sQ (hU [] (sQ (hB (hL [6] (hS (sQ (hC hN hN)) (hS (hB (sQ (.reg [(0,8388608,64),(0,16777216,32),(0,33554432,1),(0,67108864,2),(12,134217728,100663296),(18,268435456,150994944),(33,536870912,276824064),(127,0,536870944)] [2,0,2,2,2,0,2,0] (.early 0 (.early 2 (.early 3 (.load 1 (.step 4 (.step 5 (.early 6 (.step 7 .done))))))))))) hN))))) (sQ hN))))
theorem d3B{x0 x1:Value}(h:F83 x0 x1 w R E):Cv pG 83 #[x0,x1] w R E:=okF (h:=h83) Tryz.func83 (by kernel_rfl) (by kernel_rfl) h
def d3C(x0 x2 x4 x6 w)(next1:NT)(R:RT)(E):=
 opK pG E (fA 40 x4 3) w fun c d=>
 oP E (lA 38 c) d fun e f=>
 oP E (xBuiltin .len #[38] 3 [false] [e]) f fun g i=>
 oP E (bN .lss 3 11 14 x6 g) i fun a j=>
 oP E (gT a (xNil (zT a x0))) j fun k l=>
 oP E (gT a (fA 120 k 2)) l fun m n=>
 oP E (gT a (lA 3 m)) n fun o p=>
 oP E (gT a (bC .eql 3 20 o (vI 0))) p fun q r=>
 oP E (xPick a q (vB false)) r fun s b=>
 xcond s
 (oP E (fA 40 x4 3) b fun t u=>
 oP E (lA 38 t) u fun v y=>
 oP E (iA 38 v x6) y fun z aa=>
 oP E (lA 40 z) aa fun ab ac=>
 oP E (bC .add 3 31 x2 (vI 1)) ac fun ad ae=>
 oP E (xCall (fC 84) [x0,ab,ad]) ae fun _t33_35 af=>
 oP E (bC .add 3 23 x6 (vI 1)) af fun ag ah=>
 next1 [ag] ah)
 (R (Value.tuple #[]) b)
def F84(x0 x1 x2 w)(R:RT)(E):=
 opK pG E (xV (Instr.box 40 x1)) w fun b c=>
 oP E (xCall (fC 115) [x0,x2]) c fun d e=>
 oP E (xV (Op.unary .not d)) e fun f a=>
 xcond f
 (R (Value.tuple #[]) a)
 (xloop [6] [(vI 0)] a fun g i next1=>
 d3C x0 x2 b (g 6) i next1 R E)
def h84:Hint:=(sQ (hS (sQ (hC hN hN)) (sQ (hB (hL [6] (hS (sQ (hC hN hN)) (hS (hB hN) hN)))))))
theorem d3D{x0 x1 x2:Value}(h:F84 x0 x1 x2 w R E):Cv pG 84 #[x0,x1,x2] w R E:=okF (h:=h84) Tryz.func84 (by kernel_rfl) (by kernel_rfl) h
def d3E(x0 x3 x5 w)(next2:NT)(R:RT)(E):=
 opK pG E (fA 40 x3 3) w fun c d=>
 oP E (lA 38 c) d fun e f=>
 oP E (xBuiltin .len #[38] 3 [false] [e]) f fun g i=>
 oP E (bN .lss 3 65 68 x5 g) i fun a j=>
 oP E (gT a (xNil (zT a x0))) j fun k l=>
 oP E (gT a (fA 123 k 0)) l fun m n=>
 oP E (gT a (lA 4 m)) n fun o p=>
 oP E (xPick a o (vB false)) p fun q b=>
 xcond q
 (oP E (fA 40 x3 3) b fun r s=>
 oP E (lA 38 r) s fun t u=>
 oP E (iA 38 t x5) u fun v y=>
 oP E (lA 40 v) y fun z aa=>
 oP E (xCall (fC 85) [x0,z]) aa fun _t84_93 ab=>
 oP E (bC .add 3 76 x5 (vI 1)) ab fun ac ad=>
 next2 [ac] ad)
 (R (Value.tuple #[]) b)
def c5y(x0 x3 x4 w)(R:RT)(E):=
 ∀_τ:Fr,(oP E (fA 40 x3 2) w fun f g=>
 oP E (lA 9 f) g fun i j=>
 oP E (fA 40 x3 0) j fun k l=>
 oP E (lA 3 k) l fun m n=>
 oP E (bC .eql 3 28 m (vI 2)) n fun d o=>
 oP E (gF d (fA 40 x3 0)) o fun p q=>
 oP E (gF d (lA 3 p)) q fun r s=>
 oP E (gF d (bC .eql 3 32 r (vI 4))) s fun t u=>
 oP E (xPick d (vB true) t) u fun v y=>
 oP E (xCall (fC 71) [x0,i,v]) y fun _t35_21 z=>
 oP E (xNil x0) z fun aa ab=>
 oP E (fA 123 aa 0) ab fun ac ad=>
 oP E (lA 4 ac) ad fun c ae=>
 oP E (gT c (fA 40 x3 3)) ae fun af ag=>
 oP E (gT c (lA 38 af)) ag fun ah ai=>
 oP E (gT c (xBuiltin .len #[38] 3 [false] [ah])) ai fun aj ak=>
 oP E (gT c (bN .eql 3 44 45 aj (zT c x4))) ak fun al am=>
 oP E (xPick c al (vB false)) am fun a an=>
 oP E (gT a (fA 40 x3 1)) an fun ao ap=>
 oP E (gT a (lA 2 ao)) ap fun aq ar=>
 oP E (gT a (bC .eql 2 50 aq (vI 0))) ar fun b au=>
 oP E (gsem (asB (zT a b)) false (fA 40 x3 0)) au fun av aw=>
 oP E (gsem (asB (zT a b)) false (lA 3 av)) aw fun ax ay=>
 oP E (gsem (asB (zT a b)) false (bC .eql 3 54 ax (vI 1))) ay fun e az=>
 oP E (gsem (asB (gval (asB (zT a b)) false e)) true (fA 40 x3 1)) az fun ba bb=>
 oP E (gsem (asB (gval (asB (zT a b)) false e)) true (lA 2 ba)) bb fun bc bd=>
 oP E (gsem (asB (gval (asB (zT a b)) false e)) true (bC .gtr 2 58 bc (vI 0))) bd fun be bf=>
 oP E (gsem (asB (zT a b)) false (xPick (gval (asB (zT a b)) false e) be (vB false))) bf fun bg bh=>
 oP E (gT a (xPick (zT a b) (vB true) bg)) bh fun bi bj=>
 oP E (xPick a bi (vB false)) bj fun bk bl=>
 oP E (xNil x0) bl fun bm bn=>
 oP E (fA 123 bm 0) bn fun bo bp=>
 oP E (sA 4 bo bk) bp fun _ bq=>
 xloop [5] [(vI 0)] bq fun br bs next2=>
 d3E x0 x3 (br 5) bs next2 R E)
def c5z(x0 _x3 x4 x18:Value)(w)(j1:NT)(_R:RT)(E):=
 ∀_τ:Fr,(xcond x18
 (j1 [(vI 2)] w)
 (oP E (xNil x0) w fun a b=>
 oP E (fA 123 a 0) b fun c d=>
 oP E (sA 4 c (vB false)) d fun _ e=>
 j1 [x4] e))
def c5A(x0 x3 x4 x7 x15 w)(j1:NT)(R:RT)(E):=
 ∀_τ:Fr,(xcond x15
 (j1 [(vI 1)] w)
 (xcut (fun j k=>c5z x0 x3 x4 (nth j 0) k j1 R E) fun j5=>
 oP E (bC .eql 3 7 x7 (vI 6)) w fun a b=>
 xcond a
 (j5 [a] b)
 (oP E (bC .eql 3 7 x7 (vI 7)) b fun c d=>
 xcond c
 (j5 [c] d)
 (oP E (bC .eql 3 7 x7 (vI 8)) d fun e f=>
 xcond e
 (j5 [e] f)
 (oP E (bC .eql 3 7 x7 (vI 9)) f fun g i=>
 xcond g
 (j5 [g] i)
 (oP E (bC .eql 3 7 x7 (vI 10)) i fun l m=>
 j5 [l] m))))))
def c5B(x0 x3 x4 x7 x11 w)(j1:NT)(R:RT)(E):=
 ∀_τ:Fr,(xcond x11
 (j1 [x4] w)
 (xcut (fun c d=>c5A x0 x3 x4 x7 (nth c 0) d j1 R E) fun j4=>
 oP E (bC .eql 3 7 x7 (vI 4)) w fun a b=>
 xcond a
 (j4 [a] b)
 (oP E (bC .eql 3 7 x7 (vI 5)) b fun e f=>
 j4 [e] f)))
def F85(x0 x1 w)(R:RT)(E):=
 opK pG E (xV (Instr.box 40 x1)) w fun b g=>
 xcut (fun i j=>c5y x0 b (nth i 0) j R E) fun j1=>
 oP E (fA 40 b 0) g fun k l=>
 oP E (lA 3 k) l fun a m=>
 xcut (fun n o=>c5B x0 b (vI 0) a (nth n 0) o j1 R E) fun j3=>
 oP E (bC .eql 3 7 a (vI 1)) m fun c d=>
 xcond c
 (j3 [c] d)
 (oP E (bC .eql 3 7 a (vI 2)) d fun e f=>
 xcond e
 (j3 [e] f)
 (oP E (bC .eql 3 7 a (vI 3)) f fun p q=>
 j3 [p] q))
def h85:Hint:=(sQ (sQ (hU [4] (sQ (hB (hU [11] (sQ (hC hN (sQ (hC hN hN)))) (hC hN (hU [15] (sQ (hC hN hN)) (hC hN (hU [18] (sQ (hC hN (sQ (hC hN (sQ (hC hN (sQ (hC hN hN)))))))) (hC hN hN)))))))) (sQ (sQ (sQ (hB (hL [5] (hS (sQ (hC hN hN)) (hS (hB hN) hN))))))))))
theorem d3F{x0 x1:Value}(h:F85 x0 x1 w R E):Cv pG 85 #[x0,x1] w R E:=okF (h:=h85) Tryz.func85 (by kernel_rfl) (by kernel_rfl) h
def F87(x0 x1 w)(R:RT)(E):=
 opK pG E (xV (Instr.alloc 49 true (.tuple #[]))) w fun a c=>
 oP E (lA 60 x1) c fun d e=>
 oP E (lA 60 x1) e fun f g=>
 oP E (xV (Instr.makeFunc (.func 89) #[f] #[])) g fun i j=>
 oP E (xCall (fC 88) [d,x0,(Value.string ⟨#[38,38]⟩),(vI 5),i]) j fun k l=>
 oP E (sA 49 a k) l fun _ b=>
 xcell pG 49 a b fun m=>
 R m b
def h87:Hint:=(sQ (sQ hN))
theorem d3G{x0 x1:Value}(h:F87 x0 x1 w R E):Cv pG 87 #[x0,x1] w R E:=okF (h:=h87) Tryz.func87 (by kernel_rfl) (by kernel_rfl) h
def c0k(x10 x11 w)(R:RT)(E):=
 ∀_τ:Fr,(oP E (lA 49 x11) w fun b c=>
 oP E (sA 49 x10 b) c fun _ a=>
 xcell pG 49 x10 a fun d=>
 R d a)
def c5C(x0 x1 x2 x3 x4 _x10 x11:Value)(w)(next2:NT)(j1:NT)(_R:RT)(E):=
 opK pG E (xCall (fC 105) [x0,x2]) w fun f d=>
 xcond f
 (dX d fun a=>
 qL pG a (blk x11) (lA 49 x11) fun g=>
 oP E (xCall x4 [x1]) a fun i b=>
 keepX [(blk x11)] a b (opK pG E (xV (Instr.buildSlice 47 2 #[(0,g),(1,i)])) b fun j c=>
 keepX [] b c (qP pG (xV (Instr.build 49 #[(0,x3),(3,j)])) fun k=>
 oP E (sA 49 x11 k) c fun _ e=>
 keepX [] c e (next2 [] e))))
 (j1 [] d)
def F88(x0 x1 x2 x3 x4 w)(R:RT)(E):=
 opK pG E (xV (Instr.alloc 49 true (.tuple #[]))) w fun b c=>
 oP E (xCall x4 [x1]) c fun d e=>
 oP E (xV (Instr.alloc 49 true (.tuple #[]))) e fun a f=>
 oP E (sA 49 a d) f fun _ g=>
 xcut (fun _ i=>c0k b a i R E) fun j1=>
 xloop [] [] g fun _ j next2=>
 c5C x0 x1 x2 x3 x4 b a j next2 j1 R E
def h88:Hint:=(sQ (sQ (hU [] (hB (hL [] (hS (sQ (hC hN hN)) (hB (.reg [(0,262144,8),(0,524288,2048),(0,1048576,16),(0,2097152,2),(12,4194304,3145728),(18,8388608,4718592),(33,16777216,8650752),(127,0,16779264)] [2,0,2,2,2,0,2,0] (.early 0 (.early 2 (.early 3 (.load 1 (.step 4 (.step 5 (.early 6 (.step 7 .done))))))))))))) (sQ hN))))
theorem d3H{x0 x1 x2 x3 x4:Value}(h:F88 x0 x1 x2 x3 x4 w R E):Cv pG 88 #[x0,x1,x2,x3,x4] w R E:=okF (h:=h88) Tryz.func88 (by kernel_rfl) (by kernel_rfl) h
def c5D(x0 x1 x4 w)(R:RT)(E):=
 ∀_τ:Fr,(oP E (xCall (fC 35) [x0,x1]) w fun f g=>
 oP E (xV (Instr.alloc 40 true (.tuple #[]))) g fun a i=>
 oP E (sA 40 a f) i fun _ j=>
 oP E (xCall (fC 126) [x0]) j fun k l=>
 dX l fun b=>
 qL pG b (blk a) (lA 40 a) fun m=>
 oP E (xCall (fC 35) [x0,x1]) b fun n c=>
 keepX [(blk a)] b c (opK pG E (xV (Instr.buildSlice 38 2 #[(0,m),(1,n)])) c fun o d=>
 keepX [] c d (qP pG (xV (Instr.build 49 #[(0,(vI 3)),(1,k),(2,o)])) fun p=>
 oP E (sA 49 x4 p) d fun _ e=>
 keepX [] d e (xcell pG 49 x4 e fun q=>
 R q e))))
def F89(x0 x1 w)(R:RT)(E):=
 opK pG E (xV (Instr.alloc 49 true (.tuple #[]))) w fun a m=>
 xcut (fun _ n=>c5D x0 x1 a n R E) fun j1=>
 oP E (xCall (fC 125) [x0]) m fun o p=>
 oP E (xV (Op.unary .not o)) p fun q b=>
 xcond q
 (oP E (xCall (fC 52) [x0]) b fun _t13_27 r=>
 j1 [] r)
 (oP E (xCall (fC 105) [x0,(Value.string ⟨#[116,114,117,101]⟩)]) b fun s c=>
 xcond s
 (oP E (xV (Instr.build 49 #[(0,(vI 1))])) c fun t u=>
 oP E (sA 49 a t) u fun _ d=>
 xcell pG 49 a d fun v=>
 R v d)
 (oP E (xCall (fC 105) [x0,(Value.string ⟨#[102,97,108,115,101]⟩)]) c fun y e=>
 xcond y
 (oP E (xV (Instr.build 49 #[(0,(vI 2))])) e fun z aa=>
 oP E (sA 49 a z) aa fun _ f=>
 xcell pG 49 a f fun ab=>
 R ab f)
 (oP E (xCall (fC 105) [x0,(Value.string ⟨#[33]⟩)]) e fun ac g=>
 xcond ac
 (oP E (bC .add 3 26 x1 (vI 1)) g fun ad ae=>
 oP E (xCall (fC 125) [x0]) ae fun af ag=>
 oP E (xCall (fC 55) [x0,ad,af]) ag fun _t30_49 ah=>
 oP E (bC .add 3 32 x1 (vI 1)) ah fun ai aj=>
 oP E (xCall (fC 89) [x0,ai]) aj fun ak al=>
 oP E (xV (Instr.buildSlice 47 1 #[(0,ak)])) al fun am an=>
 oP E (xV (Instr.build 49 #[(0,(vI 4)),(3,am)])) an fun ao ap=>
 oP E (sA 49 a ao) ap fun _ i=>
 xcell pG 49 a i fun aq=>
 R aq i)
 (oP E (xCall (fC 105) [x0,(Value.string ⟨#[91]⟩)]) g fun ar j=>
 xcond ar
 (oP E (bC .add 3 41 x1 (vI 1)) j fun au av=>
 oP E (xCall (fC 125) [x0]) av fun aw ax=>
 oP E (xCall (fC 55) [x0,au,aw]) ax fun _t45_68 ay=>
 oP E (bC .add 3 47 x1 (vI 1)) ay fun az ba=>
 oP E (xCall (fC 41) [x0,az]) ba fun bb bc=>
 oP E (xV (Instr.alloc 49 true (.tuple #[]))) bc fun k bd=>
 oP E (sA 49 k bb) bd fun _ be=>
 oP E (xCall (fC 103) [x0,(Value.string ⟨#[93]⟩)]) be fun _t51_78 bf=>
 oP E (lA 49 k) bf fun bg bh=>
 oP E (sA 49 a bg) bh fun _ l=>
 xcell pG 49 a l fun bi=>
 R bi l)
 (j1 [] j)))))
def h89:Hint:=(sQ (hU [] (hB (sQ (hC hN (sQ (hC (sQ hN) (sQ (hC (sQ hN) (sQ (hC (sQ (sQ hN)) (sQ (hC (sQ (sQ (sQ (sQ hN)))) hN))))))))))) (sQ (sQ (hS (.reg [(0,288230376151711744,128),(0,576460752303423488,64),(0,1152921504606846976,1),(0,2305843009213693952,2),(12,4611686018427387904,3458764513820540928),(18,9223372036854775808,5188146770730811392),(33,18446744073709551616,9511602413006487552),(127,0,18446744073709551632)] [2,0,2,2,2,0,2,0] (.early 0 (.early 2 (.early 3 (.load 1 (.step 4 (.step 5 (.early 6 (.step 7 .done))))))))) hN)))))
theorem d3I{x0 x1:Value}(h:F89 x0 x1 w R E):Cv pG 89 #[x0,x1] w R E:=okF (h:=h89) Tryz.func89 (by kernel_rfl) (by kernel_rfl) h
def c5E(x4 x5 w)(R:RT)(E):=
 ∀_τ:Fr,(oP E (lA 49 x5) w fun b c=>
 oP E (sA 49 x4 b) c fun _ a=>
 xcell pG 49 x4 a fun d=>
 R d a)
def d3J(x0 x1 _x4 x5:Value)(w)(next2:NT)(j1:NT)(_R:RT)(E):=
 opK pG E (xCall (fC 67) [x0,(Value.string ⟨#[38,38]⟩)]) w fun f d=>
 xcond f
 (dX d fun a=>
 qL pG a (blk x5) (lA 49 x5) fun g=>
 oP E (xCall (fC 127) [x0,x1]) a fun i b=>
 keepX [(blk x5)] a b (opK pG E (xV (Instr.buildSlice 47 2 #[(0,g),(1,i)])) b fun j c=>
 keepX [] b c (qP pG (xV (Instr.build 49 #[(0,(vI 5)),(3,j)])) fun k=>
 oP E (sA 49 x5 k) c fun _ e=>
 keepX [] c e (next2 [] e))))
 (j1 [] d)
def F90(x0 x1 w)(R:RT)(E):=
 opK pG E (xV (Instr.alloc 49 true (.tuple #[]))) w fun b c=>
 oP E (xCall (fC 127) [x0,x1]) c fun d e=>
 oP E (xV (Instr.alloc 49 true (.tuple #[]))) e fun a f=>
 oP E (sA 49 a d) f fun _ g=>
 xcut (fun _ i=>c5E b a i R E) fun j1=>
 xloop [] [] g fun _ j next2=>
 d3J x0 x1 b a j next2 j1 R E
def h90:Hint:=(sQ (sQ (hU [] (hB (hL [] (hS (sQ (hC hN hN)) (hB (.reg [(0,2048,32),(0,4096,1),(0,8192,2),(6,16384,12288),(9,32768,18432),(16,65536,32768),(63,0,65568)] [0,1,1,1,0,1,0] (.early 1 (.early 2 (.load 0 (.step 3 (.step 4 (.early 5 (.step 6 .done)))))))))))) (sQ hN))))
theorem d3K{x0 x1:Value}(h:F90 x0 x1 w R E):Cv pG 90 #[x0,x1] w R E:=okF (h:=h90) Tryz.func90 (by kernel_rfl) (by kernel_rfl) h
def d3L(x0 x2 x4 x7 w)(next2:NT)(R:RT)(E):=
 opK pG E (fA 49 x4 3) w fun c d=>
 oP E (lA 47 c) d fun e f=>
 oP E (xBuiltin .len #[47] 3 [false] [e]) f fun g i=>
 oP E (bN .lss 3 35 38 x7 g) i fun a j=>
 oP E (gT a (xNil (zT a x0))) j fun k l=>
 oP E (gT a (fA 120 k 2)) l fun m n=>
 oP E (gT a (lA 3 m)) n fun o p=>
 oP E (gT a (bC .eql 3 44 o (vI 0))) p fun q r=>
 oP E (xPick a q (vB false)) r fun s b=>
 xcond s
 (oP E (fA 49 x4 3) b fun t u=>
 oP E (lA 47 t) u fun v y=>
 oP E (iA 47 v x7) y fun z aa=>
 oP E (lA 49 z) aa fun ab ac=>
 oP E (bC .add 3 55 x2 (vI 1)) ac fun ad ae=>
 oP E (xCall (fC 91) [x0,ab,ad]) ae fun _t57_35 af=>
 oP E (bC .add 3 47 x7 (vI 1)) af fun ag ah=>
 next2 [ag] ah)
 (R (Value.tuple #[]) b)
def c5F(x0 x2 x4 w)(R:RT)(E):=
 ∀_τ:Fr,(xloop [7] [(vI 0)] w fun a b next2=>
 d3L x0 x2 x4 (a 7) b next2 R E)
def d3M(x0 x2 x4 x6 w)(next3:NT)(j1:NT)(_R:RT)(E):=
 opK pG E (fA 49 x4 2) w fun c d=>
 oP E (lA 38 c) d fun e f=>
 oP E (xBuiltin .len #[38] 3 [false] [e]) f fun g i=>
 oP E (bN .lss 3 12 15 x6 g) i fun a j=>
 oP E (gT a (xNil (zT a x0))) j fun k l=>
 oP E (gT a (fA 120 k 2)) l fun m n=>
 oP E (gT a (lA 3 m)) n fun o p=>
 oP E (gT a (bC .eql 3 21 o (vI 0))) p fun q r=>
 oP E (xPick a q (vB false)) r fun s b=>
 xcond s
 (oP E (fA 49 x4 2) b fun t u=>
 oP E (lA 38 t) u fun v y=>
 oP E (iA 38 v x6) y fun z aa=>
 oP E (lA 40 z) aa fun ab ac=>
 oP E (bC .add 3 32 x2 (vI 1)) ac fun ad ae=>
 oP E (xCall (fC 84) [x0,ab,ad]) ae fun _t34_71 af=>
 oP E (bC .add 3 24 x6 (vI 1)) af fun ag ah=>
 next3 [ag] ah)
 (j1 [] b)
def F91(x0 x1 x2 w)(R:RT)(E):=
 opK pG E (xV (Instr.box 49 x1)) w fun a c=>
 oP E (xCall (fC 115) [x0,x2]) c fun d e=>
 oP E (xV (Op.unary .not d)) e fun f b=>
 xcond f
 (R (Value.tuple #[]) b)
 (xcut (fun _ g=>c5F x0 x2 a g R E) fun j1=>
 xloop [6] [(vI 0)] b fun i j next3=>
 d3M x0 x2 a (i 6) j next3 j1 R E)
def h91:Hint:=(sQ (hS (sQ (hC hN hN)) (hU [] (sQ (hB (hL [6] (hS (sQ (hC hN hN)) (hS (hB hN) hN))))) (sQ (hB (hL [7] (hS (sQ (hC hN hN)) (hS (hB hN) hN))))))))
theorem d3N{x0 x1 x2:Value}(h:F91 x0 x1 x2 w R E):Cv pG 91 #[x0,x1,x2] w R E:=okF (h:=h91) Tryz.func91 (by kernel_rfl) (by kernel_rfl) h
def d3O(x0 x3 x8 w)(next4:NT)(R:RT)(E):=
 opK pG E (fA 49 x3 3) w fun c d=>
 oP E (lA 47 c) d fun e f=>
 oP E (xBuiltin .len #[47] 3 [false] [e]) f fun g i=>
 oP E (bN .lss 3 82 85 x8 g) i fun a j=>
 oP E (gT a (xNil (zT a x0))) j fun k l=>
 oP E (gT a (fA 123 k 0)) l fun m n=>
 oP E (gT a (lA 4 m)) n fun o p=>
 oP E (xPick a o (vB false)) p fun q b=>
 xcond q
 (oP E (fA 49 x3 3) b fun r s=>
 oP E (lA 47 r) s fun t u=>
 oP E (iA 47 t x8) u fun v y=>
 oP E (lA 49 v) y fun z aa=>
 oP E (xCall (fC 92) [x0,z]) aa fun _t101_67 ab=>
 oP E (bC .add 3 93 x8 (vI 1)) ab fun ac ad=>
 next4 [ac] ad)
 (R (Value.tuple #[]) b)
def c5G(x0 x3 w)(R:RT)(E):=
 ∀_τ:Fr,(xloop [8] [(vI 0)] w fun a b next4=>
 d3O x0 x3 (a 8) b next4 R E)
def d3P(x0 x3 x7 w)(next5:NT)(j3:NT)(_R:RT)(E):=
 opK pG E (fA 49 x3 2) w fun c d=>
 oP E (lA 38 c) d fun e f=>
 oP E (xBuiltin .len #[38] 3 [false] [e]) f fun g i=>
 oP E (bN .lss 3 62 65 x7 g) i fun a j=>
 oP E (gT a (xNil (zT a x0))) j fun k l=>
 oP E (gT a (fA 123 k 0)) l fun m n=>
 oP E (gT a (lA 4 m)) n fun o p=>
 oP E (xPick a o (vB false)) p fun q b=>
 xcond q
 (oP E (fA 49 x3 2) b fun r s=>
 oP E (lA 38 r) s fun t u=>
 oP E (iA 38 t x7) u fun v y=>
 oP E (lA 40 v) y fun z aa=>
 oP E (xCall (fC 85) [x0,z]) aa fun _t81_99 ab=>
 oP E (bC .add 3 73 x7 (vI 1)) ab fun ac ad=>
 next5 [ac] ad)
 (j3 [] b)
def c5H(x0 x3 x4 x5 x6 w)(R:RT)(E):=
 ∀_τ:Fr,(oP E (xNil x0) w fun d e=>
 oP E (fA 123 d 0) e fun f g=>
 oP E (lA 4 f) g fun c i=>
 oP E (xPick c (zT c x6) (vB false)) i fun a j=>
 oP E (gT a (fA 49 x3 2)) j fun k l=>
 oP E (gT a (lA 38 k)) l fun m n=>
 oP E (gT a (xBuiltin .len #[38] 3 [false] [m])) n fun o p=>
 oP E (gT a (bN .eql 3 49 50 o (zT a x4))) p fun q r=>
 oP E (xPick a q (vB false)) r fun b s=>
 oP E (gT b (fA 49 x3 3)) s fun t u=>
 oP E (gT b (lA 47 t)) u fun v y=>
 oP E (gT b (xBuiltin .len #[47] 3 [false] [v])) y fun z aa=>
 oP E (gT b (bN .eql 3 56 57 z (zT b x5))) aa fun ab ac=>
 oP E (xPick b ab (vB false)) ac fun ad ae=>
 oP E (xNil x0) ae fun af ag=>
 oP E (fA 123 af 0) ag fun ah ai=>
 oP E (sA 4 ah ad) ai fun _ aj=>
 xcut (fun _ ak=>c5G x0 x3 ak R E) fun j3=>
 xloop [7] [(vI 0)] aj fun al am next5=>
 d3P x0 x3 (al 7) am next5 j3 R E)
def c5I(x0 x3 x4 x5 w)(R:RT)(E):=
 ∀_τ:Fr,(oP E (fA 49 x3 1) w fun c d=>
 oP E (lA 3 c) d fun e f=>
 oP E (bC .eql 3 25 e (vI 0)) f fun g i=>
 xcut (fun j k=>c5H x0 x3 x4 x5 (nth j 0) k R E) fun j2=>
 oP E (fA 49 x3 0) i fun l m=>
 oP E (lA 3 l) m fun n o=>
 oP E (bC .eql 3 28 n (vI 3)) o fun p b=>
 xcond p
 (oP E (fA 49 x3 1) b fun q r=>
 oP E (lA 3 q) r fun s t=>
 oP E (bC .geq 3 31 s (vI 1)) t fun a u=>
 oP E (gT a (fA 49 x3 1)) u fun v y=>
 oP E (gT a (lA 3 v)) y fun z aa=>
 oP E (gT a (bC .leq 3 35 z (vI 6))) aa fun ab ac=>
 oP E (xPick a ab (vB false)) ac fun ad ae=>
 j2 [ad] ae)
 (j2 [g] b))
def c5J(x0 _x3 x4 x5 x21:Value)(w)(j1:NT)(_R:RT)(E):=
 ∀_τ:Fr,(xcond x21
 (j1 [x4,(vI 2)] w)
 (oP E (xNil x0) w fun a b=>
 oP E (fA 123 a 0) b fun c d=>
 oP E (sA 4 c (vB false)) d fun _ e=>
 j1 [x4,x5] e))
def c5K(x0 x3 x4 x5 x10 x14 w)(j1:NT)(R:RT)(E):=
 ∀_τ:Fr,(xcond x14
 (j1 [x4,x5] w)
 (oP E (bC .eql 3 10 x10 (vI 3)) w fun e a=>
 xcond e
 (j1 [(vI 2),x5] a)
 (oP E (bC .eql 3 10 x10 (vI 4)) a fun f b=>
 xcond f
 (j1 [x4,(vI 1)] b)
 (xcut (fun g i=>c5J x0 x3 x4 x5 (nth g 0) i j1 R E) fun j7=>
 oP E (bC .eql 3 10 x10 (vI 5)) b fun c d=>
 xcond c
 (j7 [c] d)
 (oP E (bC .eql 3 10 x10 (vI 6)) d fun j k=>
 j7 [j] k)))))
def F92(x0 x1 w)(R:RT)(E):=
 opK pG E (xV (Instr.box 49 x1)) w fun a f=>
 xcut (fun c g=>c5I x0 a (nth c 0) (nth c.tail 0) g R E) fun j1=>
 oP E (fA 49 a 0) f fun i j=>
 oP E (lA 3 i) j fun b k=>
 xcut (fun l m=>c5K x0 a (vI 0) (vI 0) b (nth l 0) m j1 R E) fun j6=>
 oP E (bC .eql 3 10 b (vI 1)) k fun d e=>
 xcond d
 (j6 [d] e)
 (oP E (bC .eql 3 10 b (vI 2)) e fun n o=>
 j6 [n] o)
def h92:Hint:=(sQ (sQ (hU [4,5] (sQ (hB (hU [14] (sQ (hC hN hN)) (hC hN (sQ (hC hN (sQ (hC hN (hU [21] (sQ (hC hN hN)) (hC hN hN)))))))))) (sQ (hU [6] (sQ (hC hN hN)) (sQ (hU [] (sQ (hB (hL [7] (hS (sQ (hC hN hN)) (hS (hB hN) hN))))) (sQ (hB (hL [8] (hS (sQ (hC hN hN)) (hS (hB hN) hN))))))))))))
theorem d3Q{x0 x1:Value}(h:F92 x0 x1 w R E):Cv pG 92 #[x0,x1] w R E:=okF (h:=h92) Tryz.func92 (by kernel_rfl) (by kernel_rfl) h
def c5L(w)(R:RT)(_E:Pan):=
 ∀_τ:Fr,(R (Value.tuple #[(vI 0),(vI 0)]) w)
def d3R(x0 x12 w)(next2:NT)(j1:NT)(R:RT)(E):=
 opK pG E (xV (Instr.next x12 true 0)) w fun a g=>
 oP E (xT a 0) g fun i b=>
 xcond i
 (oP E (xT a 1) b fun c j=>
 oP E (xT a 2) j fun k l=>
 oP E (bC .neq 21 17 k (Value.int .i32 65533)) l fun m d=>
 xcond m
 (next2 [] d)
 (oP E (xV (Instr.sliceAt 9 x0 (some c) none none)) d fun n o=>
 oP E (xCall (fC 128) [n]) o fun e p=>
 oP E (xT e 0) p fun _t24_23 q=>
 oP E (xT e 1) q fun r s=>
 oP E (bC .eql 3 26 r (vI 1)) s fun t f=>
 xcond t
 (R (Value.tuple #[c,(vI 11)]) f)
 (next2 [] f)))
 (j1 [] b)
def F97(x0 w)(R:RT)(E):=
 opK pG E (xBuiltin .len #[9] 3 [false] [x0]) w fun b c=>
 oP E (bC .gtr 3 9 b (vI 65536)) c fun d a=>
 xcond d
 (R (Value.tuple #[(vI 0),(vI 10)]) a)
 (xcut (fun _ e=>c5L e R E) fun j1=>
 oP E (xV (Instr.range 9 x0)) a fun f g=>
 xloop [] [] g fun _ i next2=>
 d3R x0 f i next2 j1 R E)
def h97:Hint:=(sQ (hS (sQ (hC (sQ hN) hN)) (hU [] (sQ (hB (hL [] (sQ (hS (hC hN hN) (hB (sQ (hS (sQ (hC hN hN)) (sQ (sQ (hC (sQ hN) hN))))))))))) (sQ hN))))
theorem d3S{x0:Value}(h:F97 x0 w R E):Cv pG 97 #[x0] w R E:=okF (h:=h97) Tryz.func97 (by kernel_rfl) (by kernel_rfl) h
def d3T(x0 x2 w)(next1:NT)(R:RT)(E):=
 opK pG E (xCall (fC 135) [x0]) w fun b c=>
 oP E (xCall (fC 134) [b,(Value.string ⟨#[35]⟩)]) c fun d a=>
 xcond d
 (oP E (xCall (fC 133) [x0,(fC 136)]) a fun _t13_7 e=>
 oP E (xCall (fC 133) [x0,x2]) e fun _t11_9 f=>
 next1 [] f)
 (R (Value.tuple #[]) a)
def F99(x0 w)(R:RT)(E):=
 opK pG E (xCall (fC 133) [x0,(fC 131)]) w fun _t5_1 a=>
 xloop [] [] a fun _ b next1=>
 d3T x0 (fC 131) b next1 R E
def h99:Hint:=(sQ (sQ (hB (hL [] (hS (sQ (hC hN hN)) (hS (hB hN) hN))))))
theorem d3U{x0:Value}(h:F99 x0 w R E):Cv pG 99 #[x0] w R E:=okF (h:=h99) Tryz.func99 (by kernel_rfl) (by kernel_rfl) h
def c1K(w)(R:RT)(_E:Pan):=
 ∀_τ:Fr,(R (Value.tuple #[(Value.int .i32 0),(vB false)]) w)
def c1L(x8 w)(j1:NT)(R:RT)(E):=
 opK pG E (xV (Instr.next x8 true 0)) w fun a c=>
 oP E (xT a 0) c fun d b=>
 xcond d
 (oP E (xT a 2) b fun e f=>
 R (Value.tuple #[e,(vB true)]) f)
 (j1 [] b)
def d3V(x0 w)(R:RT)(E):=
 xcut (fun _ a=>c1K a R E) fun j1=>
 oP E (xCall (fC 135) [x0]) w fun b c=>
 oP E (xV (Instr.range 9 b)) c fun d e=>
 xloop [] [] e fun _ f _=>
 c1L d f j1 R E
def d5V:Hint:=(sQ (hU [] (sQ (hB (hL [] (sQ (hS (hC hN hN) (hB (sQ (sQ hN)))))))) (sQ hN)))
theorem c8V{x0:Value}(h:d3V x0 w R E):Cv pG 100 #[x0] w R E:=okF (h:=d5V) Tryz.func100 (by kernel_rfl) (by kernel_rfl) h
def d3W(x0 x1 w)(R:RT)(E):=
 opK pG E (xCall (fC 132) [x1]) w fun a e=>
 oP E (bC .eql 3 6 a (vI 3)) e fun f b=>
 xcond f
 (oP E (xV (Instr.makeFunc (.func 137) #[x0] #[])) b fun g i=>
 R g i)
 (oP E (bC .eql 3 6 a (vI 4)) b fun j c=>
 xcond j
 (oP E (xV (Instr.makeFunc (.func 138) #[x0] #[])) c fun k l=>
 R k l)
 (oP E (bC .eql 3 6 a (vI 5)) c fun m d=>
 xcond m
 (oP E (xV (Instr.makeFunc (.func 139) #[x0] #[])) d fun n o=>
 R n o)
 (R (fC 140) d)))
def d5W:Hint:=(sQ (hS (sQ (hB (sQ (hC (sQ hN) (sQ (hC (sQ hN) (sQ (hC (sQ hN) hN)))))))) (sQ hN)))
theorem c8W{x0 x1:Value}(h:d3W x0 x1 w R E):Cv pG 101 #[x0,x1] w R E:=okF (h:=d5W) Tryz.func101 (by kernel_rfl) (by kernel_rfl) h
def c1M(x0 x4 w)(R:RT)(E):=
 ∀_τ:Fr,(oP E (xCall (fC 104) [x0]) w fun b c=>
 oP E (sA 103 x4 b) c fun _ a=>
 xcell pG 103 x4 a fun d=>
 R d a)
def d5X(x0 x1 w)(R:RT)(E):=
 opK pG E (xV (Instr.alloc 103 true (.tuple #[]))) w fun b c=>
 xcut (fun _ d=>c1M x0 b d R E) fun j1=>
 oP E (xCall (fC 51) [x0]) c fun e f=>
 oP E (xV (Instr.field 103 e 0)) f fun g i=>
 oP E (bN .neq 3 7 8 g x1) i fun j a=>
 xcond j
 (oP E (xCall (fC 52) [x0]) a fun _t11_16 k=>
 j1 [] k)
 (j1 [] a)
def d5Y:Hint:=(sQ (hU [] (sQ (hC hN hN)) (sQ hN)))
theorem c8X{x0 x1:Value}(h:d5X x0 x1 w R E):Cv pG 102 #[x0,x1] w R E:=okF (h:=d5Y) Tryz.func102 (by kernel_rfl) (by kernel_rfl) h
def d5Z(x0 x1 w)(R:RT)(E):=
 opK pG E (xCall (fC 105) [x0,x1]) w fun b c=>
 oP E (xV (Op.unary .not b)) c fun d a=>
 xcond d
 (oP E (xCall (fC 52) [x0]) a fun _t9_5 e=>
 R (Value.tuple #[]) e)
 (R (Value.tuple #[]) a)
def d6a:Hint:=(sQ (hC hN hN))
theorem c8Y{x0 x1:Value}(h:d5Z x0 x1 w R E):Cv pG 103 #[x0,x1] w R E:=okF (h:=d6a) Tryz.func103 (by kernel_rfl) (by kernel_rfl) h
def c1N(x0 x2 x3 w)(R:RT)(E):=
 ∀_τ:Fr,(oP E (xNil x0) w fun b c=>
 oP E (fA 101 b 1) c fun d e=>
 oP E (lA 3 d) e fun f g=>
 oP E (bC .add 3 14 f (vI 1)) g fun i j=>
 oP E (xNil x0) j fun k l=>
 oP E (fA 101 k 1) l fun m n=>
 oP E (sA 3 m i) n fun _ o=>
 oP E (lA 103 x3) o fun p q=>
 oP E (sA 103 x2 p) q fun _ a=>
 xcell pG 103 x2 a fun r=>
 R r a)
def d6b(x0 w)(R:RT)(E):=
 opK pG E (xV (Instr.alloc 103 true (.tuple #[]))) w fun c d=>
 oP E (xCall (fC 51) [x0]) d fun e f=>
 oP E (xV (Instr.alloc 103 true (.tuple #[]))) f fun a g=>
 oP E (sA 103 a e) g fun _ i=>
 xcut (fun _ j=>c1N x0 c a j R E) fun j1=>
 oP E (fA 103 a 0) i fun k l=>
 oP E (lA 3 k) l fun m n=>
 oP E (bC .eql 3 7 m (vI 5)) n fun o b=>
 xcond o
 (oP E (xCall (fC 52) [x0]) b fun _t10_36 p=>
 j1 [] p)
 (j1 [] b)
def d6c:Hint:=(sQ (sQ (hU [] (sQ (hC hN hN)) (sQ (sQ hN)))))
theorem c8Z{x0:Value}(h:d6b x0 w R E):Cv pG 104 #[x0] w R E:=okF (h:=d6c) Tryz.func104 (by kernel_rfl) (by kernel_rfl) h
def d6d(x0 x1 w)(R:RT)(E):=
 opK pG E (xCall (fC 53) [x0,x1]) w fun b c=>
 oP E (xV (Op.unary .not b)) c fun d a=>
 xcond d
 (R (vB false) a)
 (oP E (xNil x0) a fun e f=>
 oP E (fA 101 e 1) f fun g i=>
 oP E (lA 3 g) i fun j k=>
 oP E (bC .add 3 12 j (vI 1)) k fun l m=>
 oP E (xNil x0) m fun n o=>
 oP E (fA 101 n 1) o fun p q=>
 oP E (sA 3 p l) q fun _ r=>
 R (vB true) r)
def d6e:Hint:=(sQ (hS (sQ (hC (sQ hN) hN)) (sQ (sQ hN))))
theorem c9a{x0 x1:Value}(h:d6d x0 x1 w R E):Cv pG 105 #[x0,x1] w R E:=okF (h:=d6e) Tryz.func105 (by kernel_rfl) (by kernel_rfl) h
def d6f(x0 x1 x2 w)(R:RT)(E):=
 opK pG E (xV (Instr.alloc 40 true (.tuple #[]))) w fun a d=>
 oP E (bC .add 3 9 x1 (vI 1)) d fun e f=>
 oP E (xCall (fC 141) [x0]) f fun g i=>
 oP E (xCall (fC 55) [x0,e,g]) i fun _t13_7 j=>
 oP E (bC .add 3 15 x1 (vI 1)) j fun k l=>
 oP E (xCall (fC 35) [x0,k]) l fun m n=>
 oP E (xV (Instr.alloc 40 true (.tuple #[]))) n fun b o=>
 oP E (sA 40 b m) o fun _ p=>
 oP E (xCall (fC 103) [x0,x2]) p fun _t20_17 q=>
 oP E (lA 40 b) q fun r s=>
 oP E (sA 40 a r) s fun _ c=>
 xcell pG 40 a c fun t=>
 R t c
def d6g:Hint:=(sQ (sQ (sQ (sQ (sQ hN)))))
theorem c9b{x0 x1 x2:Value}(h:d6f x0 x1 x2 w R E):Cv pG 106 #[x0,x1,x2] w R E:=okF (h:=d6g) Tryz.func106 (by kernel_rfl) (by kernel_rfl) h
def c1O(x5 w)(R:RT)(_E:Pan):=
 ∀_τ:Fr,(R x5 w)
def c9c(x0 x1 x5 w)(next2:NT)(j1:NT)(_R:RT)(E):=
 opK pG E (xCall (fC 105) [x0,(Value.string ⟨#[125]⟩)]) w fun b c=>
 oP E (xV (Op.unary .not b)) c fun d a=>
 xcond d
 (oP E (bC .add 3 12 x1 (vI 1)) a fun e f=>
 oP E (xCall (fC 56) [x0]) f fun g i=>
 oP E (xCall (fC 55) [x0,e,g]) i fun _t16_13 j=>
 oP E (bC .add 3 19 x1 (vI 1)) j fun k l=>
 oP E (xCall (fC 57) [x0,k]) l fun m n=>
 oP E (xV (Instr.buildSlice 24 1 #[(0,m)])) n fun o p=>
 oP E (xBuiltin .append #[24,24] 24 [false,false] [x5,o]) p fun q r=>
 next2 [q] r)
 (j1 [x5] a)
def d6h(x0 x1 w)(R:RT)(E):=
 opK pG E (xCall (fC 103) [x0,(Value.string ⟨#[123]⟩)]) w fun _t7_1 a=>
 xcut (fun b c=>c1O (nth b 0) c R E) fun j1=>
 xloop [5] [(nS)] a fun d e next2=>
 c9c x0 x1 (d 5) e next2 j1 R E
def d6i:Hint:=(sQ (sQ (sQ (hU [5] (hB (hL [5] (hS (sQ (hC hN hN)) (hB (sQ hN))))) (sQ hN)))))
theorem c9d{x0 x1:Value}(h:d6h x0 x1 w R E):Cv pG 107 #[x0,x1] w R E:=okF (h:=d6i) Tryz.func107 (by kernel_rfl) (by kernel_rfl) h
def c1P(x8 x9 x10 w)(R:RT)(E):=
 ∀_τ:Fr,(oP E (bN .lss 3 84 85 x10 x9) w fun b e=>
 oP E (gF b (bC .gtr 3 88 (zF b x10) (vI 1114111))) e fun f g=>
 oP E (xPick b (vB true) f) g fun a i=>
 oP E (gF a (bC .geq 3 92 (zF a x10) (vI 55296))) i fun c j=>
 oP E (gsem (asB (zF a c)) true (xBin .lss 3 (.tmp 95) (.const (vI 57344)) (gval (asB (zF a c)) true x10) (vI 57344))) j fun k l=>
 oP E (gF a (xPick (zF a c) k (vB false))) l fun m n=>
 oP E (xPick a (vB true) m) n fun o d=>
 xcond o
 (R (Value.tuple #[(vI 65533),(vI 1),(vB false)]) d)
 (R (Value.tuple #[x10,x8,(vB true)]) d))
def c9e(x0 x1 x8 _x9 x10 x11:Value)(w)(next3:NT)(j2:NT)(R:RT)(E):=
 opK pG E (bN .lss 3 47 48 x11 x8) w fun e c=>
 xcond e
 (oP E (bN .add 3 52 53 x1 x11) c fun f g=>
 oP E (xBuiltin .len #[9] 3 [false] [x0]) g fun i j=>
 oP E (bN .geq 3 54 56 f i) j fun a k=>
 oP E (gF a (bN .add 3 60 61 (zF a x1) (zF a x11))) k fun l m=>
 oP E (gF a (xV (Instr.index 9 (zF a x0) l))) m fun n o=>
 oP E (gF a (bC .lss 5 63 n (Value.int .u8 128))) o fun p q=>
 oP E (xPick a (vB true) p) q fun b r=>
 oP E (gF b (bN .add 3 68 69 (zF b x1) (zF b x11))) r fun s t=>
 oP E (gF b (xV (Instr.index 9 (zF b x0) s))) t fun u v=>
 oP E (gF b (bC .geq 5 71 u (Value.int .u8 192))) v fun y z=>
 oP E (xPick b (vB true) y) z fun aa d=>
 xcond aa
 (R (Value.tuple #[(vI 65533),(vI 1),(vB false)]) d)
 (oP E (xBin .mul 3 (.const (vI 64)) (.tmp 74) (vI 64) x10) d fun ab ac=>
 oP E (bN .add 3 77 78 x1 x11) ac fun ad ae=>
 oP E (xV (Instr.index 9 x0 ad)) ae fun af ag=>
 oP E (xV (convert 5 3 af)) ag fun ah ai=>
 oP E (bN .add 3 75 81 ab ah) ai fun aj ak=>
 oP E (bC .sub 3 82 aj (vI 128)) ak fun al am=>
 oP E (bC .add 3 50 x11 (vI 1)) am fun an ao=>
 next3 [al,an] ao))
 (j2 [x10] c)
def c1Q(x0 x1 x8 x9 x10 w)(R:RT)(E):=
 ∀_τ:Fr,(xcut (fun b c=>c1P x8 x9 (nth b 0) c R E) fun j2=>
 xloop [10,11] [x10,(vI 1)] w fun a d next3=>
 c9e x0 x1 x8 x9 (a 10) (a 11) d next3 j2 R E)
def d6j(x0 x1 w)(R:RT)(E):=
 opK pG E (xV (Instr.index 9 x0 x1)) w fun k l=>
 oP E (xV (convert 5 3 k)) l fun a m=>
 xcut (fun b n=>c1Q x0 x1 (nth b 0) (nth b.tail 0) (nth b.tail.tail 0) n R E) fun j1=>
 oP E (bC .lss 3 17 a (vI 128)) m fun o f=>
 xcond o
 (R (Value.tuple #[a,(vI 1),(vB true)]) f)
 (oP E (bC .geq 3 21 a (vI 194)) f fun c p=>
 oP E (gT c (bC .lss 3 24 (zT c a) (vI 224))) p fun q r=>
 oP E (xPick c q (vB false)) r fun s g=>
 xcond s
 (oP E (bC .sub 3 27 a (vI 192)) g fun t u=>
 j1 [(vI 2),(vI 128),t] u)
 (oP E (bC .geq 3 30 a (vI 224)) g fun d v=>
 oP E (gT d (bC .lss 3 33 (zT d a) (vI 240))) v fun y z=>
 oP E (xPick d y (vB false)) z fun aa i=>
 xcond aa
 (oP E (bC .sub 3 36 a (vI 224)) i fun ab ac=>
 j1 [(vI 3),(vI 2048),ab] ac)
 (oP E (bC .geq 3 39 a (vI 240)) i fun e ad=>
 oP E (gT e (bC .lss 3 42 (zT e a) (vI 245))) ad fun ae af=>
 oP E (xPick e ae (vB false)) af fun ag j=>
 xcond ag
 (oP E (bC .sub 3 45 a (vI 240)) j fun ah ai=>
 j1 [(vI 4),(vI 65536),ah] ai)
 (R (Value.tuple #[(vI 65533),(vI 1),(vB false)]) j))))
def d6k:Hint:=(sQ (sQ (sQ (hU [8,9,10] (hB (sQ (hC (sQ hN) (sQ (hC hN (sQ (hC hN (sQ (hC hN (sQ hN)))))))))) (hU [10] (sQ (hB (hL [10,11] (hS (sQ (hC hN hN)) (hS (hB (hS (sQ (hC (sQ hN) hN)) hN)) hN))))) (hS (sQ (hC (sQ hN) hN)) (sQ hN)))))))
theorem c9f{x0 x1:Value}(h:d6j x0 x1 w R E):Cv pG 108 #[x0,x1] w R E:=okF (h:=d6k) Tryz.func108 (by kernel_rfl) (by kernel_rfl) h
def d6l(x0 x1 w)(R:RT)(E):=
 opK pG E (xBuiltin .len #[9] 3 [false] [x0]) w fun c d=>
 oP E (bN .geq 3 9 11 x1 c) d fun e b=>
 xcond e
 (R (Value.tuple #[(vI 0),(vI 0)]) b)
 (oP E (xCall (fC 108) [x0,x1]) b fun a f=>
 oP E (xT a 0) f fun g i=>
 oP E (xT a 1) i fun j k=>
 oP E (xT a 2) k fun _t19_11 l=>
 oP E (xCall (fC 142) [g]) l fun m n=>
 R (Value.tuple #[m,j]) n)
def d6m:Hint:=(sQ (hS (sQ (hC (sQ hN) hN)) (sQ (sQ hN))))
theorem c9g{x0 x1:Value}(h:d6l x0 x1 w R E):Cv pG 109 #[x0,x1] w R E:=okF (h:=d6m) Tryz.func109 (by kernel_rfl) (by kernel_rfl) h
def c9h(x0 x1 x6 w)(next1:NT)(R:RT)(E):=
 opK pG E (xCall (fC 109) [x0,x1]) w fun b e=>
 oP E (xT b 0) e fun c f=>
 oP E (xT b 1) f fun g i=>
 oP E (bC .neq 3 15 c (vI 3)) i fun a j=>
 oP E (gT a (bC .neq 3 18 (zT a c) (vI 4))) j fun k l=>
 oP E (xPick a k (vB false)) l fun m d=>
 xcond m
 (R (Value.tuple #[x1,x6]) d)
 (oP E (bN .add 3 23 24 x1 g) d fun n o=>
 oP E (bC .add 3 26 x6 (vI 1)) o fun p q=>
 next1 [n,p] q)
def d6n(x0 x1 w)(R:RT)(E):=
 xloop [1,6] [x1,(vI 0)] w fun a b next1=>
 c9h x0 (a 1) (a 6) b next1 R E
def d6o:Hint:=(sQ (sQ (hB (hL [1,6] (hB (sQ (hS (sQ (hC (sQ hN) hN)) (sQ hN))))))))
theorem c9i{x0 x1:Value}(h:d6n x0 x1 w R E):Cv pG 110 #[x0,x1] w R E:=okF (h:=d6o) Tryz.func110 (by kernel_rfl) (by kernel_rfl) h
def c1R(x4 w)(R:RT)(_E:Pan):=
 ∀_τ:Fr,(xcond x4
 (R (vB true) w)
 (R (vB false) w))
def d6p(x0 w)(R:RT)(E):=
 xcut (fun v y=>c1R (nth v 0) y R E) fun j1=>
 oP E (bC .eql 9 3 x0 (Value.string ⟨#[118,97,114]⟩)) w fun a b=>
 xcond a
 (j1 [a] b)
 (oP E (bC .eql 9 3 x0 (Value.string ⟨#[97,114,114,97,121]⟩)) b fun c d=>
 xcond c
 (j1 [c] d)
 (oP E (bC .eql 9 3 x0 (Value.string ⟨#[105,102]⟩)) d fun e f=>
 xcond e
 (j1 [e] f)
 (oP E (bC .eql 9 3 x0 (Value.string ⟨#[101,108,115,101]⟩)) f fun g i=>
 xcond g
 (j1 [g] i)
 (oP E (bC .eql 9 3 x0 (Value.string ⟨#[119,104,105,108,101]⟩)) i fun j k=>
 xcond j
 (j1 [j] k)
 (oP E (bC .eql 9 3 x0 (Value.string ⟨#[97,115,115,101,114,116]⟩)) k fun l m=>
 xcond l
 (j1 [l] m)
 (oP E (bC .eql 9 3 x0 (Value.string ⟨#[97,115,115,117,109,101]⟩)) m fun n o=>
 xcond n
 (j1 [n] o)
 (oP E (bC .eql 9 3 x0 (Value.string ⟨#[115,107,105,112]⟩)) o fun p q=>
 xcond p
 (j1 [p] q)
 (oP E (bC .eql 9 3 x0 (Value.string ⟨#[105,110,112,117,116]⟩)) q fun r s=>
 xcond r
 (j1 [r] s)
 (oP E (bC .eql 9 3 x0 (Value.string ⟨#[116,114,117,101]⟩)) s fun t u=>
 xcond t
 (j1 [t] u)
 (oP E (bC .eql 9 3 x0 (Value.string ⟨#[102,97,108,115,101]⟩)) u fun z aa=>
 j1 [z] aa))))))))))
def d6q:Hint:=(sQ (hS (sQ (hB (hU [4] (sQ (hC hN (sQ (hC hN (sQ (hC hN (sQ (hC hN (sQ (hC hN (sQ (hC hN (sQ (hC hN (sQ (hC hN (sQ (hC hN (sQ (hC hN hN)))))))))))))))))))) (hC (sQ hN) hN)))) (sQ hN)))
theorem c9j{x0:Value}(h:d6p x0 w R E):Cv pG 111 #[x0] w R E:=okF (h:=d6q) Tryz.func111 (by kernel_rfl) (by kernel_rfl) h
def c1S(x0 x1 x4 x7 x8 w)(R:RT)(E):=
 ∀_τ:Fr,(oP E (xCall (fC 109) [x0,x7]) w fun c g=>
 oP E (xT c 0) g fun i j=>
 oP E (xT c 1) j fun _t51_7 k=>
 oP E (xV (Instr.index 9 x0 x1)) k fun l m=>
 oP E (bC .eql 5 54 l (Value.int .u8 48)) m fun a n=>
 oP E (gT a (bN .sub 3 57 58 (zT a x7) (zT a x1))) n fun o p=>
 oP E (gT a (bC .gtr 3 59 o (vI 1))) p fun q r=>
 oP E (xPick a q (vB false)) r fun b s=>
 oP E (gF b (bC .eql 3 63 (zF b i) (vI 3))) s fun t u=>
 oP E (xPick b (vB true) t) u fun v d=>
 xcond v
 (oP E (xV (Instr.build 103 #[])) d fun y z=>
 oP E (sA 103 x4 y) z fun _ e=>
 xcell pG 103 x4 e fun aa=>
 R (Value.tuple #[aa,(vI 0),(vI 21)]) e)
 (oP E (xV (Instr.sliceAt 9 x0 (some x1) (some x7) none)) d fun ab ac=>
 oP E (xV (convert 191 2 x8)) ac fun ad ae=>
 oP E (xV (Instr.build 103 #[(0,(vI 2)),(1,ab),(2,ad)])) ae fun af ag=>
 oP E (sA 103 x4 af) ag fun _ f=>
 xcell pG 103 x4 f fun ah=>
 R (Value.tuple #[ah,x7,(vI 0)]) f))
def c9k(x0 _x1 x4 x7 x8:Value)(w)(next2:NT)(j1:NT)(R:RT)(E):=
 opK pG E (xBuiltin .len #[9] 3 [false] [x0]) w fun g i=>
 oP E (bN .lss 3 13 15 x7 g) i fun a j=>
 oP E (gT a (xV (Instr.index 9 (zT a x0) (zT a x7)))) j fun k l=>
 oP E (gT a (bC .geq 5 20 k (Value.int .u8 48))) l fun m n=>
 oP E (xPick a m (vB false)) n fun b o=>
 oP E (gT b (xV (Instr.index 9 (zT b x0) (zT b x7)))) o fun p q=>
 oP E (gT b (bC .leq 5 26 p (Value.int .u8 57))) q fun r s=>
 oP E (xPick b r (vB false)) s fun t c=>
 xcond t
 (oP E (xV (Instr.index 9 x0 x7)) c fun u v=>
 oP E (bC .sub 5 31 u (Value.int .u8 48)) v fun y z=>
 oP E (xV (convert 5 191 y)) z fun d aa=>
 oP E (xBin .sub 191 (.const (Value.int .u64 9223372036854775807)) (.tmp 35) (Value.int .u64 9223372036854775807) d) aa fun ab ac=>
 oP E (bC .quo 191 36 ab (Value.int .u64 10)) ac fun ad ae=>
 oP E (bN .gtr 191 34 37 x8 ad) ae fun af e=>
 xcond af
 (oP E (xV (Instr.build 103 #[])) e fun ag ah=>
 oP E (sA 103 x4 ag) ah fun _ f=>
 xcell pG 103 x4 f fun ai=>
 R (Value.tuple #[ai,(vI 0),(vI 21)]) f)
 (oP E (xBin .mul 191 (.const (Value.int .u64 10)) (.tmp 40) (Value.int .u64 10) x8) e fun aj ak=>
 oP E (bN .add 191 41 42 aj d) ak fun al am=>
 oP E (bC .add 3 44 x7 (vI 1)) am fun an ao=>
 next2 [an,al] ao))
 (j1 [x7,x8] c)
def d6r(x0 x1 w)(R:RT)(E):=
 opK pG E (xV (Instr.alloc 103 true (.tuple #[]))) w fun a d=>
 xcut (fun b e=>c1S x0 x1 a (nth b 0) (nth b.tail 0) e R E) fun j1=>
 xloop [7,8] [x1,(Value.int .u64 0)] d fun c f next2=>
 c9k x0 x1 a (c 7) (c 8) f next2 j1 R E
def d6s:Hint:=(sQ (sQ (sQ (hU [7,8] (hB (hL [7,8] (hS (sQ (hC hN hN)) (hB (sQ (hS (sQ (hC (sQ hN) hN)) (sQ hN))))))) (sQ (hS (sQ (hC (sQ hN) hN)) (sQ hN)))))))
theorem c9l{x0 x1:Value}(h:d6r x0 x1 w R E):Cv pG 112 #[x0,x1] w R E:=okF (h:=d6s) Tryz.func112 (by kernel_rfl) (by kernel_rfl) h
def c1T(x0 x1 x4 w)(R:RT)(E):=
 ∀_τ:Fr,(oP E (xV (Instr.index 9 x0 x1)) w fun e f=>
 oP E (bC .eql 5 34 e (Value.int .u8 38)) f fun a g=>
 oP E (gF a (xV (Instr.index 9 (zF a x0) (zF a x1)))) g fun i j=>
 oP E (gF a (bC .eql 5 39 i (Value.int .u8 124))) j fun k l=>
 oP E (xPick a (vB true) k) l fun m b=>
 xcond m
 (oP E (xV (Instr.build 103 #[])) b fun n o=>
 oP E (sA 103 x4 n) o fun _ c=>
 xcell pG 103 x4 c fun p=>
 R (Value.tuple #[p,(vI 0),(vI 20)]) c)
 (oP E (bC .add 3 45 x1 (vI 1)) b fun q r=>
 oP E (xV (Instr.sliceAt 9 x0 (some x1) (some q) none)) r fun s t=>
 oP E (xV (Instr.build 103 #[(0,(vI 4)),(1,s)])) t fun u v=>
 oP E (bC .add 3 49 x1 (vI 1)) v fun y z=>
 oP E (sA 103 x4 u) z fun _ d=>
 xcell pG 103 x4 d fun aa=>
 R (Value.tuple #[aa,y,(vI 0)]) d))
def c1U(x0 x1 x4 x17 w)(j1:NT)(R:RT)(E):=
 ∀_τ:Fr,(xcond x17
 (oP E (bC .add 3 26 x1 (vI 2)) w fun b c=>
 oP E (xV (Instr.sliceAt 9 x0 (some x1) (some b) none)) c fun d e=>
 oP E (xV (Instr.build 103 #[(0,(vI 4)),(1,d)])) e fun f g=>
 oP E (bC .add 3 30 x1 (vI 2)) g fun i j=>
 oP E (sA 103 x4 f) j fun _ a=>
 xcell pG 103 x4 a fun k=>
 R (Value.tuple #[k,i,(vI 0)]) a)
 (j1 [] w))
def d6t(x0 x1 w)(R:RT)(E):=
 opK pG E (xV (Instr.alloc 103 true (.tuple #[]))) w fun b o=>
 xcut (fun _ p=>c1T x0 x1 b p R E) fun j1=>
 oP E (bC .add 3 7 x1 (vI 1)) o fun q r=>
 oP E (xBuiltin .len #[9] 3 [false] [x0]) r fun s t=>
 oP E (bN .lss 3 8 10 q s) t fun u c=>
 xcond u
 (oP E (bC .add 3 14 x1 (vI 2)) c fun v y=>
 oP E (xV (Instr.sliceAt 9 x0 (some x1) (some v) none)) y fun a z=>
 xcut (fun aa ab=>c1U x0 x1 b (nth aa 0) ab j1 R E) fun j2=>
 oP E (bC .eql 9 16 a (Value.string ⟨#[61,61]⟩)) z fun d e=>
 xcond d
 (j2 [d] e)
 (oP E (bC .eql 9 16 a (Value.string ⟨#[33,61]⟩)) e fun f g=>
 xcond f
 (j2 [f] g)
 (oP E (bC .eql 9 16 a (Value.string ⟨#[60,61]⟩)) g fun i j=>
 xcond i
 (j2 [i] j)
 (oP E (bC .eql 9 16 a (Value.string ⟨#[62,61]⟩)) j fun k l=>
 xcond k
 (j2 [k] l)
 (oP E (bC .eql 9 16 a (Value.string ⟨#[38,38]⟩)) l fun m n=>
 xcond m
 (j2 [m] n)
 (oP E (bC .eql 9 16 a (Value.string ⟨#[124,124]⟩)) n fun ac ad=>
 j2 [ac] ad))))))
 (j1 [] c)
def d6u:Hint:=(sQ (hU [] (sQ (hC (sQ (hB (hU [17] (sQ (hC hN (sQ (hC hN (sQ (hC hN (sQ (hC hN (sQ (hC hN hN)))))))))) (hC (sQ hN) hN)))) hN)) (hS (sQ (hC (sQ hN) hN)) (sQ hN))))
theorem c9m{x0 x1:Value}(h:d6t x0 x1 w R E):Cv pG 113 #[x0,x1] w R E:=okF (h:=d6u) Tryz.func113 (by kernel_rfl) (by kernel_rfl) h
def d6v(x0 x1 w)(R:RT)(E):=
 opK pG E (bC .gtr 3 4 x1 (vI 40)) w fun b a=>
 xcond b
 (oP E (xCall (fC 66) [x0,(vI 41)]) a fun _t7_3 c=>
 R (Value.tuple #[]) c)
 (R (Value.tuple #[]) a)
def d6w:Hint:=(sQ (hC hN hN))
theorem c9n{x0 x1:Value}(h:d6v x0 x1 w R E):Cv pG 114 #[x0,x1] w R E:=okF (h:=d6w) Tryz.func114 (by kernel_rfl) (by kernel_rfl) h
def d6x(x0 x1 w)(R:RT)(E):=
 opK pG E (xNil x0) w fun d e=>
 oP E (fA 120 d 2) e fun f g=>
 oP E (lA 3 f) g fun i j=>
 oP E (bC .neq 3 8 i (vI 0)) j fun k a=>
 xcond k
 (R (vB false) a)
 (oP E (xNil x0) a fun l m=>
 oP E (fA 120 l 0) m fun n o=>
 oP E (lA 3 n) o fun p q=>
 oP E (bC .eql 3 13 p (vI 4096)) q fun r b=>
 xcond r
 (oP E (xNil x0) b fun s t=>
 oP E (fA 120 s 2) t fun u v=>
 oP E (sA 3 u (vI 33)) v fun _ y=>
 R (vB false) y)
 (oP E (bC .gtr 3 18 x1 (vI 64)) b fun z c=>
 xcond z
 (oP E (xNil x0) c fun aa ab=>
 oP E (fA 120 aa 2) ab fun ac ad=>
 oP E (sA 3 ac (vI 32)) ad fun _ ae=>
 R (vB false) ae)
 (oP E (xNil x0) c fun af ag=>
 oP E (fA 120 af 0) ag fun ah ai=>
 oP E (lA 3 ah) ai fun aj ak=>
 oP E (bC .add 3 26 aj (vI 1)) ak fun al am=>
 oP E (xNil x0) am fun an ao=>
 oP E (fA 120 an 0) ao fun ap aq=>
 oP E (sA 3 ap al) aq fun _ ar=>
 oP E (xNil x0) ar fun au av=>
 oP E (fA 120 au 1) av fun aw ax=>
 oP E (lA 3 aw) ax fun ay az=>
 oP E (xBuiltin .max #[3,3] 3 [false,false] [ay,x1]) az fun ba bb=>
 oP E (xNil x0) bb fun bc bd=>
 oP E (fA 120 bc 1) bd fun be bf=>
 oP E (sA 3 be ba) bf fun _ bg=>
 R (vB true) bg)))
def d6y:Hint:=(sQ (hS (sQ (hC (sQ hN) hN)) (hS (sQ (hC (sQ (sQ hN)) hN)) (hS (sQ (hC (sQ (sQ hN)) hN)) (sQ (sQ (sQ hN)))))))
theorem c9o{x0 x1:Value}(h:d6x x0 x1 w R E):Cv pG 115 #[x0,x1] w R E:=okF (h:=d6y) Tryz.func115 (by kernel_rfl) (by kernel_rfl) h
def c9p(x0 x2 x4 x9 w)(next4:NT)(R:RT)(E):=
 opK pG E (fA 56 x4 5) w fun c d=>
 oP E (lA 24 c) d fun e f=>
 oP E (xBuiltin .len #[24] 3 [false] [e]) f fun g i=>
 oP E (bN .lss 3 83 86 x9 g) i fun a j=>
 oP E (gT a (xNil (zT a x0))) j fun k l=>
 oP E (gT a (fA 120 k 2)) l fun m n=>
 oP E (gT a (lA 3 m)) n fun o p=>
 oP E (gT a (bC .eql 3 92 o (vI 0))) p fun q r=>
 oP E (xPick a q (vB false)) r fun s b=>
 xcond s
 (oP E (fA 56 x4 5) b fun t u=>
 oP E (lA 24 t) u fun v y=>
 oP E (iA 24 v x9) y fun z aa=>
 oP E (lA 56 z) aa fun ab ac=>
 oP E (bC .add 3 103 x2 (vI 1)) ac fun ad ae=>
 oP E (xCall (fC 116) [x0,ab,ad]) ae fun _t105_35 af=>
 oP E (bC .add 3 95 x9 (vI 1)) af fun ag ah=>
 next4 [ag] ah)
 (R (Value.tuple #[]) b)
def c1V(x0 x2 x4 w)(R:RT)(E):=
 ∀_τ:Fr,(xloop [9] [(vI 0)] w fun a b next4=>
 c9p x0 x2 x4 (a 9) b next4 R E)
def c9q(x0 x2 x4 x8 w)(next5:NT)(j3:NT)(_R:RT)(E):=
 opK pG E (fA 56 x4 4) w fun c d=>
 oP E (lA 24 c) d fun e f=>
 oP E (xBuiltin .len #[24] 3 [false] [e]) f fun g i=>
 oP E (bN .lss 3 60 63 x8 g) i fun a j=>
 oP E (gT a (xNil (zT a x0))) j fun k l=>
 oP E (gT a (fA 120 k 2)) l fun m n=>
 oP E (gT a (lA 3 m)) n fun o p=>
 oP E (gT a (bC .eql 3 69 o (vI 0))) p fun q r=>
 oP E (xPick a q (vB false)) r fun s b=>
 xcond s
 (oP E (fA 56 x4 4) b fun t u=>
 oP E (lA 24 t) u fun v y=>
 oP E (iA 24 v x8) y fun z aa=>
 oP E (lA 56 z) aa fun ab ac=>
 oP E (bC .add 3 80 x2 (vI 1)) ac fun ad ae=>
 oP E (xCall (fC 116) [x0,ab,ad]) ae fun _t82_71 af=>
 oP E (bC .add 3 72 x8 (vI 1)) af fun ag ah=>
 next5 [ag] ah)
 (j3 [] b)
def c1W(x0 x2 x4 w)(R:RT)(E):=
 ∀_τ:Fr,(xcut (fun _ a=>c1V x0 x2 x4 a R E) fun j3=>
 xloop [8] [(vI 0)] w fun b c next5=>
 c9q x0 x2 x4 (b 8) c next5 j3 R E)
def c9r(x0 x2 x4 x7 w)(next6:NT)(j2:NT)(_R:RT)(E):=
 opK pG E (fA 56 x4 2) w fun c d=>
 oP E (lA 38 c) d fun e f=>
 oP E (xBuiltin .len #[38] 3 [false] [e]) f fun g i=>
 oP E (bN .lss 3 37 40 x7 g) i fun a j=>
 oP E (gT a (xNil (zT a x0))) j fun k l=>
 oP E (gT a (fA 120 k 2)) l fun m n=>
 oP E (gT a (lA 3 m)) n fun o p=>
 oP E (gT a (bC .eql 3 46 o (vI 0))) p fun q r=>
 oP E (xPick a q (vB false)) r fun s b=>
 xcond s
 (oP E (fA 56 x4 2) b fun t u=>
 oP E (lA 38 t) u fun v y=>
 oP E (iA 38 v x7) y fun z aa=>
 oP E (lA 40 z) aa fun ab ac=>
 oP E (bC .add 3 57 x2 (vI 1)) ac fun ad ae=>
 oP E (xCall (fC 84) [x0,ab,ad]) ae fun _t59_107 af=>
 oP E (bC .add 3 49 x7 (vI 1)) af fun ag ah=>
 next6 [ag] ah)
 (j2 [] b)
def c1X(x0 x2 x4 w)(R:RT)(E):=
 ∀_τ:Fr,(xcut (fun _ a=>c1W x0 x2 x4 a R E) fun j2=>
 xloop [7] [(vI 0)] w fun b c next6=>
 c9r x0 x2 x4 (b 7) c next6 j2 R E)
def c9s(x0 x2 x4 x6 w)(next7:NT)(j1:NT)(_R:RT)(E):=
 opK pG E (fA 56 x4 3) w fun c d=>
 oP E (lA 47 c) d fun e f=>
 oP E (xBuiltin .len #[47] 3 [false] [e]) f fun g i=>
 oP E (bN .lss 3 14 17 x6 g) i fun a j=>
 oP E (gT a (xNil (zT a x0))) j fun k l=>
 oP E (gT a (fA 120 k 2)) l fun m n=>
 oP E (gT a (lA 3 m)) n fun o p=>
 oP E (gT a (bC .eql 3 23 o (vI 0))) p fun q r=>
 oP E (xPick a q (vB false)) r fun s b=>
 xcond s
 (oP E (fA 56 x4 3) b fun t u=>
 oP E (lA 47 t) u fun v y=>
 oP E (iA 47 v x6) y fun z aa=>
 oP E (lA 49 z) aa fun ab ac=>
 oP E (bC .add 3 34 x2 (vI 1)) ac fun ad ae=>
 oP E (xCall (fC 91) [x0,ab,ad]) ae fun _t36_143 af=>
 oP E (bC .add 3 26 x6 (vI 1)) af fun ag ah=>
 next7 [ag] ah)
 (j1 [] b)
def d6z(x0 x1 x2 w)(R:RT)(E):=
 opK pG E (xV (Instr.box 56 x1)) w fun a c=>
 oP E (xCall (fC 115) [x0,x2]) c fun d e=>
 oP E (xV (Op.unary .not d)) e fun f b=>
 xcond f
 (R (Value.tuple #[]) b)
 (xcut (fun _ g=>c1X x0 x2 a g R E) fun j1=>
 xloop [6] [(vI 0)] b fun i j next7=>
 c9s x0 x2 a (i 6) j next7 j1 R E)
def d6A:Hint:=(sQ (hS (sQ (hC hN hN)) (hU [] (sQ (hB (hL [6] (hS (sQ (hC hN hN)) (hS (hB hN) hN))))) (hU [] (sQ (hB (hL [7] (hS (sQ (hC hN hN)) (hS (hB hN) hN))))) (hU [] (sQ (hB (hL [8] (hS (sQ (hC hN hN)) (hS (hB hN) hN))))) (sQ (hB (hL [9] (hS (sQ (hC hN hN)) (hS (hB hN) hN))))))))))
theorem c9t{x0 x1 x2:Value}(h:d6z x0 x1 x2 w R E):Cv pG 116 #[x0,x1,x2] w R E:=okF (h:=d6A) Tryz.func116 (by kernel_rfl) (by kernel_rfl) h
def c1Y(x3 w)(R:RT)(E):=
 ∀_τ:Fr,(oP E (bC .leq 3 52 x3 (vI 32)) w fun a b=>
 R a b)
def c9u(x0 x3 x4 w)(next2:NT)(j1:NT)(R:RT)(E):=
 opK pG E (xBuiltin .len #[9] 3 [false] [x0]) w fun i j=>
 oP E (bN .lss 3 20 22 x4 i) j fun k e=>
 xcond k
 (oP E (xCall (fC 108) [x0,x4]) e fun c l=>
 oP E (xT c 0) l fun m n=>
 oP E (xT c 1) n fun o p=>
 oP E (xT c 2) p fun q r=>
 oP E (xCall (fC 142) [m]) r fun f s=>
 oP E (xV (Op.unary .not q)) s fun a t=>
 oP E (gF a (bC .neq 3 36 (zF a f) (vI 3))) t fun b u=>
 oP E (gsem (asB (zF a b)) true (xBin .neq 3 (.tmp 39) (.const (vI 4)) (gval (asB (zF a b)) true f) (vI 4))) u fun d v=>
 oP E (gsem (asB (gval (asB (zF a b)) true d)) false (xBin .eql 3 (.tmp 42) (.const (vI 0)) (gval (asB (gval (asB (zF a b)) true d)) false x3) (vI 0))) v fun y z=>
 oP E (gsem (asB (zF a b)) true (xPick (gval (asB (zF a b)) true d) (vB true) y)) z fun aa ab=>
 oP E (gF a (xPick (zF a b) aa (vB false))) ab fun ac ad=>
 oP E (xPick a (vB true) ac) ad fun ae g=>
 xcond ae
 (R (vB false) g)
 (oP E (bC .add 3 47 x3 (vI 1)) g fun af ag=>
 oP E (bN .add 3 49 50 x4 o) ag fun ah ai=>
 next2 [af,ah] ai))
 (j1 [x3] e)
def d6B(x0 w)(R:RT)(E):=
 opK pG E (bC .eql 9 9 x0 (eS)) w fun a e=>
 oP E (gF a (xBuiltin .len #[9] 3 [false] [(zF a x0)])) e fun f g=>
 oP E (gF a (bC .gtr 3 13 f (vI 128))) g fun i j=>
 oP E (xPick a (vB true) i) j fun b k=>
 oP E (gF b (xCall (fC 111) [(zF b x0)])) k fun l m=>
 oP E (xPick b (vB true) l) m fun n c=>
 xcond n
 (R (vB false) c)
 (xcut (fun o p=>c1Y (nth o 0) p R E) fun j1=>
 xloop [3,4] [(vI 0),(vI 0)] c fun d q next2=>
 c9u x0 (d 3) (d 4) q next2 j1 R E)
def d6C:Hint:=(sQ (hS (sQ (hC (sQ hN) hN)) (sQ (hU [3] (sQ (hB (hL [3,4] (hS (sQ (hC hN hN)) (hB (sQ (sQ (hS (sQ (hC (sQ hN) hN)) (sQ hN))))))))) (sQ hN)))))
theorem c9v{x0:Value}(h:d6B x0 w R E):Cv pG 117 #[x0] w R E:=okF (h:=d6C) Tryz.func117 (by kernel_rfl) (by kernel_rfl) h
def c1Z(w)(R:RT)(_E:Pan):=
 ∀_τ:Fr,(R (vB true) w)
def c9w(x1 x2 x3 x9 x10 x11 w)(next2:NT)(j1:NT)(R:RT)(E):=
 opK pG E (bN .lss 3 11 10 x11 x10) w fun i f=>
 xcond i
 (oP E (iA 128 x9 x11) f fun j k=>
 oP E (lA 131 j) k fun g l=>
 dX l fun c=>
 qL pG c (blk x2) (lA 80 x2) fun m=>
 oP E (xCall (fC 119) [m,g,x1]) c fun n b=>
 keepX [] c b (qP pG (xV (Op.unary .not n)) fun a=>
 qP pG (gF a (bC .add 3 24 (zF a x1) (vI 1))) fun o=>
 qL pG b (blk x3) (gF a (lA 169 x3)) fun p=>
 oP E (gF a (xInvoke (zF a g) "gnomon/tree.parts" [])) b fun q d =>
 keepX [(blk x3)] b d (opK pG E (gF a (xCall p [q,o])) d fun r e=>
 keepX [] d e (qP pG (gF a (xV (Op.unary .not r))) fun s=>
 qP pG (xPick a (vB true) s) fun t=>
 xcond t
 (R (vB false) e)
 (oP E (bC .add 3 11 x11 (vI 1)) e fun u v=>
 next2 [u] v)))))
 (j1 [] f)
def d6D(x0 x1 x2 x3 w)(R:RT)(E):=
 xcut (fun _ a=>c1Z a R E) fun j1=>
 oP E (xBuiltin .len #[128] 3 [false] [x0]) w fun b c=>
 xloop [11] [(vI 0)] c fun d e next2=>
 c9w x1 x2 x3 x0 b (d 11) e next2 j1 R E
def d6E:Hint:=(sQ (hU [] (sQ (hB (hL [11] (sQ (hS (hC hN hN) (hS (hB (sQ (hS (.reg [(0,32768,4),(0,65536,256),(0,131072,2),(7,262144,229376),(8,524288,262144),(24,1048576,524288),(32,2097152,1048584),(32,4194304,1048832),(160,8388608,5242880),(32,16777216,1048578),(544,33554432,17825792),(1376,67108864,45088768),(2080,134217728,68157440),(4128,268435456,135266304)] [64,65,65,0,65,65,1,65,64,65,65,0,65,65] (.early 1 (.early 2 (.load 0 (.step 3 (.early 4 (.early 5 (.early 7 (.early 9 (.early 10 (.load 6 (.step 8 (.step 11 (.early 12 (.early 13 .done))))))))))))))) (hC (sQ hN) hN)))) hN)))))) (sQ hN)))
theorem c9x{x0 x1 x2 x3:Value}(h:d6D x0 x1 x2 x3 w R E):Cv pG 118 #[x0,x1,x2,x3] w R E:=okF (h:=d6E) Tryz.func118 (by kernel_rfl) (by kernel_rfl) h
def c2a(w)(R:RT)(_E:Pan):=
 ∀_τ:Fr,(R (vB true) w)
def d6F(x0 x1 x2 w)(R:RT)(E):=
 opK pG E (xNil x0) w fun j k=>
 oP E (fA 79 j 0) k fun l m=>
 oP E (lA 3 l) m fun n o=>
 oP E (bC .add 3 12 n (vI 1)) o fun p q=>
 oP E (xNil x0) q fun r s=>
 oP E (fA 79 r 0) s fun t u=>
 oP E (sA 3 t p) u fun _ v=>
 oP E (xNil x0) v fun y z=>
 oP E (fA 79 y 0) z fun aa ab=>
 oP E (lA 3 aa) ab fun ac ad=>
 oP E (bC .gtr 3 19 ac (vI 4096)) ad fun ae d=>
 xcond ae
 (oP E (xNil x0) d fun af ag=>
 oP E (fA 79 af 2) ag fun ah ai=>
 oP E (sA 29 ah (vI 33)) ai fun _ aj=>
 R (vB false) aj)
 (oP E (bC .gtr 3 24 x2 (vI 64)) d fun ak e=>
 xcond ak
 (oP E (xNil x0) e fun al am=>
 oP E (fA 79 al 2) am fun an ao=>
 oP E (sA 29 an (vI 32)) ao fun _ ap=>
 R (vB false) ap)
 (oP E (xNil x0) e fun aq ar=>
 oP E (fA 79 aq 1) ar fun au av=>
 oP E (lA 3 au) av fun aw ax=>
 oP E (xBuiltin .max #[3,3] 3 [false,false] [aw,x2]) ax fun ay az=>
 oP E (xNil x0) az fun ba bb=>
 oP E (fA 79 ba 1) bb fun bc bd=>
 oP E (sA 3 bc ay) bd fun _ be=>
 oP E (xNil x0) be fun bf bg=>
 oP E (fA 79 bf 3) bg fun bh bi=>
 oP E (lA 4 bh) bi fun a bj=>
 oP E (gF a (xInvoke (zF a x1) "gnomon/tree.form" [])) bj fun bk bl =>
 oP E (gF a (xV (Op.unary .not bk))) bl fun bm bn=>
 oP E (xPick a (vB true) bm) bn fun bo bp=>
 oP E (xNil x0) bp fun bq br=>
 oP E (fA 79 bq 3) br fun bs bt=>
 oP E (sA 4 bs bo) bt fun _ bu=>
 xcut (fun _ bv=>c2a bv R E) fun j1=>
 oP E (xCall (fC 143) [x1]) bu fun f bw=>
 oP E (xT f 0) bw fun c bz=>
 oP E (xT f 1) bz fun ca g=>
 xcond ca
 (oP E (xNil x0) g fun cb cc=>
 oP E (fA 79 cb 4) cc fun cd ce=>
 oP E (lA 4 cd) ce fun b cf=>
 oP E (gF b (xCall (fC 144) [(zF b c)])) cf fun cg ch=>
 oP E (gF b (xV (Op.unary .not cg))) ch fun ci cj=>
 oP E (xPick b (vB true) ci) cj fun ck cl=>
 oP E (xNil x0) cl fun cm cn=>
 oP E (fA 79 cm 4) cn fun co cp=>
 oP E (sA 4 co ck) cp fun _ cq=>
 oP E (xNil x0) cq fun cr cs=>
 oP E (fA 79 cr 5) cs fun ct cu=>
 oP E (lA 77 ct) cu fun cv cw=>
 oP E (xCall (fC 145) [cv,c]) cw fun cx cy=>
 oP E (xV (Op.unary .not cx)) cy fun cz i=>
 xcond cz
 (oP E (xNil x0) i fun da db=>
 oP E (fA 79 da 5) db fun dc dd=>
 oP E (lA 77 dc) dd fun de df=>
 oP E (xV (Instr.buildSlice 77 1 #[(0,c)])) df fun dg dh=>
 oP E (xBuiltin .append #[77,77] 77 [false,false] [de,dg]) dh fun di dj=>
 oP E (xNil x0) dj fun dk dl=>
 oP E (fA 79 dk 5) dl fun dm dn=>
 oP E (sA 77 dm di) dn fun _ dp=>
 j1 [] dp)
 (j1 [] i))
 (j1 [] g)))
def d6G:Hint:=(sQ (hS (sQ (sQ (hC (sQ (sQ hN)) hN))) (hS (sQ (hC (sQ (sQ hN)) hN)) (sQ (sQ (hU [] (sQ (sQ (hC (sQ (sQ (hC hN hN))) hN))) (sQ hN)))))))
theorem c9y{x0 x1 x2:Value}(h:d6F x0 x1 x2 w R E):Cv pG 119 #[x0,x1,x2] w R E:=okF (h:=d6G) Tryz.func119 (by kernel_rfl) (by kernel_rfl) h
def b8r(x0 w)(R:RT)(_E:Pan):=
 ∀_τ:Fr,(R x0 w)
def c2b(x0 x1 w)(R:RT)(E):=
 ∀_τ:Fr,(xcut (fun c d=>b8r (nth c 0) d R E) fun j2=>
 oP E (xBuiltin .cap #[128] 3 [false] [x0]) w fun e f=>
 oP E (xBuiltin .len #[128] 3 [false] [x0]) f fun g i=>
 oP E (bN .sub 3 10 12 e g) i fun j k=>
 oP E (bN .sub 3 8 13 x1 j) k fun a l=>
 oP E (bC .gtr 3 15 a (vI 0)) l fun m b=>
 xcond m
 (oP E (xBuiltin .cap #[128] 3 [false] [x0]) b fun n o=>
 oP E (xV (Instr.sliceAt 128 x0 none (some n) none)) o fun p q=>
 oP E (xBuiltin .append #[128,3] 128 [false,false] [p,a]) q fun r s=>
 oP E (xBuiltin .len #[128] 3 [false] [x0]) s fun t u=>
 oP E (xV (Instr.sliceAt 128 r none (some t) none)) u fun v y=>
 j2 [v] y)
 (j2 [x0] b))
def d3X(x0 x1 w)(R:RT)(E):=
 xcut (fun _ b=>c2b x0 x1 b R E) fun j1=>
 oP E (bC .lss 3 5 x1 (vI 0)) w fun c a=>
 xcond c
 (oP E (xV (Instr.makeInterface 9 (Value.string ⟨#[99,97,110,110,111,116,32,98,101,32,110,101,103,97,116,105,118,101]⟩))) a fun d e=>
 oP E (xV (Instr.panic d)) e fun _ f=>
 j1 [] f)
 (j1 [] a)
def d6H:Hint:=(sQ (hU [] (sQ (hC hN hN)) (hU [0] (sQ (sQ (hC hN hN))) (sQ hN))))
theorem c9z{x0 x1:Value}(h:d3X x0 x1 w R E):Cv pG 120 #[x0,x1] w R E:=okF (h:=d6H) Tryz.func120 (by kernel_rfl) (by kernel_rfl) h
def c2c(w)(R:RT)(_E:Pan):=
 ∀_τ:Fr,(R (vI 0) w)
def c9A(x0 x3 x8 x9 x10 w)(next2:NT)(j1:NT)(R:RT)(E):=
 opK pG E (bN .lss 3 10 9 x10 x9) w fun c a=>
 xcond c
 (oP E (iA 77 x8 x10) a fun d e=>
 oP E (lA 9 d) e fun f g=>
 oP E (xCall (fC 105) [x0,f]) g fun i b=>
 xcond i
 (oP E (fA 139 x3 1) b fun j k=>
 oP E (lA 137 j) k fun l m=>
 oP E (iA 137 l x10) m fun n o=>
 oP E (lA 3 n) o fun p q=>
 R p q)
 (oP E (bC .add 3 10 x10 (vI 1)) b fun r s=>
 next2 [r] s))
 (j1 [] a)
def d6I(x0 x1 w)(R:RT)(E):=
 opK pG E (xV (Instr.box 139 x1)) w fun a c=>
 xcut (fun _ d=>c2c d R E) fun j1=>
 oP E (fA 139 a 0) c fun e f=>
 oP E (lA 77 e) f fun b g=>
 oP E (xBuiltin .len #[77] 3 [false] [b]) g fun i j=>
 xloop [10] [(vI 0)] j fun k l next2=>
 c9A x0 a b i (k 10) l next2 j1 R E
def d6J:Hint:=(sQ (hU [] (sQ (hB (hL [10] (sQ (hS (hC hN hN) (hS (hB (sQ (sQ (hC (sQ hN) hN)))) hN)))))) (sQ hN)))
theorem c9B{x0 x1:Value}(h:d6I x0 x1 w R E):Cv pG 121 #[x0,x1] w R E:=okF (h:=d6J) Tryz.func121 (by kernel_rfl) (by kernel_rfl) h
def c2d(x0 x1 x4 w)(R:RT)(E):=
 ∀_τ:Fr,(oP E (xCall (fC 104) [x0]) w fun l m=>
 oP E (xV (Instr.alloc 103 true (.tuple #[]))) m fun a n=>
 oP E (sA 103 a l) n fun _ o=>
 oP E (fA 103 a 0) o fun p q=>
 oP E (lA 3 p) q fun r s=>
 oP E (bC .eql 3 40 r (vI 2)) s fun t g=>
 xcond t
 (oP E (fA 103 a 2) g fun u v=>
 oP E (lA 2 u) v fun y z=>
 oP E (xV (Instr.build 40 #[(0,(vI 1)),(1,y)])) z fun aa ab=>
 oP E (sA 40 x4 aa) ab fun _ i=>
 xcell pG 40 x4 i fun ac=>
 R ac i)
 (oP E (xCall (fC 105) [x0,(Value.string ⟨#[91]⟩)]) g fun ad ae=>
 oP E (xV (Op.unary .not ad)) ae fun af j=>
 xcond af
 (oP E (fA 103 a 1) j fun ag ah=>
 oP E (lA 9 ag) ah fun ai aj=>
 oP E (xV (Instr.build 40 #[(0,(vI 2)),(2,ai)])) aj fun ak al=>
 oP E (sA 40 x4 ak) al fun _ k=>
 xcell pG 40 x4 k fun am=>
 R am k)
 (dX j fun c=>
 qP pG (fA 103 a 1) fun b=>
 qL pG c (blk b) (lA 9 b) fun an=>
 oP E (xCall (fC 106) [x0,x1,(Value.string ⟨#[93]⟩)]) c fun ao d=>
 keepX [(blk b)] c d (opK pG E (xV (Instr.buildSlice 38 1 #[(0,ao)])) d fun ap e=>
 keepX [(blk b)] d e (qP pG (xV (Instr.build 40 #[(0,(vI 4)),(2,an),(3,ap)])) fun aq=>
 oP E (sA 40 x4 aq) e fun _ f=>
 keepX [] e f (xcell pG 40 x4 f fun ar=>
 R ar f))))))
def d6K(x0 x1 w)(R:RT)(E):=
 opK pG E (xV (Instr.alloc 40 true (.tuple #[]))) w fun a j=>
 xcut (fun _ k=>c2d x0 x1 a k R E) fun j1=>
 oP E (xCall (fC 141) [x0]) j fun l m=>
 oP E (xV (Op.unary .not l)) m fun n b=>
 xcond n
 (oP E (xCall (fC 52) [x0]) b fun _t11_54 o=>
 j1 [] o)
 (oP E (xCall (fC 105) [x0,(Value.string ⟨#[45]⟩)]) b fun p c=>
 xcond p
 (oP E (bC .add 3 16 x1 (vI 1)) c fun q r=>
 oP E (xCall (fC 141) [x0]) r fun s t=>
 oP E (xCall (fC 55) [x0,q,s]) t fun _t20_62 u=>
 oP E (bC .add 3 22 x1 (vI 1)) u fun v y=>
 oP E (xCall (fC 122) [x0,v]) y fun z aa=>
 oP E (xV (Instr.buildSlice 38 1 #[(0,z)])) aa fun ab ac=>
 oP E (xV (Instr.build 40 #[(0,(vI 5)),(3,ab)])) ac fun ad ae=>
 oP E (sA 40 a ad) ae fun _ d=>
 xcell pG 40 a d fun af=>
 R af d)
 (oP E (xCall (fC 105) [x0,(Value.string ⟨#[40]⟩)]) c fun ag e=>
 xcond ag
 (oP E (xCall (fC 106) [x0,x1,(Value.string ⟨#[41]⟩)]) e fun ah ai=>
 oP E (sA 40 a ah) ai fun _ f=>
 xcell pG 40 a f fun aj=>
 R aj f)
 (oP E (xCall (fC 105) [x0,(Value.string ⟨#[105,110,112,117,116]⟩)]) e fun ak g=>
 xcond ak
 (oP E (xV (Instr.build 40 #[(0,(vI 3))])) g fun al am=>
 oP E (sA 40 a al) am fun _ i=>
 xcell pG 40 a i fun an=>
 R an i)
 (j1 [] g))))
def d6L:Hint:=(sQ (hU [] (hB (sQ (hC hN (sQ (hC (sQ (sQ hN)) (sQ (hC (sQ hN) (sQ (hC (sQ hN) hN))))))))) (sQ (hS (sQ (hC (sQ hN) hN)) (hS (sQ (hC (sQ hN) hN)) (hS (.reg [(0,2251799813685248,32),(1,4503599627370496,2251799813685248),(0,9007199254740992,1),(0,18014398509481984,2),(12,36028797018963968,27021597764222976),(16,72057594037927936,36028797018963968),(34,144115188075855872,76561193665298432),(127,0,144115188075855888)] [2,0,2,2,2,2,2,0] (.early 0 (.early 2 (.early 3 (.load 1 (.step 4 (.step 5 (.early 6 (.step 7 .done))))))))) hN))))))
theorem c9C{x0 x1:Value}(h:d6K x0 x1 w R E):Cv pG 122 #[x0,x1] w R E:=okF (h:=d6L) Tryz.func122 (by kernel_rfl) (by kernel_rfl) h
def d6M(x0 x1 w)(R:RT)(E):=
 opK pG E (xV (Instr.alloc 40 true (.tuple #[]))) w fun a y=>
 oP E (xNil x0) y fun z aa=>
 oP E (fA 66 z 2) aa fun ab ac=>
 oP E (lA 3 ab) ac fun ad ae=>
 oP E (bC .neq 3 11 ad (vI 0)) ae fun af c=>
 xcond af
 (oP E (xV (Instr.build 40 #[])) c fun ag ah=>
 oP E (sA 40 a ag) ah fun _ d=>
 xcell pG 40 a d fun ai=>
 R ai d)
 (oP E (xCall (fC 146) [x0]) c fun aj ak=>
 oP E (xV (Op.unary .not aj)) ak fun al e=>
 xcond al
 (oP E (xCall (fC 66) [x0,(vI 40)]) e fun _t18_20 am=>
 oP E (xV (Instr.build 40 #[])) am fun an ao=>
 oP E (sA 40 a an) ao fun _ f=>
 xcell pG 40 a f fun ap=>
 R ap f)
 (oP E (xCall (fC 63) [x0]) e fun aq ar=>
 oP E (xV (Instr.alloc 103 true (.tuple #[]))) ar fun b au=>
 oP E (sA 103 b aq) au fun _ av=>
 oP E (xCall (fC 114) [x0,x1]) av fun _t24_33 aw=>
 oP E (xNil x0) aw fun ax ay=>
 oP E (fA 66 ax 2) ay fun az ba=>
 oP E (lA 3 az) ba fun bb bc=>
 oP E (bC .neq 3 28 bb (vI 0)) bc fun bd g=>
 xcond bd
 (oP E (xV (Instr.build 40 #[])) g fun be bf=>
 oP E (sA 40 a be) bf fun _ i=>
 xcell pG 40 a i fun bg=>
 R bg i)
 (oP E (xCall (fC 67) [x0,(Value.string ⟨#[45]⟩)]) g fun bh j=>
 xcond bh
 (oP E (bC .add 3 35 x1 (vI 1)) j fun bi bj=>
 oP E (xCall (fC 123) [x0,bi]) bj fun bk bl=>
 oP E (xV (Instr.buildSlice 38 1 #[(0,bk)])) bl fun bm bn=>
 oP E (xV (Instr.build 40 #[(0,(vI 5)),(3,bm)])) bn fun bo bp=>
 oP E (sA 40 a bo) bp fun _ k=>
 xcell pG 40 a k fun bq=>
 R bq k)
 (oP E (xCall (fC 67) [x0,(Value.string ⟨#[105,110,112,117,116]⟩)]) j fun br l=>
 xcond br
 (oP E (xV (Instr.build 40 #[(0,(vI 3))])) l fun bs bt=>
 oP E (sA 40 a bs) bt fun _ m=>
 xcell pG 40 a m fun bu=>
 R bu m)
 (oP E (xCall (fC 67) [x0,(Value.string ⟨#[40]⟩)]) l fun bv n=>
 xcond bv
 (oP E (bC .add 3 48 x1 (vI 1)) n fun bw bz=>
 oP E (xCall (fC 37) [x0,bw]) bz fun ca cb=>
 oP E (xV (Instr.alloc 40 true (.tuple #[]))) cb fun o cc=>
 oP E (sA 40 o ca) cc fun _ cd=>
 oP E (xCall (fC 65) [x0,(Value.string ⟨#[41]⟩)]) cd fun _t52_78 ce=>
 oP E (lA 40 o) ce fun cf cg=>
 oP E (sA 40 a cf) cg fun _ p=>
 xcell pG 40 a p fun ch=>
 R ch p)
 (oP E (xNil x0) n fun ci cj=>
 oP E (fA 66 ci 1) cj fun ck cl=>
 oP E (lA 3 ck) cl fun cm cn=>
 oP E (bC .add 3 57 cm (vI 1)) cn fun co cp=>
 oP E (xNil x0) cp fun cq cr=>
 oP E (fA 66 cq 1) cr fun cs ct=>
 oP E (sA 3 cs co) ct fun _ cu=>
 oP E (fA 103 b 0) cu fun cv cw=>
 oP E (lA 3 cv) cw fun cx cy=>
 oP E (bC .eql 3 62 cx (vI 2)) cy fun cz q=>
 xcond cz
 (oP E (fA 103 b 2) q fun da db=>
 oP E (lA 2 da) db fun dc dd=>
 oP E (xV (Instr.build 40 #[(0,(vI 1)),(1,dc)])) dd fun de df=>
 oP E (sA 40 a de) df fun _ r=>
 xcell pG 40 a r fun dg=>
 R dg r)
 (oP E (xCall (fC 67) [x0,(Value.string ⟨#[91]⟩)]) q fun dh s=>
 xcond dh
 (oP E (bC .add 3 70 x1 (vI 1)) s fun di dj=>
 oP E (xCall (fC 37) [x0,di]) dj fun dk dl=>
 oP E (xV (Instr.alloc 40 true (.tuple #[]))) dl fun t dm=>
 oP E (sA 40 t dk) dm fun _ dn=>
 oP E (xCall (fC 65) [x0,(Value.string ⟨#[93]⟩)]) dn fun _t74_124 dp=>
 oP E (fA 103 b 1) dp fun dq dr=>
 oP E (lA 9 dq) dr fun ds dt=>
 oP E (lA 40 t) dt fun du dv=>
 oP E (xV (Instr.buildSlice 38 1 #[(0,du)])) dv fun dw dx=>
 oP E (xV (Instr.build 40 #[(0,(vI 4)),(2,ds),(3,dw)])) dx fun dy dz=>
 oP E (sA 40 a dy) dz fun _ u=>
 xcell pG 40 a u fun ea=>
 R ea u)
 (oP E (fA 103 b 1) s fun eb ec=>
 oP E (lA 9 eb) ec fun ed ee=>
 oP E (xV (Instr.build 40 #[(0,(vI 2)),(2,ed)])) ee fun ef eg=>
 oP E (sA 40 a ef) eg fun _ v=>
 xcell pG 40 a v fun eh=>
 R eh v))))))))
def d6N:Hint:=(sQ (hS (sQ (hC (sQ hN) hN)) (hS (sQ (hC (sQ (sQ hN)) hN)) (sQ (sQ (hS (sQ (hC (sQ hN) hN)) (hS (hB (sQ (hC (sQ hN) (sQ (hC (sQ hN) (sQ (hC (sQ (sQ (sQ hN))) hN))))))) (sQ (hS (sQ (hC (sQ hN) hN)) (hS (sQ (hC (sQ (sQ (sQ hN))) hN)) (sQ hN)))))))))))
theorem c9D{x0 x1:Value}(h:d6M x0 x1 w R E):Cv pG 123 #[x0,x1] w R E:=okF (h:=d6N) Tryz.func123 (by kernel_rfl) (by kernel_rfl) h
def d6O(x0 w)(R:RT)(E):=
 opK pG E (xCall (fC 23) [x0,(Value.string ⟨#[42]⟩)]) w fun d a=>
 xcond d
 (R (vI 8) a)
 (oP E (xCall (fC 23) [x0,(Value.string ⟨#[47]⟩)]) a fun e b=>
 xcond e
 (R (vI 9) b)
 (oP E (xCall (fC 23) [x0,(Value.string ⟨#[37]⟩)]) b fun f c=>
 xcond f
 (R (vI 10) c)
 (R (vI 0) c)))
def d6P:Hint:=(sQ (hS (hB (sQ (hC (sQ hN) (sQ (hC (sQ hN) (sQ (hC (sQ hN) hN))))))) (sQ hN)))
theorem c9E{x0:Value}(h:d6O x0 w R E):Cv pG 124 #[x0] w R E:=okF (h:=d6P) Tryz.func124 (by kernel_rfl) (by kernel_rfl) h
def d6Q(x0 w)(R:RT)(E):=
 opK pG E (xCall (fC 141) [x0]) w fun a e=>
 oP E (gF a (xCall (fC 53) [(zF a x0),(Value.string ⟨#[116,114,117,101]⟩)])) e fun f g=>
 oP E (xPick a (vB true) f) g fun b i=>
 oP E (gF b (xCall (fC 53) [(zF b x0),(Value.string ⟨#[102,97,108,115,101]⟩)])) i fun j k=>
 oP E (xPick b (vB true) j) k fun c l=>
 oP E (gF c (xCall (fC 53) [(zF c x0),(Value.string ⟨#[33]⟩)])) l fun m n=>
 oP E (xPick c (vB true) m) n fun d o=>
 oP E (gF d (xCall (fC 53) [(zF d x0),(Value.string ⟨#[91]⟩)])) o fun p q=>
 oP E (xPick d (vB true) p) q fun r s=>
 R r s
def d6R:Hint:=(sQ (sQ hN))
theorem c9F{x0:Value}(h:d6Q x0 w R E):Cv pG 125 #[x0] w R E:=okF (h:=d6R) Tryz.func125 (by kernel_rfl) (by kernel_rfl) h
end Go.Proofs.YthklmeihgmcljaaGreatDoor
