/- The second reading of some of the program's functions, printed by gen2.py off the code; each is held against the code by the kernel. -/
import Derived.KernelRfl
import Derived.Test.YtaokfhdinhimfaaGreatDooryCGz
namespace Go.Proofs.YtaokfhdinhimfaaGreatDoor
open Go.RowKit
set_option maxRecDepth 100000
variable {w:World}{R:RT}{E:Pan}
def b8K(_x0 _x10 _x11 x12:Value)(w)(next1:NT)(_R:RT)(E):=
 ∀_τ:Fr,(oP E (bC .add 3 12 x12 (vI 1)) w fun a b=>
 next1 [a] b)
def b8L(x0 x5 _x10 _x11 _x12:Value)(w)(j2:NT)(_R:RT)(E):=
 ∀_τ:Fr,(oP E (fA 60 x5 4) w fun a b=>
 oP E (lA 23 a) b fun c d=>
 oP E (xCall (fC 94) [x0,c]) d fun _t71_21 e=>
 oP E (fA 60 x5 5) e fun f g=>
 oP E (lA 23 f) g fun i j=>
 oP E (xCall (fC 94) [x0,i]) j fun _t75_27 k=>
 j2 [] k)
def c2B(x0 _x5 _x10 _x11 _x12 x58 x59 x60:Value)(w)(next6:NT)(j5:NT)(_R:RT)(E):=
 opK pG E (bN .lss 3 60 59 x60 x59) w fun c a=>
 xcond c
 (oP E (iA 57 x58 x60) a fun d e=>
 oP E (lA 123 d) e fun f g=>
 oP E (xV (Instr.alloc 123 true (.tuple #[]))) g fun b i=>
 oP E (sA 123 b f) i fun _ j=>
 oP E (lA 123 b) j fun k l=>
 oP E (xCall (fC 109) [x0,k]) l fun _t66_49 m=>
 oP E (bC .add 3 60 x60 (vI 1)) m fun n o=>
 next6 [n] o)
 (j5 [] a)
def b8M(x0 x5 x10 x11 x12 w)(j2:NT)(R:RT)(E):=
 ∀_τ:Fr,(xcut (fun _ b=>b8L x0 x5 x10 x11 x12 b j2 R E) fun j5=>
 oP E (fA 60 x5 2) w fun c d=>
 oP E (lA 57 c) d fun a e=>
 oP E (xBuiltin .len #[57] 3 [false] [a]) e fun f g=>
 xloop [60] [(vI 0)] g fun i j next6=>
 c2B x0 x5 x10 x11 x12 a f (i 60) j next6 j5 R E)
def c2C(x0 _x5 _x10 _x11 _x12 x47 x48 x49:Value)(w)(next7:NT)(j4:NT)(_R:RT)(E):=
 opK pG E (bN .lss 3 49 48 x49 x48) w fun c a=>
 xcond c
 (oP E (iA 58 x47 x49) a fun d e=>
 oP E (lA 131 d) e fun f g=>
 oP E (xV (Instr.alloc 131 true (.tuple #[]))) g fun b i=>
 oP E (sA 131 b f) i fun _ j=>
 oP E (lA 131 b) j fun k l=>
 oP E (xCall (fC 108) [x0,k]) l fun _t55_75 m=>
 oP E (bC .add 3 49 x49 (vI 1)) m fun n o=>
 next7 [n] o)
 (j4 [] a)
def b8N(x0 x5 x10 x11 x12 w)(j2:NT)(R:RT)(E):=
 ∀_τ:Fr,(xcut (fun _ b=>b8M x0 x5 x10 x11 x12 b j2 R E) fun j4=>
 oP E (fA 60 x5 3) w fun c d=>
 oP E (lA 58 c) d fun a e=>
 oP E (xBuiltin .len #[58] 3 [false] [a]) e fun f g=>
 xloop [49] [(vI 0)] g fun i j next7=>
 c2C x0 x5 x10 x11 x12 a f (i 49) j next7 j4 R E)
def c2D(x0 x10 x11 x12 w)(next1:NT)(R:RT)(E):=
 opK pG E (bN .lss 3 12 11 x12 x11) w fun s k=>
 xcond s
 (xcut (fun _ t=>b8K x0 x10 x11 x12 t next1 R E) fun j2=>
 oP E (iA 23 x10 x12) k fun u v=>
 oP E (lA 60 u) v fun y z=>
 oP E (xV (Instr.alloc 60 true (.tuple #[]))) z fun a aa=>
 oP E (sA 60 a y) aa fun _ ab=>
 xcut (fun _ ac=>b8N x0 a x10 x11 x12 ac j2 R E) fun j3=>
 oP E (fA 60 a 0) ab fun ad ae=>
 oP E (lA 3 ad) ae fun l af=>
 oP E (bC .eql 3 17 l (vI 1)) af fun ag m=>
 xcond ag
 (dX m fun b=>
 qP pG (xNil x0) fun ah=>
 qP pG (fA 155 ah 0) fun d=>
 qP pG (fA 60 a 1) fun n=>
 qL pG b (blk d) (lA 153 d) fun ai=>
 qL pG b (blk n) (lA 9 n) fun aj=>
 qP pG (xV (Instr.build 158 #[(0,aj),(1,(vI 1))])) fun ak=>
 oP E (xV (Instr.buildSlice 153 1 #[(0,ak)])) b fun al e=>
 keepX [(blk d)] b e (opK pG E (xBuiltin .append #[153,153] 153 [false,false] [ai,al]) e fun am f=>
 keepX [] e f (qP pG (xNil x0) fun an=>
 qP pG (fA 155 an 0) fun ao=>
 oP E (sA 153 ao am) f fun _ o=>
 keepX [] f o (j3 [] o))))
 (oP E (bC .eql 3 17 l (vI 2)) m fun ap p=>
 xcond ap
 (dX p fun c=>
 qP pG (xNil x0) fun aq=>
 qP pG (fA 155 aq 0) fun g=>
 qP pG (fA 60 a 1) fun q=>
 qL pG c (blk g) (lA 153 g) fun ar=>
 qL pG c (blk q) (lA 9 q) fun au=>
 qP pG (xV (Instr.build 158 #[(0,au),(1,(vI 2))])) fun av=>
 oP E (xV (Instr.buildSlice 153 1 #[(0,av)])) c fun aw i=>
 keepX [(blk g)] c i (opK pG E (xBuiltin .append #[153,153] 153 [false,false] [ar,aw]) i fun ax j=>
 keepX [] i j (qP pG (xNil x0) fun ay=>
 qP pG (fA 155 ay 0) fun az=>
 oP E (sA 153 az ax) j fun _ r=>
 keepX [] j r (j3 [] r))))
 (j3 [] p)))
 (R (Value.tuple #[]) k)
def F94(x0 x1 w)(R:RT)(E):=
 opK pG E (xBuiltin .len #[23] 3 [false] [x1]) w fun a b=>
 xloop [12] [(vI 0)] b fun c d next1=>
 c2D x0 x1 a (c 12) d next1 R E
def h94:Hint:=(sQ (hB (hL [12] (sQ (hS (hC hN hN) (hU [] (hB (sQ (hU [] (sQ (hB (sQ (hC (.reg [(0,1048576,1),(0,2097152,1),(2,4194304,2097152),(4,8388608,4194304),(8,16777216,8388608),(0,33554432,32),(32,67108864,33554432),(64,134217728,67108864),(128,268435456,134217728),(272,536870912,285212672),(1023,1073741824,1048576),(2047,2147483648,1073741824),(3071,0,2684354560)] [80,80,80,80,64,80,16,80,16,0,80,80,0] (.early 0 (.early 1 (.early 2 (.early 3 (.early 5 (.load 4 (.load 6 (.early 7 (.step 8 (.step 9 (.early 10 (.early 11 (.step 12 .done)))))))))))))) (sQ (hC (.reg [(0,17179869184,1),(0,34359738368,1),(2,68719476736,34359738368),(4,137438953472,68719476736),(8,274877906944,137438953472),(0,549755813888,32),(32,1099511627776,549755813888),(64,2199023255552,1099511627776),(128,4398046511104,2199023255552),(272,8796093022208,4672924418048),(1023,17592186044416,17179869184),(2047,35184372088832,17592186044416),(3071,0,43980465111040)] [80,80,80,80,64,80,16,80,16,0,80,80,0] (.early 0 (.early 1 (.early 2 (.early 3 (.early 5 (.load 4 (.load 6 (.early 7 (.step 8 (.step 9 (.early 10 (.early 11 (.step 12 .done)))))))))))))) hN)))))) (hU [] (sQ (hB (hL [49] (sQ (hS (hC hN hN) (hS (hB (sQ hN)) hN)))))) (hU [] (sQ (hB (hL [60] (sQ (hS (hC hN hN) (hS (hB (sQ hN)) hN)))))) (sQ hN)))))) hN))))))
theorem c8j{x0 x1:Value}(h:F94 x0 x1 w R E):Cv pG 94 #[x0,x1] w R E:=okF (h:=h94) Tryz.func94 (by kernel_rfl) (by kernel_rfl) h
def c2E(w)(R:RT)(_E:Pan):=
 ∀_τ:Fr,(R (vI (-1)) w)
def c2F(x0 x1 x7 x8 w)(next2:NT)(j1:NT)(R:RT)(E):=
 opK pG E (bN .lss 3 8 7 x8 x7) w fun c a=>
 xcond c
 (oP E (iA 22 x0 x8) a fun d e=>
 oP E (lA 70 d) e fun f g=>
 oP E (xCall x1 [f]) g fun i b=>
 xcond i
 (R x8 b)
 (oP E (bC .add 3 8 x8 (vI 1)) b fun j k=>
 next2 [j] k))
 (j1 [] a)
def F95(x0 x1 w)(R:RT)(E):=
 xcut (fun _ a=>c2E a R E) fun j1=>
 oP E (xBuiltin .len #[22] 3 [false] [x0]) w fun b c=>
 xloop [8] [(vI 0)] c fun d e next2=>
 c2F x0 x1 b (d 8) e next2 j1 R E
def h95:Hint:=(sQ (hU [] (sQ (hB (hL [8] (sQ (hS (hC hN hN) (hS (hB (sQ (sQ (hC (sQ hN) hN)))) hN)))))) (sQ hN)))
theorem c8k{x0 x1:Value}(h:F95 x0 x1 w R E):Cv pG 95 #[x0,x1] w R E:=okF (h:=h95) Tryz.func95 (by kernel_rfl) (by kernel_rfl) h
def F96(x0 x1 w)(R:RT)(E):=
 opK pG E (xV (Instr.box 123 x1)) w fun b p=>
 oP E (xV (Instr.alloc 38 true (.tuple #[]))) p fun a q=>
 oP E (fA 123 b 0) q fun r s=>
 oP E (lA 3 r) s fun t u=>
 oP E (bC .eql 3 8 t (vI 1)) u fun v f=>
 xcond v
 (oP E (fA 123 b 1) f fun y z=>
 oP E (lA 2 y) z fun aa ab=>
 oP E (xV (Instr.build 38 #[(0,(vI (-1))),(1,aa)])) ab fun ac ad=>
 oP E (sA 38 a ac) ad fun _ g=>
 xcell pG 38 a g fun ae=>
 R (Value.tuple #[ae,(vB true)]) g)
 (oP E (fA 123 b 0) f fun af ag=>
 oP E (lA 3 af) ag fun ah ai=>
 oP E (bC .eql 3 15 ah (vI 5)) ai fun c aj=>
 oP E (gYs c (fA 123 b 3)) aj fun ak al=>
 oP E (gYs c (lA 57 ak)) al fun am an=>
 oP E (gYs c (iA 57 am (vI 0))) an fun ao ap=>
 oP E (gYs c (fA 123 ao 0)) ap fun aq ar=>
 oP E (gYs c (lA 3 aq)) ar fun au av=>
 oP E (gYs c (bC .eql 3 22 au (vI 1))) av fun aw ax=>
 oP E (xPick c aw (vB false)) ax fun ay i=>
 xcond ay
 (oP E (fA 123 b 3) i fun az ba=>
 oP E (lA 57 az) ba fun bb bc=>
 oP E (iA 57 bb (vI 0)) bc fun bd be=>
 oP E (fA 123 bd 1) be fun bf bg=>
 oP E (lA 2 bf) bg fun bh bi=>
 oP E (xV (Op.unary .neg bh)) bi fun bj bk=>
 oP E (xV (Instr.build 38 #[(0,(vI (-1))),(1,bj)])) bk fun bl bm=>
 oP E (sA 38 a bl) bm fun _ j=>
 xcell pG 38 a j fun bn=>
 R (Value.tuple #[bn,(vB true)]) j)
 (oP E (fA 123 b 0) i fun bo bp=>
 oP E (lA 3 bo) bp fun bq br=>
 oP E (bC .eql 3 34 bq (vI 2)) br fun bs k=>
 xcond bs
 (dX k fun d=>
 qP pG (xNil x0) fun bt=>
 qP pG (fA 68 bt 1) fun l=>
 qP pG (fA 123 b 2) fun m=>
 qL pG d (blk l) (lA 66 l) fun n=>
 qL pG d (blk m) (lA 9 m) fun bu=>
 qL pG d (blk n) (xV (Instr.lookup 66 n bu false)) fun bv=>
 qP pG (xV (Instr.build 38 #[(0,bv)])) fun bw=>
 oP E (sA 38 a bw) d fun _ e=>
 keepX [] d e (xcell pG 38 a e fun bz=>
 R (Value.tuple #[bz,(vB true)]) e))
 (oP E (xCall (fC 58) []) k fun ca cb=>
 oP E (sA 38 a ca) cb fun _ o=>
 xcell pG 38 a o fun cc=>
 R (Value.tuple #[cc,(vB false)]) o)))
def h96:Hint:=(sQ (hS (hB (sQ (hC (sQ hN) (sQ (hC (sQ hN) (sQ (hC (hS (.reg [(0,68719476736,1),(1,137438953472,68719476736),(2,274877906944,137438953472),(4,549755813888,274877906944),(0,1099511627776,8),(16,2199023255552,1099511627776),(40,4398046511104,2748779069440),(64,8796093022208,4398046511104),(255,0,8796093022224),(511,32,0)] [104,104,104,96,104,72,40,104,0,104] (.early 0 (.early 1 (.early 2 (.early 4 (.load 3 (.load 5 (.load 6 (.early 7 (.step 8 (.early 9 .done))))))))))) hN) hN))))))) (sQ hN)))
theorem c8l{x0 x1:Value}(h:F96 x0 x1 w R E):Cv pG 96 #[x0,x1] w R E:=okF (h:=h96) Tryz.func96 (by kernel_rfl) (by kernel_rfl) h
def b8O(x0 x12 w)(R:RT)(E):=
 ∀_τ:Fr,(oP E (lA 40 x12) w fun a b=>
 oP E (xCall (fC 69) [x0,a]) b fun _t67_21 c=>
 R (Value.tuple #[]) c)
def b8P(x0 x7 x12 w)(R:RT)(E):=
 ∀_τ:Fr,(xcut (fun _ g=>b8O x0 x12 g R E) fun j2=>
 oP E (fA 123 x7 0) w fun i j=>
 oP E (lA 3 i) j fun k l=>
 oP E (bC .eql 3 55 k (vI 4)) l fun m b=>
 xcond m
 (dX b fun a=>
 qP pG (xNil x0) fun n=>
 qP pG (fA 68 n 2) fun c=>
 qP pG (fA 123 x7 2) fun d=>
 qL pG a (blk c) (lA 66 c) fun e=>
 qL pG a (blk d) (lA 9 d) fun o=>
 qL pG a (blk e) (xV (Instr.lookup 66 e o false)) fun p=>
 qP pG (fA 40 x12 4) fun q=>
 oP E (sA 3 q p) a fun _ f=>
 keepX [] a f (j2 [] f))
 (j2 [] b))
def F97(x0 x1 x2 x3 x4 x5 w)(R:RT)(E):=
 opK pG E (xV (Instr.box 123 x1)) w fun b i=>
 oP E (fA 123 b 0) i fun j k=>
 oP E (lA 3 j) k fun l m=>
 oP E (xCall (fC 110) [l]) m fun n o=>
 oP E (xCall (fC 67) [x3,x4,n]) o fun p q=>
 oP E (xV (Instr.alloc 40 true (.tuple #[]))) q fun a r=>
 oP E (sA 40 a p) r fun _ s=>
 oP E (fA 40 a 3) s fun t u=>
 oP E (sA 3 t x2) u fun _ v=>
 xcut (fun _ y=>b8P x0 b a y R E) fun j1=>
 oP E (fA 123 b 3) v fun z aa=>
 oP E (lA 57 z) aa fun ab ac=>
 oP E (xBuiltin .len #[57] 3 [false] [ab]) ac fun d ad=>
 oP E (bC .eql 3 23 d (vI 1)) ad fun ae e=>
 xcond ae
 (oP E (fA 123 b 3) e fun af ag=>
 oP E (lA 57 af) ag fun ah ai=>
 oP E (iA 57 ah (vI 0)) ai fun aj ak=>
 oP E (lA 123 aj) ak fun al am=>
 oP E (xCall (fC 98) [x0,al,x3,x5]) am fun f an=>
 oP E (xT f 0) an fun ao ap=>
 oP E (xT f 1) ap fun aq ar=>
 oP E (fA 40 a 6) ar fun au av=>
 oP E (sA 38 au ao) av fun _ aw=>
 oP E (fA 40 a 0) aw fun ax ay=>
 oP E (sA 3 ax aq) ay fun _ az=>
 j1 [] az)
 (oP E (bC .eql 3 23 d (vI 2)) e fun ba g=>
 xcond ba
 (oP E (fA 123 b 3) g fun bb bc=>
 oP E (lA 57 bb) bc fun bd be=>
 oP E (xCall (fC 68) [x0,bd,x3,x5]) be fun c bf=>
 oP E (xT c 0) bf fun bg bh=>
 oP E (xT c 1) bh fun bi bj=>
 oP E (xT c 2) bj fun bk bl=>
 oP E (fA 40 a 6) bl fun bm bn=>
 oP E (sA 38 bm bg) bn fun _ bo=>
 oP E (fA 40 a 7) bo fun bp bq=>
 oP E (sA 38 bp bi) bq fun _ br=>
 oP E (fA 40 a 0) br fun bs bt=>
 oP E (sA 3 bs bk) bt fun _ bu=>
 j1 [] bu)
 (j1 [] g))
def h97:Hint:=(sQ (sQ (sQ (hU [] (sQ (hB (sQ (hC hN (sQ (hC hN hN)))))) (hU [] (sQ (hC (.reg [(0,144115188075855872,1),(1,288230376151711744,144115188075855872),(2,576460752303423488,288230376151711744),(4,1152921504606846976,576460752303423488),(0,2305843009213693952,128),(16,4611686018427387904,2305843009213693952),(40,9223372036854775808,5764607523034234880),(127,18446744073709551616,4096),(255,0,27670116110564327424)] [104,104,104,96,104,72,40,104,0] (.early 0 (.early 1 (.early 2 (.early 4 (.load 3 (.load 5 (.load 6 (.early 7 (.step 8 .done)))))))))) hN)) hN)))))
theorem c8m{x0 x1 x2 x3 x4 x5:Value}(h:F97 x0 x1 x2 x3 x4 x5 w R E):Cv pG 97 #[x0,x1,x2,x3,x4,x5] w R E:=okF (h:=h97) Tryz.func97 (by kernel_rfl) (by kernel_rfl) h
def F98(x0 x1 x2 x3 w)(R:RT)(E):=
 opK pG E (xV (Instr.box 123 x1)) w fun c k=>
 oP E (xV (Instr.alloc 38 true (.tuple #[]))) k fun a l=>
 oP E (lA 123 c) l fun m n=>
 oP E (xCall (fC 96) [x0,m]) n fun d o=>
 oP E (xT d 0) o fun p q=>
 oP E (xT d 1) q fun r s=>
 oP E (xV (Instr.alloc 38 true (.tuple #[]))) s fun e t=>
 oP E (sA 38 e p) t fun _ f=>
 xcond r
 (oP E (lA 38 e) f fun u v=>
 oP E (sA 38 a u) v fun _ g=>
 xcell pG 38 a g fun y=>
 R (Value.tuple #[y,x2]) g)
 (oP E (xCall (fC 23) [x0]) f fun i z=>
 oP E (xCall (fC 111) [x0,x3]) z fun aa ab=>
 oP E (xV (Instr.build 38 #[(0,aa)])) ab fun ac ad=>
 oP E (xV (Instr.alloc 38 true (.tuple #[]))) ad fun b ae=>
 oP E (sA 38 b ac) ae fun _ af=>
 oP E (lA 123 c) af fun ag ah=>
 oP E (fA 38 b 0) ah fun ai aj=>
 oP E (lA 3 ai) aj fun ak al=>
 oP E (xCall (fC 97) [x0,ag,ak,x2,i,x3]) al fun _t36_38 am=>
 oP E (lA 38 b) am fun an ao=>
 oP E (sA 38 a an) ao fun _ j=>
 xcell pG 38 a j fun ap=>
 R (Value.tuple #[ap,i]) j)
def h98:Hint:=(sQ (hS (sQ (sQ (hC (sQ hN) hN))) (sQ (sQ (sQ (sQ hN))))))
theorem c8n{x0 x1 x2 x3:Value}(h:F98 x0 x1 x2 x3 w R E):Cv pG 98 #[x0,x1,x2,x3] w R E:=okF (h:=h98) Tryz.func98 (by kernel_rfl) (by kernel_rfl) h
def F99(x0 x1 x2 w)(R:RT)(E):=
 opK pG E (xV (Instr.box 38 x1)) w fun d e=>
 dX e fun a=>
 qP pG (fA 38 d 0) fun b=>
 qP pG (xNil x0) fun f=>
 qP pG (fA 68 f 0) fun g=>
 qP pG (fA 30 g 0) fun c=>
 qL pG a (blk b) (lA 3 b) fun i=>
 qL pG a (blk c) (lA 27 c) fun j=>
 qP pG (xBuiltin .len #[27] 3 [false] [j]) fun k=>
 qP pG (bN .geq 3 8 14 i k) fun l=>
 xcond l
 (oP E (bC .add 3 16 x2 (vI 1)) a fun m n=>
 R m n)
 (R x2 a)
def h99:Hint:=(sQ (hS (hS (.reg [(0,128,16),(1,256,128),(0,512,1),(4,1024,512),(8,2048,1024),(16,4096,2048),(32,8192,4096),(64,16384,8192),(130,32768,16640)] [66,64,66,66,66,66,2,66,66] (.early 0 (.early 2 (.early 3 (.early 4 (.early 5 (.load 1 (.load 6 (.early 7 (.early 8 .done)))))))))) (hC (sQ hN) hN)) (sQ hN)))
theorem c8o{x0 x1 x2:Value}(h:F99 x0 x1 x2 w R E):Cv pG 99 #[x0,x1,x2] w R E:=okF (h:=h99) Tryz.func99 (by kernel_rfl) (by kernel_rfl) h
def c8p(x0 w)(R:RT)(E):=
 opK pG E (xV (Instr.box 25 x0)) w fun g k=>
 dX k fun a=>
 qP pG (fA 25 g 0) fun i=>
 qP pG (fA 25 g 1) fun b=>
 qL pG a (blk i) (lA 22 i) fun l=>
 qL pG a (blk b) (lA 23 b) fun m=>
 oP E (xCall (fC 119) [l,(fC 120)]) a fun n c=>
 keepX [(blk b)] a c (opK pG E (xCall (fC 121) [m,(fC 122)]) c fun o d=>
 keepX [] c d (opK pG E (xV (Instr.buildSlice 192 2 #[(0,n),(1,o)])) d fun p e=>
 keepX [] d e (opK pG E (xCall (fC 118) [p]) e fun q f=>
 keepX [] e f (opK pG E (xCall (fC 117) [q]) f fun r j=>
 keepX [] f j (R r j)))))
def d0x:Hint:=(sQ (hS (.reg [(0,8,2),(1,16,8),(2,32,16),(0,64,2),(8,128,64),(20,256,128),(36,512,288),(96,1024,512),(128,2048,1024),(511,4,2048)] [18,16,16,18,2,0,0,0,0,18] (.early 0 (.early 3 (.load 1 (.load 4 (.step 2 (.step 5 (.step 6 (.step 7 (.step 8 (.early 9 .done))))))))))) hN))
theorem c5E{x0:Value}(h:c8p x0 w R E):Cv pG 107 #[x0] w R E:=okF (h:=d0x) Tryz.func107 (by kernel_rfl) (by kernel_rfl) h
def b9X(x0 x20 x21 x22 w)(next2:NT)(R:RT)(E):=
 opK pG E (bN .lss 3 22 21 x22 x21) w fun c a=>
 xcond c
 (oP E (iA 58 x20 x22) a fun d e=>
 oP E (lA 131 d) e fun f g=>
 oP E (xV (Instr.alloc 131 true (.tuple #[]))) g fun b i=>
 oP E (sA 131 b f) i fun _ j=>
 oP E (lA 131 b) j fun k l=>
 oP E (xCall (fC 108) [x0,k]) l fun _t28_21 m=>
 oP E (bC .add 3 22 x22 (vI 1)) m fun n o=>
 next2 [n] o)
 (R (Value.tuple #[]) a)
def b5H(x0 x3 w)(R:RT)(E):=
 ∀_τ:Fr,(oP E (fA 131 x3 3) w fun b c=>
 oP E (lA 58 b) c fun a d=>
 oP E (xBuiltin .len #[58] 3 [false] [a]) d fun e f=>
 xloop [22] [(vI 0)] f fun g i next2=>
 b9X x0 a e (g 22) i next2 R E)
def b9Y(x0 _x3 x9 x10 x11:Value)(w)(next3:NT)(j1:NT)(_R:RT)(E):=
 opK pG E (bN .lss 3 11 10 x11 x10) w fun c a=>
 xcond c
 (oP E (iA 57 x9 x11) a fun d e=>
 oP E (lA 123 d) e fun f g=>
 oP E (xV (Instr.alloc 123 true (.tuple #[]))) g fun b i=>
 oP E (sA 123 b f) i fun _ j=>
 oP E (lA 123 b) j fun k l=>
 oP E (xCall (fC 109) [x0,k]) l fun _t17_47 m=>
 oP E (bC .add 3 11 x11 (vI 1)) m fun n o=>
 next3 [n] o)
 (j1 [] a)
def c8q(x0 x1 w)(R:RT)(E):=
 opK pG E (xV (Instr.box 131 x1)) w fun a c=>
 xcut (fun _ d=>b5H x0 a d R E) fun j1=>
 oP E (fA 131 a 2) c fun e f=>
 oP E (lA 57 e) f fun b g=>
 oP E (xBuiltin .len #[57] 3 [false] [b]) g fun i j=>
 xloop [11] [(vI 0)] j fun k l next3=>
 b9Y x0 a b i (k 11) l next3 j1 R E
def d0y:Hint:=(sQ (hU [] (sQ (hB (hL [11] (sQ (hS (hC hN hN) (hS (hB (sQ hN)) hN)))))) (sQ (hB (hL [22] (sQ (hS (hC hN hN) (hS (hB (sQ hN)) hN))))))))
theorem c5F{x0 x1:Value}(h:c8q x0 x1 w R E):Cv pG 108 #[x0,x1] w R E:=okF (h:=d0y) Tryz.func108 (by kernel_rfl) (by kernel_rfl) h
def b9Z(x0 x37 x38 x39 w)(next2:NT)(R:RT)(E):=
 opK pG E (bN .lss 3 39 38 x39 x38) w fun c a=>
 xcond c
 (oP E (iA 57 x37 x39) a fun d e=>
 oP E (lA 123 d) e fun f g=>
 oP E (xV (Instr.alloc 123 true (.tuple #[]))) g fun b i=>
 oP E (sA 123 b f) i fun _ j=>
 oP E (lA 123 b) j fun k l=>
 oP E (xCall (fC 109) [x0,k]) l fun _t45_21 m=>
 oP E (bC .add 3 39 x39 (vI 1)) m fun n o=>
 next2 [n] o)
 (R (Value.tuple #[]) a)
def b5I(x0 x3 w)(R:RT)(E):=
 ∀_τ:Fr,(oP E (fA 123 x3 3) w fun b c=>
 oP E (lA 57 b) c fun a d=>
 oP E (xBuiltin .len #[57] 3 [false] [a]) d fun e f=>
 xloop [39] [(vI 0)] f fun g i next2=>
 b9Z x0 a e (g 39) i next2 R E)
def c8r(x0 x1 w)(R:RT)(E):=
 opK pG E (xV (Instr.box 123 x1)) w fun a r=>
 xcut (fun _ s=>b5I x0 a s R E) fun j1=>
 oP E (fA 123 a 0) r fun t u=>
 oP E (lA 3 t) u fun k v=>
 oP E (bC .eql 3 7 k (vI 2)) v fun y l=>
 xcond y
 (dX l fun b=>
 qP pG (xNil x0) fun z=>
 qP pG (fA 155 z 0) fun d=>
 qP pG (fA 123 a 2) fun m=>
 qL pG b (blk d) (lA 153 d) fun aa=>
 qL pG b (blk m) (lA 9 m) fun ab=>
 qP pG (xV (Instr.build 158 #[(0,ab),(1,(vI 1))])) fun ac=>
 oP E (xV (Instr.buildSlice 153 1 #[(0,ac)])) b fun ad e=>
 keepX [(blk d)] b e (opK pG E (xBuiltin .append #[153,153] 153 [false,false] [aa,ad]) e fun ae f=>
 keepX [] e f (qP pG (xNil x0) fun af=>
 qP pG (fA 155 af 0) fun ag=>
 oP E (sA 153 ag ae) f fun _ n=>
 keepX [] f n (j1 [] n))))
 (oP E (bC .eql 3 7 k (vI 4)) l fun ah o=>
 xcond ah
 (dX o fun c=>
 qP pG (xNil x0) fun ai=>
 qP pG (fA 155 ai 0) fun g=>
 qP pG (fA 123 a 2) fun p=>
 qL pG c (blk g) (lA 153 g) fun aj=>
 qL pG c (blk p) (lA 9 p) fun ak=>
 qP pG (xV (Instr.build 158 #[(0,ak),(1,(vI 2))])) fun al=>
 oP E (xV (Instr.buildSlice 153 1 #[(0,al)])) c fun am i=>
 keepX [(blk g)] c i (opK pG E (xBuiltin .append #[153,153] 153 [false,false] [aj,am]) i fun an j=>
 keepX [] i j (qP pG (xNil x0) fun ao=>
 qP pG (fA 155 ao 0) fun ap=>
 oP E (sA 153 ap an) j fun _ q=>
 keepX [] j q (j1 [] q))))
 (j1 [] o))
def d0z:Hint:=(sQ (hU [] (sQ (hB (sQ (hC (.reg [(0,1024,1),(0,2048,1),(2,4096,2048),(4,8192,4096),(8,16384,8192),(0,32768,8),(32,65536,32768),(64,131072,65536),(128,262144,131072),(272,524288,278528),(1023,1048576,1024),(2047,2097152,1048576),(3071,0,2621440)] [80,80,80,80,64,80,16,80,16,0,80,80,0] (.early 0 (.early 1 (.early 2 (.early 3 (.early 5 (.load 4 (.load 6 (.early 7 (.step 8 (.step 9 (.early 10 (.early 11 (.step 12 .done)))))))))))))) (sQ (hC (.reg [(0,16777216,1),(0,33554432,1),(2,67108864,33554432),(4,134217728,67108864),(8,268435456,134217728),(0,536870912,8),(32,1073741824,536870912),(64,2147483648,1073741824),(128,4294967296,2147483648),(272,8589934592,4563402752),(1023,17179869184,16777216),(2047,34359738368,17179869184),(3071,0,42949672960)] [80,80,80,80,64,80,16,80,16,0,80,80,0] (.early 0 (.early 1 (.early 2 (.early 3 (.early 5 (.load 4 (.load 6 (.early 7 (.step 8 (.step 9 (.early 10 (.early 11 (.step 12 .done)))))))))))))) hN)))))) (sQ (hB (hL [39] (sQ (hS (hC hN hN) (hS (hB (sQ hN)) hN))))))))
theorem c5G{x0 x1:Value}(h:c8r x0 x1 w R E):Cv pG 109 #[x0,x1] w R E:=okF (h:=d0z) Tryz.func109 (by kernel_rfl) (by kernel_rfl) h
def c8s(x0 w)(R:RT)(E):=
 opK pG E (xV (Instr.build 187 #[(5,(vI 3)),(6,(vI 4)),(7,(vI 5)),(8,(vI 6)),(9,(vI 7)),(10,(vI 8)),(3,(vI 9)),(4,(vI 10))])) w fun a b=>
 oP E (xV (Instr.index 187 a x0)) b fun c d=>
 R c d
def d0A:Hint:=(sQ (sQ hN))
theorem c5H{x0:Value}(h:c8s x0 w R E):Cv pG 110 #[x0] w R E:=okF (h:=d0A) Tryz.func110 (by kernel_rfl) (by kernel_rfl) h
def c8t(x0 x1 w)(R:RT)(E):=
 opK pG E (xNil x0) w fun a b=>
 oP E (fA 68 a 0) b fun c d=>
 oP E (fA 30 c 1) d fun e f=>
 oP E (lA 3 e) f fun g i=>
 oP E (bC .add 3 11 x1 (vI 1)) i fun j k=>
 oP E (xBuiltin .max #[3,3] 3 [false,false] [g,j]) k fun l m=>
 oP E (xNil x0) m fun n o=>
 oP E (fA 68 n 0) o fun p q=>
 oP E (fA 30 p 1) q fun r s=>
 oP E (sA 3 r l) s fun _ t=>
 oP E (xNil x0) t fun u v=>
 oP E (fA 68 u 0) v fun y z=>
 oP E (fA 30 y 0) z fun aa ab=>
 oP E (lA 27 aa) ab fun ac ad=>
 oP E (xBuiltin .len #[27] 3 [false] [ac]) ad fun ae af=>
 oP E (bN .add 3 22 23 ae x1) af fun ag ah=>
 R ag ah
def d0B:Hint:=(sQ (sQ (sQ hN)))
theorem c5I{x0 x1:Value}(h:c8t x0 x1 w R E):Cv pG 111 #[x0,x1] w R E:=okF (h:=d0B) Tryz.func111 (by kernel_rfl) (by kernel_rfl) h
def b5J(x3 w)(R:RT)(E):=
 ∀_τ:Fr,(oP E (lA 170 x3) w fun a b=>
 R a b)
def c8u(x0 w)(R:RT)(E):=
 opK pG E (xV (Instr.build 169 #[])) w fun f g=>
 oP E (xV (Instr.box 169 f)) g fun i j=>
 oP E (xV (Instr.alloc 170 true (.tuple #[]))) j fun a k=>
 oP E (sA 170 a i) k fun _ l=>
 oP E (xV (Instr.alloc 189 true (.tuple #[]))) l fun b m=>
 oP E (xV (Instr.makeFunc (.func 124) #[] #[a,b])) m fun n o=>
 oP E (sA 189 b n) o fun _ p=>
 xcut (fun _ q=>b5J a q R E) fun j1=>
 oP E (lA 189 b) p fun r s=>
 oP E (xCall r [x0,(vI 1)]) s fun t u=>
 oP E (xV (Op.unary .not t)) u fun v c=>
 xcond v
 (j1 [] c)
 (oP E (lA 170 a) c fun y z=>
 oP E (xNil y) z fun aa ab=>
 oP E (fA 169 aa 3) ab fun ac ad=>
 oP E (lA 4 ac) ad fun ae d=>
 xcond ae
 (oP E (lA 170 a) d fun af ag=>
 oP E (xNil af) ag fun ah ai=>
 oP E (fA 169 ah 2) ai fun aj ak=>
 oP E (sA 31 aj (vI 30)) ak fun _ al=>
 j1 [] al)
 (oP E (lA 170 a) d fun am an=>
 oP E (xNil am) an fun ao ap=>
 oP E (fA 169 ao 4) ap fun aq ar=>
 oP E (lA 4 aq) ar fun au e=>
 xcond au
 (oP E (lA 170 a) e fun av aw=>
 oP E (xNil av) aw fun ax ay=>
 oP E (fA 169 ax 2) ay fun az ba=>
 oP E (sA 31 az (vI 31)) ba fun _ bb=>
 j1 [] bb)
 (j1 [] e)))
def d0C:Hint:=(sQ (sQ (sQ (sQ (hU [] (sQ (hB (sQ (hC hN (sQ (hC hN (sQ (hC hN hN)))))))) (sQ hN))))))
theorem c5J{x0:Value}(h:c8u x0 w R E):Cv pG 117 #[x0] w R E:=okF (h:=d0C) Tryz.func117 (by kernel_rfl) (by kernel_rfl) h
def b5K(x6 w)(R:RT)(_E:Pan):=
 ∀_τ:Fr,(R x6 w)
def c0a(x6 x25 x26 x27 w)(next3:NT)(j2:NT)(_R:RT)(E):=
 opK pG E (bN .lss 3 27 26 x27 x26) w fun b a=>
 xcond b
 (oP E (iA 192 x25 x27) a fun c d=>
 oP E (lA 179 c) d fun e f=>
 oP E (xBuiltin .append #[179,179] 179 [false,false] [x6,e]) f fun g i=>
 oP E (bC .add 3 27 x27 (vI 1)) i fun j k=>
 next3 [g,j] k)
 (j2 [x6] a)
def b5L(x0 x3 w)(R:RT)(E):=
 ∀_τ:Fr,(oP E (xCall (fC 126) [(nS),x3]) w fun b c=>
 xcut (fun d e=>b5K (nth d 0) e R E) fun j2=>
 oP E (xBuiltin .len #[192] 3 [false] [x0]) c fun f g=>
 xloop [6,27] [b,(vI 0)] g fun a i next3=>
 c0a (a 6) x0 f (a 27) i next3 j2 R E)
def b5M(_x0 x3 _x9 _x10 x11:Value)(w)(next4:NT)(_R:RT)(E):=
 ∀_τ:Fr,(oP E (bC .add 3 11 x11 (vI 1)) w fun a b=>
 next4 [x3,a] b)
def c0b(x0 x3 x9 x10 x11 w)(next4:NT)(j1:NT)(R:RT)(E):=
 opK pG E (bN .lss 3 11 10 x11 x10) w fun d b=>
 xcond d
 (xcut (fun e f=>b5M x0 (nth e 0) x9 x10 x11 f next4 R E) fun j5=>
 oP E (iA 192 x9 x11) b fun g i=>
 oP E (lA 179 g) i fun j k=>
 oP E (xBuiltin .len #[179] 3 [false] [j]) k fun l m=>
 oP E (bN .add 3 15 17 x3 l) m fun a n=>
 oP E (bC .lss 3 19 a (vI 0)) n fun o c=>
 xcond o
 (oP E (xV (Instr.makeInterface 9 (Value.string ⟨#[108,101,110,32,111,117,116,32,111,102,32,114,97,110,103,101]⟩))) c fun p q=>
 oP E (xV (Instr.panic p)) q fun _ r=>
 j5 [a] r)
 (j5 [a] c))
 (j1 [x3] b)
def c8v(x0 w)(R:RT)(E):=
 xcut (fun b c=>b5L x0 (nth b 0) c R E) fun j1=>
 oP E (xBuiltin .len #[192] 3 [false] [x0]) w fun d e=>
 xloop [3,11] [(vI 0),(vI 0)] e fun a f next4=>
 c0b x0 (a 3) x0 d (a 11) f next4 j1 R E
def d0D:Hint:=(sQ (sQ (hU [3] (sQ (hB (hL [3,11] (sQ (hS (hC hN hN) (hU [3] (hB (sQ (sQ (sQ (hC hN hN))))) hN)))))) (sQ (hU [6] (sQ (hB (hL [6,27] (sQ (hS (hC hN hN) (hS (hB (sQ hN)) hN)))))) (sQ hN))))))
theorem c5K{x0:Value}(h:c8v x0 w R E):Cv pG 118 #[x0] w R E:=okF (h:=d0D) Tryz.func118 (by kernel_rfl) (by kernel_rfl) h
def b5N(x5 w)(R:RT)(_E:Pan):=
 ∀_τ:Fr,(R x5 w)
def c0c(x1 x5 x8 x9 x10 w)(next2:NT)(j1:NT)(_R:RT)(E):=
 opK pG E (bN .lss 3 10 9 x10 x9) w fun c a=>
 xcond c
 (oP E (iA 22 x8 x10) a fun d e=>
 oP E (lA 70 d) e fun f g=>
 oP E (xV (Instr.alloc 70 true (.tuple #[]))) g fun b i=>
 oP E (sA 70 b f) i fun _ j=>
 oP E (lA 70 b) j fun k l=>
 oP E (xCall x1 [k]) l fun m n=>
 oP E (xV (Instr.buildSlice 179 1 #[(0,m)])) n fun o p=>
 oP E (xBuiltin .append #[179,179] 179 [false,false] [x5,o]) p fun q r=>
 oP E (bC .add 3 10 x10 (vI 1)) r fun s t=>
 next2 [q,s] t)
 (j1 [x5] a)
def c8w(x0 x1 w)(R:RT)(E):=
 xcut (fun b c=>b5N (nth b 0) c R E) fun j1=>
 oP E (xBuiltin .len #[22] 3 [false] [x0]) w fun d e=>
 xloop [5,10] [(nS),(vI 0)] e fun a f next2=>
 c0c x1 (a 5) x0 d (a 10) f next2 j1 R E
def d0E:Hint:=(sQ (sQ (hU [5] (sQ (hB (hL [5,10] (sQ (hS (hC hN hN) (hS (hB (sQ hN)) hN)))))) (sQ hN))))
theorem c5L{x0 x1:Value}(h:c8w x0 x1 w R E):Cv pG 119 #[x0,x1] w R E:=okF (h:=d0E) Tryz.func119 (by kernel_rfl) (by kernel_rfl) h
def c8x(x0 w)(R:RT)(E):=
 opK pG E (xV (Instr.box 70 x0)) w fun a b=>
 oP E (lA 70 a) b fun c d=>
 oP E (xV (Instr.build 195 #[(0,c)])) d fun e f=>
 oP E (xV (Instr.makeInterface 195 e)) f fun g i=>
 R g i
def d0F:Hint:=(sQ (sQ hN))
theorem c5M{x0:Value}(h:c8x x0 w R E):Cv pG 120 #[x0] w R E:=okF (h:=d0F) Tryz.func120 (by kernel_rfl) (by kernel_rfl) h
def b5O(x5 w)(R:RT)(_E:Pan):=
 ∀_τ:Fr,(R x5 w)
def c0d(x1 x5 x8 x9 x10 w)(next2:NT)(j1:NT)(_R:RT)(E):=
 opK pG E (bN .lss 3 10 9 x10 x9) w fun c a=>
 xcond c
 (oP E (iA 23 x8 x10) a fun d e=>
 oP E (lA 60 d) e fun f g=>
 oP E (xV (Instr.alloc 60 true (.tuple #[]))) g fun b i=>
 oP E (sA 60 b f) i fun _ j=>
 oP E (lA 60 b) j fun k l=>
 oP E (xCall x1 [k]) l fun m n=>
 oP E (xV (Instr.buildSlice 179 1 #[(0,m)])) n fun o p=>
 oP E (xBuiltin .append #[179,179] 179 [false,false] [x5,o]) p fun q r=>
 oP E (bC .add 3 10 x10 (vI 1)) r fun s t=>
 next2 [q,s] t)
 (j1 [x5] a)
def c8y(x0 x1 w)(R:RT)(E):=
 xcut (fun b c=>b5O (nth b 0) c R E) fun j1=>
 oP E (xBuiltin .len #[23] 3 [false] [x0]) w fun d e=>
 xloop [5,10] [(nS),(vI 0)] e fun a f next2=>
 c0d x1 (a 5) x0 d (a 10) f next2 j1 R E
def d0G:Hint:=(sQ (sQ (hU [5] (sQ (hB (hL [5,10] (sQ (hS (hC hN hN) (hS (hB (sQ hN)) hN)))))) (sQ hN))))
theorem c5N{x0 x1:Value}(h:c8y x0 x1 w R E):Cv pG 121 #[x0,x1] w R E:=okF (h:=d0G) Tryz.func121 (by kernel_rfl) (by kernel_rfl) h
def c8z(x0 w)(R:RT)(E):=
 opK pG E (xV (Instr.box 60 x0)) w fun a b=>
 oP E (lA 60 a) b fun c d=>
 oP E (xV (Instr.build 197 #[(0,c)])) d fun e f=>
 oP E (xV (Instr.makeInterface 197 e)) f fun g i=>
 R g i
def d0H:Hint:=(sQ (sQ hN))
theorem c5O{x0:Value}(h:c8z x0 w R E):Cv pG 122 #[x0] w R E:=okF (h:=d0H) Tryz.func122 (by kernel_rfl) (by kernel_rfl) h
def b5P(w)(R:RT)(_E:Pan):=
 ∀_τ:Fr,(R (vB true) w)
def c0e(x1 x2 x3 x9 x10 x11 w)(next2:NT)(j1:NT)(R:RT)(E):=
 opK pG E (bN .lss 3 11 10 x11 x10) w fun i f=>
 xcond i
 (oP E (iA 179 x9 x11) f fun j k=>
 oP E (lA 182 j) k fun g l=>
 dX l fun c=>
 qL pG c (blk x2) (lA 170 x2) fun m=>
 oP E (xCall (fC 125) [m,g,x1]) c fun n b=>
 keepX [] c b (qP pG (xV (Op.unary .not n)) fun a=>
 qP pG (gNo a (bC .add 3 24 (zF a x1) (vI 1))) fun o=>
 qL pG b (blk x3) (gNo a (lA 189 x3)) fun p=>
 oP E (gNo a (xInvoke (zF a g) "gnomon/tree.parts" [])) b fun q d =>
 keepX [(blk x3)] b d (opK pG E (gNo a (xCall p [q,o])) d fun r e=>
 keepX [] d e (qP pG (gNo a (xV (Op.unary .not r))) fun s=>
 qP pG (xPick a (vB true) s) fun t=>
 xcond t
 (R (vB false) e)
 (oP E (bC .add 3 11 x11 (vI 1)) e fun u v=>
 next2 [u] v)))))
 (j1 [] f)
def c8A(x0 x1 x2 x3 w)(R:RT)(E):=
 xcut (fun _ a=>b5P a R E) fun j1=>
 oP E (xBuiltin .len #[179] 3 [false] [x0]) w fun b c=>
 xloop [11] [(vI 0)] c fun d e next2=>
 c0e x1 x2 x3 x0 b (d 11) e next2 j1 R E
def d0I:Hint:=(sQ (hU [] (sQ (hB (hL [11] (sQ (hS (hC hN hN) (hS (hB (sQ (hS (.reg [(0,32768,4),(0,65536,256),(0,131072,2),(7,262144,229376),(8,524288,262144),(24,1048576,524288),(32,2097152,1048584),(32,4194304,1048832),(160,8388608,5242880),(32,16777216,1048578),(544,33554432,17825792),(1376,67108864,45088768),(2080,134217728,68157440),(4128,268435456,135266304)] [64,65,65,0,65,65,1,65,64,65,65,0,65,65] (.early 1 (.early 2 (.load 0 (.step 3 (.early 4 (.early 5 (.early 7 (.early 9 (.early 10 (.load 6 (.step 8 (.step 11 (.early 12 (.early 13 .done))))))))))))))) (hC (sQ hN) hN)))) hN)))))) (sQ hN)))
theorem c5P{x0 x1 x2 x3:Value}(h:c8A x0 x1 x2 x3 w R E):Cv pG 124 #[x0,x1,x2,x3] w R E:=okF (h:=d0I) Tryz.func124 (by kernel_rfl) (by kernel_rfl) h
def b5Q(w)(R:RT)(_E:Pan):=
 ∀_τ:Fr,(R (vB true) w)
def c8B(x0 x1 x2 w)(R:RT)(E):=
 opK pG E (xNil x0) w fun j k=>
 oP E (fA 169 j 0) k fun l m=>
 oP E (lA 3 l) m fun n o=>
 oP E (bC .add 3 12 n (vI 1)) o fun p q=>
 oP E (xNil x0) q fun r s=>
 oP E (fA 169 r 0) s fun t u=>
 oP E (sA 3 t p) u fun _ v=>
 oP E (xNil x0) v fun y z=>
 oP E (fA 169 y 0) z fun aa ab=>
 oP E (lA 3 aa) ab fun ac ad=>
 oP E (bC .gtr 3 19 ac (vI 4096)) ad fun ae d=>
 xcond ae
 (oP E (xNil x0) d fun af ag=>
 oP E (fA 169 af 2) ag fun ah ai=>
 oP E (sA 31 ah (vI 33)) ai fun _ aj=>
 R (vB false) aj)
 (oP E (bC .gtr 3 24 x2 (vI 64)) d fun ak e=>
 xcond ak
 (oP E (xNil x0) e fun al am=>
 oP E (fA 169 al 2) am fun an ao=>
 oP E (sA 31 an (vI 32)) ao fun _ ap=>
 R (vB false) ap)
 (oP E (xNil x0) e fun aq ar=>
 oP E (fA 169 aq 1) ar fun au av=>
 oP E (lA 3 au) av fun aw ax=>
 oP E (xBuiltin .max #[3,3] 3 [false,false] [aw,x2]) ax fun ay az=>
 oP E (xNil x0) az fun ba bb=>
 oP E (fA 169 ba 1) bb fun bc bd=>
 oP E (sA 3 bc ay) bd fun _ be=>
 oP E (xNil x0) be fun bf bg=>
 oP E (fA 169 bf 3) bg fun bh bi=>
 oP E (lA 4 bh) bi fun a bj=>
 oP E (gNo a (xInvoke (zF a x1) "gnomon/tree.form" [])) bj fun bk bl =>
 oP E (gNo a (xV (Op.unary .not bk))) bl fun bm bn=>
 oP E (xPick a (vB true) bm) bn fun bo bp=>
 oP E (xNil x0) bp fun bq br=>
 oP E (fA 169 bq 3) br fun bs bt=>
 oP E (sA 4 bs bo) bt fun _ bu=>
 xcut (fun _ bv=>b5Q bv R E) fun j1=>
 oP E (xCall (fC 127) [x1]) bu fun f bw=>
 oP E (xT f 0) bw fun c bz=>
 oP E (xT f 1) bz fun ca g=>
 xcond ca
 (oP E (xNil x0) g fun cb cc=>
 oP E (fA 169 cb 4) cc fun cd ce=>
 oP E (lA 4 cd) ce fun b cf=>
 oP E (gNo b (xCall (fC 128) [(zF b c)])) cf fun cg ch=>
 oP E (gNo b (xV (Op.unary .not cg))) ch fun ci cj=>
 oP E (xPick b (vB true) ci) cj fun ck cl=>
 oP E (xNil x0) cl fun cm cn=>
 oP E (fA 169 cm 4) cn fun co cp=>
 oP E (sA 4 co ck) cp fun _ cq=>
 oP E (xNil x0) cq fun cr cs=>
 oP E (fA 169 cr 5) cs fun ct cu=>
 oP E (lA 27 ct) cu fun cv cw=>
 oP E (xCall (fC 129) [cv,c]) cw fun cx cy=>
 oP E (xV (Op.unary .not cx)) cy fun cz i=>
 xcond cz
 (oP E (xNil x0) i fun da db=>
 oP E (fA 169 da 5) db fun dc dd=>
 oP E (lA 27 dc) dd fun de df=>
 oP E (xV (Instr.buildSlice 27 1 #[(0,c)])) df fun dg dh=>
 oP E (xBuiltin .append #[27,27] 27 [false,false] [de,dg]) dh fun di dj=>
 oP E (xNil x0) dj fun dk dl=>
 oP E (fA 169 dk 5) dl fun dm dn=>
 oP E (sA 27 dm di) dn fun _ dp=>
 j1 [] dp)
 (j1 [] i))
 (j1 [] g)))
def d0J:Hint:=(sQ (hS (sQ (sQ (hC (sQ (sQ hN)) hN))) (hS (sQ (hC (sQ (sQ hN)) hN)) (sQ (sQ (hU [] (sQ (sQ (hC (sQ (sQ (hC hN hN))) hN))) (sQ hN)))))))
theorem c5Q{x0 x1 x2:Value}(h:c8B x0 x1 x2 w R E):Cv pG 125 #[x0,x1,x2] w R E:=okF (h:=d0J) Tryz.func125 (by kernel_rfl) (by kernel_rfl) h
def b5R(x0 w)(R:RT)(_E:Pan):=
 ∀_τ:Fr,(R x0 w)
def c0f(x0 x1 w)(R:RT)(E):=
 ∀_τ:Fr,(xcut (fun c d=>b5R (nth c 0) d R E) fun j2=>
 oP E (xBuiltin .cap #[179] 3 [false] [x0]) w fun e f=>
 oP E (xBuiltin .len #[179] 3 [false] [x0]) f fun g i=>
 oP E (bN .sub 3 10 12 e g) i fun j k=>
 oP E (bN .sub 3 8 13 x1 j) k fun a l=>
 oP E (bC .gtr 3 15 a (vI 0)) l fun m b=>
 xcond m
 (oP E (xBuiltin .cap #[179] 3 [false] [x0]) b fun n o=>
 oP E (xV (Instr.sliceAt 179 x0 none (some n) none)) o fun p q=>
 oP E (xBuiltin .append #[179,3] 179 [false,false] [p,a]) q fun r s=>
 oP E (xBuiltin .len #[179] 3 [false] [x0]) s fun t u=>
 oP E (xV (Instr.sliceAt 179 r none (some t) none)) u fun v y=>
 j2 [v] y)
 (j2 [x0] b))
def c8C(x0 x1 w)(R:RT)(E):=
 xcut (fun _ b=>c0f x0 x1 b R E) fun j1=>
 oP E (bC .lss 3 5 x1 (vI 0)) w fun c a=>
 xcond c
 (oP E (xV (Instr.makeInterface 9 (Value.string ⟨#[99,97,110,110,111,116,32,98,101,32,110,101,103,97,116,105,118,101]⟩))) a fun d e=>
 oP E (xV (Instr.panic d)) e fun _ f=>
 j1 [] f)
 (j1 [] a)
def d0K:Hint:=(sQ (hU [] (sQ (hC hN hN)) (hU [0] (sQ (sQ (hC hN hN))) (sQ hN))))
theorem c5R{x0 x1:Value}(h:c8C x0 x1 w R E):Cv pG 126 #[x0,x1] w R E:=okF (h:=d0K) Tryz.func126 (by kernel_rfl) (by kernel_rfl) h
def c8D(x0 w)(R:RT)(E):=
 opK pG E (xV (Instr.typeAssert x0 182 195 true)) w fun g u=>
 oP E (xT g 1) u fun v y=>
 oP E (xT g 0) y fun z i=>
 xcond v
 (oP E (xV (Instr.alloc 195 true (.tuple #[]))) i fun j aa=>
 oP E (sA 195 j z) aa fun _ ab=>
 oP E (fA 195 j 0) ab fun ac ad=>
 oP E (fA 70 ac 0) ad fun ae af=>
 oP E (lA 9 ae) af fun ag ah=>
 R (Value.tuple #[ag,(vB true)]) ah)
 (oP E (xV (Instr.typeAssert x0 182 197 true)) i fun k ai=>
 oP E (xT k 1) ai fun aj ak=>
 oP E (xT k 0) ak fun al l=>
 xcond aj
 (oP E (xV (Instr.alloc 197 true (.tuple #[]))) l fun c am=>
 oP E (sA 197 c al) am fun _ an=>
 dX an fun d=>
 qP pG (fA 197 c 0) fun ao=>
 qP pG (fA 60 ao 1) fun m=>
 qP pG (fA 197 c 0) fun ap=>
 qP pG (fA 60 ap 0) fun n=>
 qL pG d (blk m) (lA 9 m) fun aq=>
 qL pG d (blk n) (lA 3 n) fun ar=>
 qP pG (bC .eql 3 22 ar (vI 1)) fun a=>
 qP pG (gNo a (fA 197 c 0)) fun au=>
 qP pG (gNo a (fA 60 au 0)) fun o=>
 qL pG d (blk o) (gNo a (lA 3 o)) fun av=>
 qP pG (gNo a (bC .eql 3 27 av (vI 2))) fun aw=>
 qP pG (xPick a (vB true) aw) fun ax=>
 R (Value.tuple #[aq,ax]) d)
 (oP E (xV (Instr.typeAssert x0 182 202 true)) l fun p ay=>
 oP E (xT p 1) ay fun az ba=>
 oP E (xT p 0) ba fun bb q=>
 xcond az
 (oP E (xV (Instr.alloc 202 true (.tuple #[]))) q fun e bc=>
 oP E (sA 202 e bb) bc fun _ bd=>
 dX bd fun f=>
 qP pG (fA 202 e 0) fun be=>
 qP pG (fA 123 be 2) fun r=>
 qP pG (fA 202 e 0) fun bf=>
 qP pG (fA 123 bf 0) fun s=>
 qL pG f (blk r) (lA 9 r) fun bg=>
 qL pG f (blk s) (lA 3 s) fun bh=>
 qP pG (bC .eql 3 38 bh (vI 2)) fun b=>
 qP pG (gNo b (fA 202 e 0)) fun bi=>
 qP pG (gNo b (fA 123 bi 0)) fun t=>
 qL pG f (blk t) (gNo b (lA 3 t)) fun bj=>
 qP pG (gNo b (bC .eql 3 43 bj (vI 4))) fun bk=>
 qP pG (xPick b (vB true) bk) fun bl=>
 R (Value.tuple #[bg,bl]) f)
 (R (Value.tuple #[(eS),(vB false)]) q)))
def d0L:Hint:=(sQ (hS (sQ (hB (sQ (hC (sQ (sQ hN)) (sQ (hC (sQ (hS (.reg [(0,131072,32),(1,262144,131072),(2,524288,262144),(0,1048576,32),(8,2097152,1048576),(16,4194304,2097152),(32,8388608,4194304),(64,16777216,8388608),(128,33554432,16777248),(384,67108864,50331648),(640,134217728,83886080),(1152,268435456,150994944),(2176,536870912,285212672),(135,4,524288),(16383,8,536870912)] [1060,1060,1056,1060,1060,1028,1060,1060,1060,1060,36,1060,1060,1060,1060] (.early 0 (.early 1 (.early 3 (.early 4 (.load 2 (.load 5 (.early 6 (.early 7 (.early 8 (.early 9 (.early 13 (.load 10 (.early 11 (.early 12 (.early 14 .done)))))))))))))))) hN)) (sQ (hC (sQ (hS (.reg [(0,8589934592,64),(1,17179869184,8589934592),(2,34359738368,17179869184),(0,68719476736,64),(8,137438953472,68719476736),(16,274877906944,137438953472),(32,549755813888,274877906944),(64,1099511627776,549755813888),(128,2199023255552,1099511627840),(384,4398046511104,3298534883328),(640,8796093022208,5497558138880),(1152,17592186044416,9895604649984),(2176,35184372088832,18691697672192),(135,4,34359738368),(16383,8,35184372088832)] [1060,1060,1056,1060,1060,1028,1060,1060,1060,1060,36,1060,1060,1060,1060] (.early 0 (.early 1 (.early 3 (.early 4 (.load 2 (.load 5 (.early 6 (.early 7 (.early 8 (.early 9 (.early 13 (.load 10 (.early 11 (.early 12 (.early 14 .done)))))))))))))))) hN)) hN)))))))) (sQ hN)))
theorem c5S{x0:Value}(h:c8D x0 w R E):Cv pG 127 #[x0] w R E:=okF (h:=d0L) Tryz.func127 (by kernel_rfl) (by kernel_rfl) h
def b5S(w)(R:RT)(_E:Pan):=
 ∀_τ:Fr,(R (vB true) w)
def c0g(x21 w)(next2:NT)(j1:NT)(R:RT)(E):=
 opK pG E (xV (Instr.next x21 true 0)) w fun c g=>
 oP E (xT c 0) g fun i d=>
 xcond i
 (oP E (xT c 1) d fun j k=>
 oP E (xT c 2) k fun e l=>
 oP E (xCall (fC 133) [e]) l fun m n=>
 oP E (xV (Op.unary .not m)) n fun a o=>
 oP E (gNo a (bC .eql 3 30 (zF a j) (vI 0))) o fun b p=>
 oP E (gsem (asB (zF a b)) true (xCall (fC 134) [(gval (asB (zF a b)) true e)])) p fun q r=>
 oP E (gsem (asB (zF a b)) true (bC .neq 3 34 q (vI 3))) r fun s t=>
 oP E (gNo a (xPick (zF a b) s (vB false))) t fun u v=>
 oP E (xPick a (vB true) u) v fun y f=>
 xcond y
 (R (vB false) f)
 (next2 [] f))
 (j1 [] d)
def c8E(x0 w)(R:RT)(E):=
 opK pG E (bC .eql 9 5 x0 (eS)) w fun a e=>
 oP E (gNo a (xCall (fC 130) [(zF a x0)])) e fun f g=>
 oP E (gNo a (xV (Op.unary .not f))) g fun i j=>
 oP E (xPick a (vB true) i) j fun b k=>
 oP E (gNo b (xCall (fC 131) [(zF b x0)])) k fun l m=>
 oP E (xPick b (vB true) l) m fun c n=>
 oP E (gNo c (xCall (fC 132) [(zF c x0)])) n fun o p=>
 oP E (xPick c (vB true) o) p fun q d=>
 xcond q
 (R (vB false) d)
 (xcut (fun _ r=>b5S r R E) fun j1=>
 oP E (xV (Instr.range 9 x0)) d fun s t=>
 xloop [] [] t fun _ u next2=>
 c0g s u next2 j1 R E)
def d0M:Hint:=(sQ (hS (sQ (hC (sQ hN) hN)) (hU [] (sQ (hB (hL [] (sQ (hS (hC hN hN) (hB (sQ (sQ (hC (sQ hN) hN))))))))) (sQ hN))))
theorem c5T{x0:Value}(h:c8E x0 w R E):Cv pG 128 #[x0] w R E:=okF (h:=d0M) Tryz.func128 (by kernel_rfl) (by kernel_rfl) h
def c8F(x0 x1 w)(R:RT)(E):=
 opK pG E (xCall (fC 135) [x0,x1]) w fun a b=>
 oP E (bC .geq 3 7 a (vI 0)) b fun c d=>
 R c d
def d0N:Hint:=(sQ (sQ hN))
theorem c5U{x0 x1:Value}(h:c8F x0 x1 w R E):Cv pG 129 #[x0,x1] w R E:=okF (h:=d0N) Tryz.func129 (by kernel_rfl) (by kernel_rfl) h
def c8G(x0 w)(R:RT)(E):=
 opK pG E (xCall (fC 137) [x0]) w fun a b=>
 oP E (bC .gtr 3 4 a (vI 32)) b fun c d=>
 R c d
def d0O:Hint:=(sQ (sQ hN))
theorem c5V{x0:Value}(h:c8G x0 w R E):Cv pG 131 #[x0] w R E:=okF (h:=d0O) Tryz.func131 (by kernel_rfl) (by kernel_rfl) h
def b5T(x4 w)(R:RT)(_E:Pan):=
 ∀_τ:Fr,(xcond x4
 (R (vB true) w)
 (R (vB false) w))
def c8H(x0 w)(R:RT)(E):=
 xcut (fun v y=>b5T (nth v 0) y R E) fun j1=>
 oP E (bC .eql 9 3 x0 (Value.string ⟨#[118,97,114]⟩)) w fun a b=>
 xcond a
 (j1 [a] b)
 (oP E (bC .eql 9 3 x0 (Value.string ⟨#[97,114,114,97,121]⟩)) b fun c d=>
 xcond c
 (j1 [c] d)
 (oP E (bC .eql 9 3 x0 (Value.string ⟨#[105,102]⟩)) d fun e f=>
 xcond e
 (j1 [e] f)
 (oP E (bC .eql 9 3 x0 (Value.string ⟨#[101,108,115,101]⟩)) f fun g i=>
 xcond g
 (j1 [g] i)
 (oP E (bC .eql 9 3 x0 (Value.string ⟨#[119,104,105,108,101]⟩)) i fun j k=>
 xcond j
 (j1 [j] k)
 (oP E (bC .eql 9 3 x0 (Value.string ⟨#[97,115,115,101,114,116]⟩)) k fun l m=>
 xcond l
 (j1 [l] m)
 (oP E (bC .eql 9 3 x0 (Value.string ⟨#[97,115,115,117,109,101]⟩)) m fun n o=>
 xcond n
 (j1 [n] o)
 (oP E (bC .eql 9 3 x0 (Value.string ⟨#[115,107,105,112]⟩)) o fun p q=>
 xcond p
 (j1 [p] q)
 (oP E (bC .eql 9 3 x0 (Value.string ⟨#[105,110,112,117,116]⟩)) q fun r s=>
 xcond r
 (j1 [r] s)
 (oP E (bC .eql 9 3 x0 (Value.string ⟨#[116,114,117,101]⟩)) s fun t u=>
 xcond t
 (j1 [t] u)
 (oP E (bC .eql 9 3 x0 (Value.string ⟨#[102,97,108,115,101]⟩)) u fun z aa=>
 j1 [z] aa))))))))))
def d0P:Hint:=(sQ (hS (sQ (hB (hU [4] (sQ (hC hN (sQ (hC hN (sQ (hC hN (sQ (hC hN (sQ (hC hN (sQ (hC hN (sQ (hC hN (sQ (hC hN (sQ (hC hN (sQ (hC hN hN)))))))))))))))))))) (hC (sQ hN) hN)))) (sQ hN)))
theorem c5W{x0:Value}(h:c8H x0 w R E):Cv pG 132 #[x0] w R E:=okF (h:=d0P) Tryz.func132 (by kernel_rfl) (by kernel_rfl) h
def c8I(x0 w)(R:RT)(E):=
 opK pG E (xCall (fC 134) [x0]) w fun b c=>
 oP E (bC .eql 3 6 b (vI 3)) c fun a d=>
 oP E (gNo a (bC .eql 3 9 (zF a b) (vI 4))) d fun e f=>
 oP E (xPick a (vB true) e) f fun g i=>
 R g i
def d0Q:Hint:=(sQ (sQ (sQ hN)))
theorem c5X{x0:Value}(h:c8I x0 w R E):Cv pG 133 #[x0] w R E:=okF (h:=d0Q) Tryz.func133 (by kernel_rfl) (by kernel_rfl) h
def b5U(x39 w)(R:RT)(_E:Pan):=
 ∀_τ:Fr,(xcond x39
 (R (vI 3) w)
 (R (vI 6) w))
def b5V(x1 x31 w)(R:RT)(E):=
 ∀_τ:Fr,(xcond x31
 (R (vI 6) w)
 (oP E (xV (Instr.makeFunc (.func 138) #[] #[x1])) w fun a n=>
 oP E (xCall a [(Value.int .i32 48),(Value.int .i32 57)]) n fun o b=>
 xcond o
 (R (vI 4) b)
 (xcut (fun p q=>b5U (nth p 0) q R E) fun j4=>
 oP E (lA 21 x1) b fun r s=>
 oP E (bC .eql 21 40 r (Value.int .i32 95)) s fun c d=>
 xcond c
 (j4 [c] d)
 (oP E (xCall a [(Value.int .i32 97),(Value.int .i32 122)]) d fun e f=>
 xcond e
 (j4 [e] f)
 (oP E (xCall a [(Value.int .i32 65),(Value.int .i32 90)]) f fun g i=>
 xcond g
 (j4 [g] i)
 (oP E (xCall a [(Value.int .i32 192),(Value.int .i32 591)]) i fun j k=>
 xcond j
 (j4 [j] k)
 (oP E (xCall a [(Value.int .i32 913),(Value.int .i32 969)]) k fun l m=>
 xcond l
 (j4 [l] m)
 (oP E (xCall a [(Value.int .i32 1040),(Value.int .i32 1103)]) m fun t u=>
 j4 [t] u))))))))
def b5W(x1 x4 x11 w)(R:RT)(E):=
 ∀_τ:Fr,(xcond x11
 (R (vI 5) w)
 (xcut (fun e f=>b5V x1 (nth e 0) f R E) fun j3=>
 oP E (bC .eql 21 4 x4 (Value.int .i32 215)) w fun a b=>
 xcond a
 (j3 [a] b)
 (oP E (bC .eql 21 4 x4 (Value.int .i32 247)) b fun c d=>
 xcond c
 (j3 [c] d)
 (oP E (bC .eql 21 4 x4 (Value.int .i32 930)) d fun g i=>
 j3 [g] i))))
def b5X(x1 x4 x5 w)(R:RT)(E):=
 ∀_τ:Fr,(xcond x5
 (R (vI 1) w)
 (oP E (bC .eql 21 4 x4 (Value.int .i32 10)) w fun ao a=>
 xcond ao
 (R (vI 2) a)
 (xcut (fun ap aq=>b5W x1 x4 (nth ap 0) aq R E) fun j2=>
 oP E (bC .eql 21 4 x4 (Value.int .i32 59)) a fun b c=>
 xcond b
 (j2 [b] c)
 (oP E (bC .eql 21 4 x4 (Value.int .i32 44)) c fun d e=>
 xcond d
 (j2 [d] e)
 (oP E (bC .eql 21 4 x4 (Value.int .i32 123)) e fun f g=>
 xcond f
 (j2 [f] g)
 (oP E (bC .eql 21 4 x4 (Value.int .i32 125)) g fun i j=>
 xcond i
 (j2 [i] j)
 (oP E (bC .eql 21 4 x4 (Value.int .i32 40)) j fun k l=>
 xcond k
 (j2 [k] l)
 (oP E (bC .eql 21 4 x4 (Value.int .i32 41)) l fun m n=>
 xcond m
 (j2 [m] n)
 (oP E (bC .eql 21 4 x4 (Value.int .i32 91)) n fun o p=>
 xcond o
 (j2 [o] p)
 (oP E (bC .eql 21 4 x4 (Value.int .i32 93)) p fun q r=>
 xcond q
 (j2 [q] r)
 (oP E (bC .eql 21 4 x4 (Value.int .i32 61)) r fun s t=>
 xcond s
 (j2 [s] t)
 (oP E (bC .eql 21 4 x4 (Value.int .i32 33)) t fun u v=>
 xcond u
 (j2 [u] v)
 (oP E (bC .eql 21 4 x4 (Value.int .i32 60)) v fun y z=>
 xcond y
 (j2 [y] z)
 (oP E (bC .eql 21 4 x4 (Value.int .i32 62)) z fun aa ab=>
 xcond aa
 (j2 [aa] ab)
 (oP E (bC .eql 21 4 x4 (Value.int .i32 43)) ab fun ac ad=>
 xcond ac
 (j2 [ac] ad)
 (oP E (bC .eql 21 4 x4 (Value.int .i32 45)) ad fun ae af=>
 xcond ae
 (j2 [ae] af)
 (oP E (bC .eql 21 4 x4 (Value.int .i32 42)) af fun ag ah=>
 xcond ag
 (j2 [ag] ah)
 (oP E (bC .eql 21 4 x4 (Value.int .i32 47)) ah fun ai aj=>
 xcond ai
 (j2 [ai] aj)
 (oP E (bC .eql 21 4 x4 (Value.int .i32 37)) aj fun ak al=>
 xcond ak
 (j2 [ak] al)
 (oP E (bC .eql 21 4 x4 (Value.int .i32 38)) al fun am an=>
 xcond am
 (j2 [am] an)
 (oP E (bC .eql 21 4 x4 (Value.int .i32 124)) an fun ar au=>
 j2 [ar] au)))))))))))))))))))))
def c8J(x0 w)(R:RT)(E):=
 opK pG E (xV (Instr.box 21 x0)) w fun b g=>
 oP E (lA 21 b) g fun a i=>
 xcut (fun j k=>b5X b a (nth j 0) k R E) fun j1=>
 oP E (bC .eql 21 4 a (Value.int .i32 32)) i fun c d=>
 xcond c
 (j1 [c] d)
 (oP E (bC .eql 21 4 a (Value.int .i32 9)) d fun e f=>
 xcond e
 (j1 [e] f)
 (oP E (bC .eql 21 4 a (Value.int .i32 13)) f fun l m=>
 j1 [l] m))
def d0R:Hint:=(sQ (hS (sQ (hB (hU [5] (sQ (hC hN (sQ (hC hN hN)))) (hC (sQ hN) (sQ (hC (sQ hN) (hU [11] (sQ (hC hN (sQ (hC hN (sQ (hC hN (sQ (hC hN (sQ (hC hN (sQ (hC hN (sQ (hC hN (sQ (hC hN (sQ (hC hN (sQ (hC hN (sQ (hC hN (sQ (hC hN (sQ (hC hN (sQ (hC hN (sQ (hC hN (sQ (hC hN (sQ (hC hN (sQ (hC hN hN)))))))))))))))))))))))))))))))))))) (hC (sQ hN) (hU [31] (sQ (hC hN (sQ (hC hN hN)))) (hC (sQ hN) hN)))))))))) (sQ (hS (hB (sQ (hC (sQ hN) (hU [39] (sQ (hC hN (sQ (hC hN (sQ (hC hN (sQ (hC hN (sQ (hC hN hN)))))))))) (hC (sQ hN) hN))))) (sQ hN)))))
theorem c5Y{x0:Value}(h:c8J x0 w R E):Cv pG 134 #[x0] w R E:=okF (h:=d0R) Tryz.func134 (by kernel_rfl) (by kernel_rfl) h
def b5Y(w)(R:RT)(_E:Pan):=
 ∀_τ:Fr,(R (vI (-1)) w)
def c0h(x0 x1 x7 x8 w)(next2:NT)(j1:NT)(R:RT)(E):=
 opK pG E (bN .lss 3 8 7 x8 x7) w fun c a=>
 xcond c
 (oP E (iA 27 x0 x8) a fun d e=>
 oP E (lA 9 d) e fun f g=>
 oP E (bN .eql 9 11 15 x1 f) g fun i b=>
 xcond i
 (R x8 b)
 (oP E (bC .add 3 8 x8 (vI 1)) b fun j k=>
 next2 [j] k))
 (j1 [] a)
def c8K(x0 x1 w)(R:RT)(E):=
 xcut (fun _ a=>b5Y a R E) fun j1=>
 oP E (xBuiltin .len #[27] 3 [false] [x0]) w fun b c=>
 xloop [8] [(vI 0)] c fun d e next2=>
 c0h x0 x1 b (d 8) e next2 j1 R E
def d0S:Hint:=(sQ (hU [] (sQ (hB (hL [8] (sQ (hS (hC hN hN) (hS (hB (sQ (sQ (hC (sQ hN) hN)))) hN)))))) (sQ hN)))
theorem c5Z{x0 x1:Value}(h:c8K x0 x1 w R E):Cv pG 135 #[x0,x1] w R E:=okF (h:=d0S) Tryz.func135 (by kernel_rfl) (by kernel_rfl) h
def b5Z(x2 w)(R:RT)(_E:Pan):=
 ∀_τ:Fr,(R x2 w)
def c0i(x2 x4 w)(next2:NT)(j1:NT)(_R:RT)(E):=
 opK pG E (xV (Instr.next x4 true 0)) w fun b c=>
 oP E (xT b 0) c fun d a=>
 xcond d
 (oP E (bC .add 3 7 x2 (vI 1)) a fun e f=>
 next2 [e] f)
 (j1 [x2] a)
def c8L(x0 w)(R:RT)(E):=
 xcut (fun a b=>b5Z (nth a 0) b R E) fun j1=>
 oP E (xV (Instr.range 9 x0)) w fun c d=>
 xloop [2] [(vI 0)] d fun e f next2=>
 c0i (e 2) c f next2 j1 R E
def d0T:Hint:=(sQ (hU [2] (sQ (hB (hL [2] (sQ (hS (hC hN hN) (hB hN)))))) (sQ hN)))
theorem c6a{x0:Value}(h:c8L x0 w R E):Cv pG 137 #[x0] w R E:=okF (h:=d0T) Tryz.func137 (by kernel_rfl) (by kernel_rfl) h
def c8M(x0 x1 x2 w)(R:RT)(E):=
 opK pG E (lA 21 x2) w fun b c=>
 oP E (bN .leq 21 6 7 x0 b) c fun a d=>
 oP E (gYs a (lA 21 x2)) d fun e f=>
 oP E (gYs a (bN .leq 21 10 11 e (zT a x1))) f fun g i=>
 oP E (xPick a g (vB false)) i fun j k=>
 R j k
def d0U:Hint:=(sQ (sQ hN))
theorem c6b{x0 x1 x2:Value}(h:c8M x0 x1 x2 w R E):Cv pG 138 #[x0,x1,x2] w R E:=okF (h:=d0U) Tryz.func138 (by kernel_rfl) (by kernel_rfl) h
def c8N(x0 w)(R:RT)(E):=
 opK pG E (xV (Instr.box 195 x0)) w fun b c=>
 oP E (fA 195 b 0) c fun d e=>
 oP E (fA 70 d 1) e fun f g=>
 oP E (lA 3 f) g fun i j=>
 oP E (bC .geq 3 5 i (vI 0)) j fun a k=>
 oP E (gYs a (fA 195 b 0)) k fun l m=>
 oP E (gYs a (fA 70 l 1)) m fun n o=>
 oP E (gYs a (lA 3 n)) o fun p q=>
 oP E (gYs a (bC .leq 3 10 p (vI 2147483647))) q fun r s=>
 oP E (xPick a r (vB false)) s fun t u=>
 R t u
def d0V:Hint:=(sQ (sQ hN))
theorem c6c{x0:Value}(h:c8N x0 w R E):Cv pG 155 #[x0] w R E:=okF (h:=d0V) Tryz.func155 (by kernel_rfl) (by kernel_rfl) h
def c8O(x0 w)(R:RT)(E):=
 opK pG E (xV (Instr.box 195 x0)) w fun _t1_1 a=>
 R (nS) a
def d0W:Hint:=(sQ (sQ hN))
theorem c6d{x0:Value}(h:c8O x0 w R E):Cv pG 156 #[x0] w R E:=okF (h:=d0W) Tryz.func156 (by kernel_rfl) (by kernel_rfl) h
def b6a(x4 x5 x35 x83 w)(R:RT)(E):=
 ∀_τ:Fr,(xcond x83
 (oP E (gYs x5 (lA 230 x4)) w fun b c=>
 oP E (gYs x5 (xV (Instr.build 230 #[(0,(vI 0)),(1,(vI 1))]))) c fun d e=>
 oP E (gYs x5 (bN .eql 230 88 89 b d)) e fun f g=>
 oP E (xPick x5 f (vB false)) g fun i j=>
 R i j)
 (oP E (bC .eql 3 35 x35 (vI 7)) w fun k a=>
 xcond k
 (oP E (gYs x5 (lA 230 x4)) a fun l m=>
 oP E (gYs x5 (xV (Instr.build 230 #[]))) m fun n o=>
 oP E (gYs x5 (bN .eql 230 96 97 l n)) o fun p q=>
 oP E (xPick x5 p (vB false)) q fun r s=>
 R r s)
 (R (vB false) a)))
def c8P(x0 w)(R:RT)(E):=
 opK pG E (xV (Instr.box 197 x0)) w fun a r=>
 oP E (fA 197 a 0) r fun s t=>
 oP E (fA 60 s 4) t fun u v=>
 oP E (lA 23 u) v fun y z=>
 oP E (xBuiltin .len #[23] 3 [false] [y]) z fun aa ab=>
 oP E (fA 197 a 0) ab fun ac ad=>
 oP E (fA 60 ac 5) ad fun ae af=>
 oP E (lA 23 ae) af fun ag ah=>
 oP E (xBuiltin .len #[23] 3 [false] [ag]) ah fun ai aj=>
 oP E (bN .add 3 9 13 aa ai) aj fun ak al=>
 oP E (bC .gtr 3 14 ak (vI 0)) al fun j am=>
 oP E (fA 197 a 0) am fun an ao=>
 oP E (fA 60 an 2) ao fun ap aq=>
 oP E (lA 57 ap) aq fun ar au=>
 oP E (xBuiltin .len #[57] 3 [false] [ar]) au fun av aw=>
 oP E (fA 197 a 0) aw fun ax ay=>
 oP E (fA 60 ax 3) ay fun az ba=>
 oP E (lA 58 az) ba fun bb bc=>
 oP E (xBuiltin .len #[58] 3 [false] [bb]) bc fun bd be=>
 oP E (xV (Instr.build 230 #[(0,av),(1,bd)])) be fun bf bg=>
 oP E (xV (Instr.alloc 230 true (.tuple #[]))) bg fun c bh=>
 oP E (sA 230 c bf) bh fun _ bi=>
 oP E (fA 197 a 0) bi fun bj bk=>
 oP E (fA 60 bj 1) bk fun bl bm=>
 oP E (lA 9 bl) bm fun bn bo=>
 oP E (bC .eql 9 27 bn (eS)) bo fun k bp=>
 oP E (gYs k (xV (Op.unary .not (zT k j)))) bp fun bq br=>
 oP E (xPick k bq (vB false)) br fun bs bt=>
 oP E (fA 197 a 0) bt fun bu bv=>
 oP E (fA 60 bu 0) bv fun bw bz=>
 oP E (lA 3 bw) bz fun b ca=>
 oP E (bC .eql 3 35 b (vI 1)) ca fun cb l=>
 xcond cb
 (oP E (xV (Op.unary .not j)) l fun e cc=>
 oP E (gYs e (lA 230 c)) cc fun cd ce=>
 oP E (gYs e (xV (Instr.build 230 #[(0,(vI 1)),(1,(vI 0))]))) ce fun cf cg=>
 oP E (gYs e (bN .eql 230 41 42 cd cf)) cg fun ch ci=>
 oP E (xPick e ch (vB false)) ci fun cj ck=>
 R cj ck)
 (oP E (bC .eql 3 35 b (vI 2)) l fun cl m=>
 xcond cl
 (oP E (xV (Op.unary .not j)) m fun f cm=>
 oP E (gYs f (lA 230 c)) cm fun cn co=>
 oP E (gYs f (xV (Instr.build 230 #[(0,(vI 2)),(1,(vI 0))]))) co fun cp cq=>
 oP E (gYs f (bN .eql 230 50 51 cn cp)) cq fun cr cs=>
 oP E (xPick f cr (vB false)) cs fun ct cu=>
 R ct cu)
 (oP E (bC .eql 3 35 b (vI 3)) m fun cv n=>
 xcond cv
 (oP E (fA 197 a 0) n fun cw cx=>
 oP E (fA 60 cw 1) cx fun cy cz=>
 oP E (lA 9 cy) cz fun da db=>
 oP E (bC .eql 9 58 da (eS)) db fun g dc=>
 oP E (gYs g (lA 230 c)) dc fun dd de=>
 oP E (gYs g (xV (Instr.build 230 #[(0,(vI 0)),(1,(vI 1))]))) de fun df dg=>
 oP E (gYs g (bN .eql 230 61 62 dd df)) dg fun dh di=>
 oP E (xPick g dh (vB false)) di fun dj dk=>
 R dj dk)
 (oP E (bC .eql 3 35 b (vI 4)) n fun dl o=>
 xcond dl
 (oP E (fA 197 a 0) o fun dm dn=>
 oP E (fA 60 dm 1) dn fun dp dq=>
 oP E (lA 9 dp) dq fun dr ds=>
 oP E (bC .eql 9 69 dr (eS)) ds fun d dt=>
 oP E (gYs d (fA 197 a 0)) dt fun du dv=>
 oP E (gYs d (fA 60 du 5)) dv fun dw dx=>
 oP E (gYs d (lA 23 dw)) dx fun dy dz=>
 oP E (gYs d (xBuiltin .len #[23] 3 [false] [dy])) dz fun ea eb=>
 oP E (gYs d (bC .eql 3 75 ea (vI 0))) eb fun ec ed=>
 oP E (xPick d ec (vB false)) ed fun i ee=>
 oP E (gYs i (lA 230 c)) ee fun ef eg=>
 oP E (gYs i (xV (Instr.build 230 #[(0,(vI 0)),(1,(vI 1))]))) eg fun eh ei=>
 oP E (gYs i (bN .eql 230 79 80 ef eh)) ei fun ej ek=>
 oP E (xPick i ej (vB false)) ek fun el em=>
 R el em)
 (xcut (fun en eo=>b6a c bs b (nth en 0) eo R E) fun j1=>
 oP E (bC .eql 3 35 b (vI 5)) o fun p q=>
 xcond p
 (j1 [p] q)
 (oP E (bC .eql 3 35 b (vI 6)) q fun ep eq=>
 j1 [ep] eq)))))
def d0X:Hint:=(sQ (sQ (sQ (sQ (hS (sQ (hB (sQ (hC (sQ hN) (sQ (hC (sQ hN) (sQ (hC (sQ hN) (sQ (hC (sQ hN) (hU [83] (sQ (hC hN hN)) (hC (sQ hN) (sQ (hC (sQ hN) hN)))))))))))))) (sQ hN))))))
theorem c6e{x0:Value}(h:c8P x0 w R E):Cv pG 157 #[x0] w R E:=okF (h:=d0X) Tryz.func157 (by kernel_rfl) (by kernel_rfl) h
def c8Q(x0 w)(R:RT)(E):=
 opK pG E (xV (Instr.box 197 x0)) w fun c n=>
 dX n fun a=>
 qP pG (fA 197 c 0) fun o=>
 qP pG (fA 60 o 3) fun l=>
 qP pG (fA 197 c 0) fun p=>
 qP pG (fA 60 p 2) fun e=>
 qP pG (fA 197 c 0) fun q=>
 qP pG (fA 60 q 4) fun d=>
 qP pG (fA 197 c 0) fun r=>
 qP pG (fA 60 r 5) fun b=>
 qL pG a (blk l) (lA 58 l) fun s=>
 qL pG a (blk e) (lA 57 e) fun t=>
 qL pG a (blk d) (lA 23 d) fun u=>
 qL pG a (blk b) (lA 23 b) fun v=>
 oP E (xCall (fC 159) [s,(fC 160)]) a fun y f=>
 keepX [(blk b),(blk d),(blk e)] a f (opK pG E (xCall (fC 161) [t,(fC 162)]) f fun z g=>
 keepX [(blk b),(blk d)] f g (opK pG E (xCall (fC 121) [u,(fC 122)]) g fun aa i=>
 keepX [(blk b)] g i (opK pG E (xCall (fC 121) [v,(fC 122)]) i fun ab j=>
 keepX [] i j (opK pG E (xV (Instr.buildSlice 192 4 #[(0,y),(1,z),(2,aa),(3,ab)])) j fun ac k=>
 keepX [] j k (opK pG E (xCall (fC 118) [ac]) k fun ad m=>
 keepX [] k m (R ad m))))))
def d0Y:Hint:=(sQ (hS (.reg [(0,8,2),(1,16,8),(2,32,16),(4,64,32),(0,128,2),(16,256,128),(32,512,256),(72,1024,512),(0,2048,2),(256,4096,2048),(512,8192,4096),(1152,16384,8192),(0,32768,2),(4096,65536,32768),(8192,131072,65536),(18432,262144,131072),(34952,524288,279616),(98304,1048576,524288),(262143,4,1048576)] [17476,17476,17472,17472,17476,17476,17412,17408,17476,17476,16452,16384,17476,17476,1092,0,0,0,17476] (.early 0 (.early 1 (.early 4 (.early 5 (.early 8 (.early 9 (.early 12 (.early 13 (.load 2 (.load 6 (.load 10 (.load 14 (.step 3 (.step 7 (.step 11 (.step 15 (.step 16 (.step 17 (.early 18 .done)))))))))))))))))))) hN))
theorem c6f{x0:Value}(h:c8Q x0 w R E):Cv pG 158 #[x0] w R E:=okF (h:=d0Y) Tryz.func158 (by kernel_rfl) (by kernel_rfl) h
def b6b(x5 w)(R:RT)(_E:Pan):=
 ∀_τ:Fr,(R x5 w)
def c0j(x1 x5 x8 x9 x10 w)(next2:NT)(j1:NT)(_R:RT)(E):=
 opK pG E (bN .lss 3 10 9 x10 x9) w fun c a=>
 xcond c
 (oP E (iA 58 x8 x10) a fun d e=>
 oP E (lA 131 d) e fun f g=>
 oP E (xV (Instr.alloc 131 true (.tuple #[]))) g fun b i=>
 oP E (sA 131 b f) i fun _ j=>
 oP E (lA 131 b) j fun k l=>
 oP E (xCall x1 [k]) l fun m n=>
 oP E (xV (Instr.buildSlice 179 1 #[(0,m)])) n fun o p=>
 oP E (xBuiltin .append #[179,179] 179 [false,false] [x5,o]) p fun q r=>
 oP E (bC .add 3 10 x10 (vI 1)) r fun s t=>
 next2 [q,s] t)
 (j1 [x5] a)
def c8R(x0 x1 w)(R:RT)(E):=
 xcut (fun b c=>b6b (nth b 0) c R E) fun j1=>
 oP E (xBuiltin .len #[58] 3 [false] [x0]) w fun d e=>
 xloop [5,10] [(nS),(vI 0)] e fun a f next2=>
 c0j x1 (a 5) x0 d (a 10) f next2 j1 R E
def d0Z:Hint:=(sQ (sQ (hU [5] (sQ (hB (hL [5,10] (sQ (hS (hC hN hN) (hS (hB (sQ hN)) hN)))))) (sQ hN))))
theorem c6g{x0 x1:Value}(h:c8R x0 x1 w R E):Cv pG 159 #[x0,x1] w R E:=okF (h:=d0Z) Tryz.func159 (by kernel_rfl) (by kernel_rfl) h
def c8S(x0 w)(R:RT)(E):=
 opK pG E (xV (Instr.box 131 x0)) w fun a b=>
 oP E (lA 131 a) b fun c d=>
 oP E (xV (Instr.build 236 #[(0,c)])) d fun e f=>
 oP E (xV (Instr.makeInterface 236 e)) f fun g i=>
 R g i
def d1a:Hint:=(sQ (sQ hN))
theorem c6h{x0:Value}(h:c8S x0 w R E):Cv pG 160 #[x0] w R E:=okF (h:=d1a) Tryz.func160 (by kernel_rfl) (by kernel_rfl) h
def b6c(x5 w)(R:RT)(_E:Pan):=
 ∀_τ:Fr,(R x5 w)
def c0k(x1 x5 x8 x9 x10 w)(next2:NT)(j1:NT)(_R:RT)(E):=
 opK pG E (bN .lss 3 10 9 x10 x9) w fun c a=>
 xcond c
 (oP E (iA 57 x8 x10) a fun d e=>
 oP E (lA 123 d) e fun f g=>
 oP E (xV (Instr.alloc 123 true (.tuple #[]))) g fun b i=>
 oP E (sA 123 b f) i fun _ j=>
 oP E (lA 123 b) j fun k l=>
 oP E (xCall x1 [k]) l fun m n=>
 oP E (xV (Instr.buildSlice 179 1 #[(0,m)])) n fun o p=>
 oP E (xBuiltin .append #[179,179] 179 [false,false] [x5,o]) p fun q r=>
 oP E (bC .add 3 10 x10 (vI 1)) r fun s t=>
 next2 [q,s] t)
 (j1 [x5] a)
def c8T(x0 x1 w)(R:RT)(E):=
 xcut (fun b c=>b6c (nth b 0) c R E) fun j1=>
 oP E (xBuiltin .len #[57] 3 [false] [x0]) w fun d e=>
 xloop [5,10] [(nS),(vI 0)] e fun a f next2=>
 c0k x1 (a 5) x0 d (a 10) f next2 j1 R E
def d1b:Hint:=(sQ (sQ (hU [5] (sQ (hB (hL [5,10] (sQ (hS (hC hN hN) (hS (hB (sQ hN)) hN)))))) (sQ hN))))
theorem c6i{x0 x1:Value}(h:c8T x0 x1 w R E):Cv pG 161 #[x0,x1] w R E:=okF (h:=d1b) Tryz.func161 (by kernel_rfl) (by kernel_rfl) h
def c8U(x0 w)(R:RT)(E):=
 opK pG E (xV (Instr.box 123 x0)) w fun a b=>
 oP E (lA 123 a) b fun c d=>
 oP E (xV (Instr.build 202 #[(0,c)])) d fun e f=>
 oP E (xV (Instr.makeInterface 202 e)) f fun g i=>
 R g i
def d1c:Hint:=(sQ (sQ hN))
theorem c6j{x0:Value}(h:c8U x0 w R E):Cv pG 162 #[x0] w R E:=okF (h:=d1c) Tryz.func162 (by kernel_rfl) (by kernel_rfl) h
end Go.Proofs.YtaokfhdinhimfaaGreatDoor
