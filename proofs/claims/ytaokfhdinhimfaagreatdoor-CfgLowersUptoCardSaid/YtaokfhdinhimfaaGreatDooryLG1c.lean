/- The second reading of some of the program's functions, printed by gen2.py off the code; each is held against the code by the kernel. -/
import Derived.KernelRfl
import Derived.Test.YtaokfhdinhimfaaGreatDooryLGz
namespace Go.Proofs.YtaokfhdinhimfaaGreatDoor
open Go.RowKit
set_option maxRecDepth 100000
variable {w:World}{R:RT}{E:Pan}
def c0f(_x0 _x10 _x11 x12:Value)(w)(next1:NT)(_R:RT)(E):=
 ∀_τ:Fr,(oP E (bC .add 3 12 x12 (vI 1)) w fun a b=>
 next1 [a] b)
def c0g(x0 x5 _x10 _x11 _x12:Value)(w)(j2:NT)(_R:RT)(E):=
 ∀_τ:Fr,(oP E (fA 60 x5 4) w fun a b=>
 oP E (lA 23 a) b fun c d=>
 oP E (xCall (fC 94) [x0,c]) d fun _t71_21 e=>
 oP E (fA 60 x5 5) e fun f g=>
 oP E (lA 23 f) g fun i j=>
 oP E (xCall (fC 94) [x0,i]) j fun _t75_27 k=>
 j2 [] k)
def c4F(x0 _x5 _x10 _x11 _x12 x58 x59 x60:Value)(w)(next6:NT)(j5:NT)(_R:RT)(E):=
 opK pG E (bN .lss 3 60 59 x60 x59) w fun c a=>
 xcond c
 (oP E (iA 57 x58 x60) a fun d e=>
 oP E (lA 123 d) e fun f g=>
 oP E (xV (Instr.alloc 123 true (.tuple #[]))) g fun b i=>
 oP E (sA 123 b f) i fun _ j=>
 oP E (lA 123 b) j fun k l=>
 oP E (xCall (fC 109) [x0,k]) l fun _t66_49 m=>
 oP E (bC .add 3 60 x60 (vI 1)) m fun n o=>
 next6 [n] o)
 (j5 [] a)
def c0h(x0 x5 x10 x11 x12 w)(j2:NT)(R:RT)(E):=
 ∀_τ:Fr,(xcut (fun _ b=>c0g x0 x5 x10 x11 x12 b j2 R E) fun j5=>
 oP E (fA 60 x5 2) w fun c d=>
 oP E (lA 57 c) d fun a e=>
 oP E (xBuiltin .len #[57] 3 [false] [a]) e fun f g=>
 xloop [60] [(vI 0)] g fun i j next6=>
 c4F x0 x5 x10 x11 x12 a f (i 60) j next6 j5 R E)
def c4G(x0 _x5 _x10 _x11 _x12 x47 x48 x49:Value)(w)(next7:NT)(j4:NT)(_R:RT)(E):=
 opK pG E (bN .lss 3 49 48 x49 x48) w fun c a=>
 xcond c
 (oP E (iA 58 x47 x49) a fun d e=>
 oP E (lA 131 d) e fun f g=>
 oP E (xV (Instr.alloc 131 true (.tuple #[]))) g fun b i=>
 oP E (sA 131 b f) i fun _ j=>
 oP E (lA 131 b) j fun k l=>
 oP E (xCall (fC 108) [x0,k]) l fun _t55_75 m=>
 oP E (bC .add 3 49 x49 (vI 1)) m fun n o=>
 next7 [n] o)
 (j4 [] a)
def c0i(x0 x5 x10 x11 x12 w)(j2:NT)(R:RT)(E):=
 ∀_τ:Fr,(xcut (fun _ b=>c0h x0 x5 x10 x11 x12 b j2 R E) fun j4=>
 oP E (fA 60 x5 3) w fun c d=>
 oP E (lA 58 c) d fun a e=>
 oP E (xBuiltin .len #[58] 3 [false] [a]) e fun f g=>
 xloop [49] [(vI 0)] g fun i j next7=>
 c4G x0 x5 x10 x11 x12 a f (i 49) j next7 j4 R E)
def c4H(x0 x10 x11 x12 w)(next1:NT)(R:RT)(E):=
 opK pG E (bN .lss 3 12 11 x12 x11) w fun s k=>
 xcond s
 (xcut (fun _ t=>c0f x0 x10 x11 x12 t next1 R E) fun j2=>
 oP E (iA 23 x10 x12) k fun u v=>
 oP E (lA 60 u) v fun y z=>
 oP E (xV (Instr.alloc 60 true (.tuple #[]))) z fun a aa=>
 oP E (sA 60 a y) aa fun _ ab=>
 xcut (fun _ ac=>c0i x0 a x10 x11 x12 ac j2 R E) fun j3=>
 oP E (fA 60 a 0) ab fun ad ae=>
 oP E (lA 3 ad) ae fun l af=>
 oP E (bC .eql 3 17 l (vI 1)) af fun ag m=>
 xcond ag
 (dX m fun b=>
 qP pG (xNil x0) fun ah=>
 qP pG (fA 155 ah 0) fun d=>
 qP pG (fA 60 a 1) fun n=>
 qL pG b (blk d) (lA 153 d) fun ai=>
 qL pG b (blk n) (lA 9 n) fun aj=>
 qP pG (xV (Instr.build 158 #[(0,aj),(1,(vI 1))])) fun ak=>
 oP E (xV (Instr.buildSlice 153 1 #[(0,ak)])) b fun al e=>
 keepX [(blk d)] b e (opK pG E (xBuiltin .append #[153,153] 153 [false,false] [ai,al]) e fun am f=>
 keepX [] e f (qP pG (xNil x0) fun an=>
 qP pG (fA 155 an 0) fun ao=>
 oP E (sA 153 ao am) f fun _ o=>
 keepX [] f o (j3 [] o))))
 (oP E (bC .eql 3 17 l (vI 2)) m fun ap p=>
 xcond ap
 (dX p fun c=>
 qP pG (xNil x0) fun aq=>
 qP pG (fA 155 aq 0) fun g=>
 qP pG (fA 60 a 1) fun q=>
 qL pG c (blk g) (lA 153 g) fun ar=>
 qL pG c (blk q) (lA 9 q) fun au=>
 qP pG (xV (Instr.build 158 #[(0,au),(1,(vI 2))])) fun av=>
 oP E (xV (Instr.buildSlice 153 1 #[(0,av)])) c fun aw i=>
 keepX [(blk g)] c i (opK pG E (xBuiltin .append #[153,153] 153 [false,false] [ar,aw]) i fun ax j=>
 keepX [] i j (qP pG (xNil x0) fun ay=>
 qP pG (fA 155 ay 0) fun az=>
 oP E (sA 153 az ax) j fun _ r=>
 keepX [] j r (j3 [] r))))
 (j3 [] p)))
 (R (Value.tuple #[]) k)
def F94(x0 x1 w)(R:RT)(E):=
 opK pG E (xBuiltin .len #[23] 3 [false] [x1]) w fun a b=>
 xloop [12] [(vI 0)] b fun c d next1=>
 c4H x0 x1 a (c 12) d next1 R E
def h94:Hint:=(sQ (hB (hL [12] (sQ (hS (hC hN hN) (hU [] (hB (sQ (hU [] (sQ (hB (sQ (hC (.reg [(0,1048576,1),(0,2097152,1),(2,4194304,2097152),(4,8388608,4194304),(8,16777216,8388608),(0,33554432,32),(32,67108864,33554432),(64,134217728,67108864),(128,268435456,134217728),(272,536870912,285212672),(1023,1073741824,1048576),(2047,2147483648,1073741824),(3071,0,2684354560)] [80,80,80,80,64,80,16,80,16,0,80,80,0] (.early 0 (.early 1 (.early 2 (.early 3 (.early 5 (.load 4 (.load 6 (.early 7 (.step 8 (.step 9 (.early 10 (.early 11 (.step 12 .done)))))))))))))) (sQ (hC (.reg [(0,17179869184,1),(0,34359738368,1),(2,68719476736,34359738368),(4,137438953472,68719476736),(8,274877906944,137438953472),(0,549755813888,32),(32,1099511627776,549755813888),(64,2199023255552,1099511627776),(128,4398046511104,2199023255552),(272,8796093022208,4672924418048),(1023,17592186044416,17179869184),(2047,35184372088832,17592186044416),(3071,0,43980465111040)] [80,80,80,80,64,80,16,80,16,0,80,80,0] (.early 0 (.early 1 (.early 2 (.early 3 (.early 5 (.load 4 (.load 6 (.early 7 (.step 8 (.step 9 (.early 10 (.early 11 (.step 12 .done)))))))))))))) hN)))))) (hU [] (sQ (hB (hL [49] (sQ (hS (hC hN hN) (hS (hB (sQ hN)) hN)))))) (hU [] (sQ (hB (hL [60] (sQ (hS (hC hN hN) (hS (hB (sQ hN)) hN)))))) (sQ hN)))))) hN))))))
theorem d0s{x0 x1:Value}(h:F94 x0 x1 w R E):Cv pG 94 #[x0,x1] w R E:=okF (h:=h94) Tryz.func94 (by kernel_rfl) (by kernel_rfl) h
def c4I(w)(R:RT)(_E:Pan):=
 ∀_τ:Fr,(R (vI (-1)) w)
def c4J(x0 x1 x7 x8 w)(next2:NT)(j1:NT)(R:RT)(E):=
 opK pG E (bN .lss 3 8 7 x8 x7) w fun c a=>
 xcond c
 (oP E (iA 22 x0 x8) a fun d e=>
 oP E (lA 70 d) e fun f g=>
 oP E (xCall x1 [f]) g fun i b=>
 xcond i
 (R x8 b)
 (oP E (bC .add 3 8 x8 (vI 1)) b fun j k=>
 next2 [j] k))
 (j1 [] a)
def F95(x0 x1 w)(R:RT)(E):=
 xcut (fun _ a=>c4I a R E) fun j1=>
 oP E (xBuiltin .len #[22] 3 [false] [x0]) w fun b c=>
 xloop [8] [(vI 0)] c fun d e next2=>
 c4J x0 x1 b (d 8) e next2 j1 R E
def h95:Hint:=(sQ (hU [] (sQ (hB (hL [8] (sQ (hS (hC hN hN) (hS (hB (sQ (sQ (hC (sQ hN) hN)))) hN)))))) (sQ hN)))
theorem d0t{x0 x1:Value}(h:F95 x0 x1 w R E):Cv pG 95 #[x0,x1] w R E:=okF (h:=h95) Tryz.func95 (by kernel_rfl) (by kernel_rfl) h
def F96(x0 x1 w)(R:RT)(E):=
 opK pG E (xV (Instr.box 123 x1)) w fun b p=>
 oP E (xV (Instr.alloc 38 true (.tuple #[]))) p fun a q=>
 oP E (fA 123 b 0) q fun r s=>
 oP E (lA 3 r) s fun t u=>
 oP E (bC .eql 3 8 t (vI 1)) u fun v f=>
 xcond v
 (oP E (fA 123 b 1) f fun y z=>
 oP E (lA 2 y) z fun aa ab=>
 oP E (xV (Instr.build 38 #[(0,(vI (-1))),(1,aa)])) ab fun ac ad=>
 oP E (sA 38 a ac) ad fun _ g=>
 xcell pG 38 a g fun ae=>
 R (Value.tuple #[ae,(vB true)]) g)
 (oP E (fA 123 b 0) f fun af ag=>
 oP E (lA 3 af) ag fun ah ai=>
 oP E (bC .eql 3 15 ah (vI 5)) ai fun c aj=>
 oP E (gYs c (fA 123 b 3)) aj fun ak al=>
 oP E (gYs c (lA 57 ak)) al fun am an=>
 oP E (gYs c (iA 57 am (vI 0))) an fun ao ap=>
 oP E (gYs c (fA 123 ao 0)) ap fun aq ar=>
 oP E (gYs c (lA 3 aq)) ar fun au av=>
 oP E (gYs c (bC .eql 3 22 au (vI 1))) av fun aw ax=>
 oP E (xPick c aw (vB false)) ax fun ay i=>
 xcond ay
 (oP E (fA 123 b 3) i fun az ba=>
 oP E (lA 57 az) ba fun bb bc=>
 oP E (iA 57 bb (vI 0)) bc fun bd be=>
 oP E (fA 123 bd 1) be fun bf bg=>
 oP E (lA 2 bf) bg fun bh bi=>
 oP E (xV (Op.unary .neg bh)) bi fun bj bk=>
 oP E (xV (Instr.build 38 #[(0,(vI (-1))),(1,bj)])) bk fun bl bm=>
 oP E (sA 38 a bl) bm fun _ j=>
 xcell pG 38 a j fun bn=>
 R (Value.tuple #[bn,(vB true)]) j)
 (oP E (fA 123 b 0) i fun bo bp=>
 oP E (lA 3 bo) bp fun bq br=>
 oP E (bC .eql 3 34 bq (vI 2)) br fun bs k=>
 xcond bs
 (dX k fun d=>
 qP pG (xNil x0) fun bt=>
 qP pG (fA 68 bt 1) fun l=>
 qP pG (fA 123 b 2) fun m=>
 qL pG d (blk l) (lA 66 l) fun n=>
 qL pG d (blk m) (lA 9 m) fun bu=>
 qL pG d (blk n) (xV (Instr.lookup 66 n bu false)) fun bv=>
 qP pG (xV (Instr.build 38 #[(0,bv)])) fun bw=>
 oP E (sA 38 a bw) d fun _ e=>
 keepX [] d e (xcell pG 38 a e fun bz=>
 R (Value.tuple #[bz,(vB true)]) e))
 (oP E (xCall (fC 58) []) k fun ca cb=>
 oP E (sA 38 a ca) cb fun _ o=>
 xcell pG 38 a o fun cc=>
 R (Value.tuple #[cc,(vB false)]) o)))
def h96:Hint:=(sQ (hS (hB (sQ (hC (sQ hN) (sQ (hC (sQ hN) (sQ (hC (hS (.reg [(0,68719476736,1),(1,137438953472,68719476736),(2,274877906944,137438953472),(4,549755813888,274877906944),(0,1099511627776,8),(16,2199023255552,1099511627776),(40,4398046511104,2748779069440),(64,8796093022208,4398046511104),(255,0,8796093022224),(511,32,0)] [104,104,104,96,104,72,40,104,0,104] (.early 0 (.early 1 (.early 2 (.early 4 (.load 3 (.load 5 (.load 6 (.early 7 (.step 8 (.early 9 .done))))))))))) hN) hN))))))) (sQ hN)))
theorem d0u{x0 x1:Value}(h:F96 x0 x1 w R E):Cv pG 96 #[x0,x1] w R E:=okF (h:=h96) Tryz.func96 (by kernel_rfl) (by kernel_rfl) h
def c0j(x0 x12 w)(R:RT)(E):=
 ∀_τ:Fr,(oP E (lA 40 x12) w fun a b=>
 oP E (xCall (fC 69) [x0,a]) b fun _t67_21 c=>
 R (Value.tuple #[]) c)
def c0k(x0 x7 x12 w)(R:RT)(E):=
 ∀_τ:Fr,(xcut (fun _ g=>c0j x0 x12 g R E) fun j2=>
 oP E (fA 123 x7 0) w fun i j=>
 oP E (lA 3 i) j fun k l=>
 oP E (bC .eql 3 55 k (vI 4)) l fun m b=>
 xcond m
 (dX b fun a=>
 qP pG (xNil x0) fun n=>
 qP pG (fA 68 n 2) fun c=>
 qP pG (fA 123 x7 2) fun d=>
 qL pG a (blk c) (lA 66 c) fun e=>
 qL pG a (blk d) (lA 9 d) fun o=>
 qL pG a (blk e) (xV (Instr.lookup 66 e o false)) fun p=>
 qP pG (fA 40 x12 4) fun q=>
 oP E (sA 3 q p) a fun _ f=>
 keepX [] a f (j2 [] f))
 (j2 [] b))
def F97(x0 x1 x2 x3 x4 x5 w)(R:RT)(E):=
 opK pG E (xV (Instr.box 123 x1)) w fun b i=>
 oP E (fA 123 b 0) i fun j k=>
 oP E (lA 3 j) k fun l m=>
 oP E (xCall (fC 110) [l]) m fun n o=>
 oP E (xCall (fC 67) [x3,x4,n]) o fun p q=>
 oP E (xV (Instr.alloc 40 true (.tuple #[]))) q fun a r=>
 oP E (sA 40 a p) r fun _ s=>
 oP E (fA 40 a 3) s fun t u=>
 oP E (sA 3 t x2) u fun _ v=>
 xcut (fun _ y=>c0k x0 b a y R E) fun j1=>
 oP E (fA 123 b 3) v fun z aa=>
 oP E (lA 57 z) aa fun ab ac=>
 oP E (xBuiltin .len #[57] 3 [false] [ab]) ac fun d ad=>
 oP E (bC .eql 3 23 d (vI 1)) ad fun ae e=>
 xcond ae
 (oP E (fA 123 b 3) e fun af ag=>
 oP E (lA 57 af) ag fun ah ai=>
 oP E (iA 57 ah (vI 0)) ai fun aj ak=>
 oP E (lA 123 aj) ak fun al am=>
 oP E (xCall (fC 98) [x0,al,x3,x5]) am fun f an=>
 oP E (xT f 0) an fun ao ap=>
 oP E (xT f 1) ap fun aq ar=>
 oP E (fA 40 a 6) ar fun au av=>
 oP E (sA 38 au ao) av fun _ aw=>
 oP E (fA 40 a 0) aw fun ax ay=>
 oP E (sA 3 ax aq) ay fun _ az=>
 j1 [] az)
 (oP E (bC .eql 3 23 d (vI 2)) e fun ba g=>
 xcond ba
 (oP E (fA 123 b 3) g fun bb bc=>
 oP E (lA 57 bb) bc fun bd be=>
 oP E (xCall (fC 68) [x0,bd,x3,x5]) be fun c bf=>
 oP E (xT c 0) bf fun bg bh=>
 oP E (xT c 1) bh fun bi bj=>
 oP E (xT c 2) bj fun bk bl=>
 oP E (fA 40 a 6) bl fun bm bn=>
 oP E (sA 38 bm bg) bn fun _ bo=>
 oP E (fA 40 a 7) bo fun bp bq=>
 oP E (sA 38 bp bi) bq fun _ br=>
 oP E (fA 40 a 0) br fun bs bt=>
 oP E (sA 3 bs bk) bt fun _ bu=>
 j1 [] bu)
 (j1 [] g))
def h97:Hint:=(sQ (sQ (sQ (hU [] (sQ (hB (sQ (hC hN (sQ (hC hN hN)))))) (hU [] (sQ (hC (.reg [(0,144115188075855872,1),(1,288230376151711744,144115188075855872),(2,576460752303423488,288230376151711744),(4,1152921504606846976,576460752303423488),(0,2305843009213693952,128),(16,4611686018427387904,2305843009213693952),(40,9223372036854775808,5764607523034234880),(127,18446744073709551616,4096),(255,0,27670116110564327424)] [104,104,104,96,104,72,40,104,0] (.early 0 (.early 1 (.early 2 (.early 4 (.load 3 (.load 5 (.load 6 (.early 7 (.step 8 .done)))))))))) hN)) hN)))))
theorem d0v{x0 x1 x2 x3 x4 x5:Value}(h:F97 x0 x1 x2 x3 x4 x5 w R E):Cv pG 97 #[x0,x1,x2,x3,x4,x5] w R E:=okF (h:=h97) Tryz.func97 (by kernel_rfl) (by kernel_rfl) h
def F98(x0 x1 x2 x3 w)(R:RT)(E):=
 opK pG E (xV (Instr.box 123 x1)) w fun c k=>
 oP E (xV (Instr.alloc 38 true (.tuple #[]))) k fun a l=>
 oP E (lA 123 c) l fun m n=>
 oP E (xCall (fC 96) [x0,m]) n fun d o=>
 oP E (xT d 0) o fun p q=>
 oP E (xT d 1) q fun r s=>
 oP E (xV (Instr.alloc 38 true (.tuple #[]))) s fun e t=>
 oP E (sA 38 e p) t fun _ f=>
 xcond r
 (oP E (lA 38 e) f fun u v=>
 oP E (sA 38 a u) v fun _ g=>
 xcell pG 38 a g fun y=>
 R (Value.tuple #[y,x2]) g)
 (oP E (xCall (fC 23) [x0]) f fun i z=>
 oP E (xCall (fC 111) [x0,x3]) z fun aa ab=>
 oP E (xV (Instr.build 38 #[(0,aa)])) ab fun ac ad=>
 oP E (xV (Instr.alloc 38 true (.tuple #[]))) ad fun b ae=>
 oP E (sA 38 b ac) ae fun _ af=>
 oP E (lA 123 c) af fun ag ah=>
 oP E (fA 38 b 0) ah fun ai aj=>
 oP E (lA 3 ai) aj fun ak al=>
 oP E (xCall (fC 97) [x0,ag,ak,x2,i,x3]) al fun _t36_38 am=>
 oP E (lA 38 b) am fun an ao=>
 oP E (sA 38 a an) ao fun _ j=>
 xcell pG 38 a j fun ap=>
 R (Value.tuple #[ap,i]) j)
def h98:Hint:=(sQ (hS (sQ (sQ (hC (sQ hN) hN))) (sQ (sQ (sQ (sQ hN))))))
theorem d0w{x0 x1 x2 x3:Value}(h:F98 x0 x1 x2 x3 w R E):Cv pG 98 #[x0,x1,x2,x3] w R E:=okF (h:=h98) Tryz.func98 (by kernel_rfl) (by kernel_rfl) h
def F99(x0 x1 x2 w)(R:RT)(E):=
 opK pG E (xV (Instr.box 38 x1)) w fun d e=>
 dX e fun a=>
 qP pG (fA 38 d 0) fun b=>
 qP pG (xNil x0) fun f=>
 qP pG (fA 68 f 0) fun g=>
 qP pG (fA 30 g 0) fun c=>
 qL pG a (blk b) (lA 3 b) fun i=>
 qL pG a (blk c) (lA 27 c) fun j=>
 qP pG (xBuiltin .len #[27] 3 [false] [j]) fun k=>
 qP pG (bN .geq 3 8 14 i k) fun l=>
 xcond l
 (oP E (bC .add 3 16 x2 (vI 1)) a fun m n=>
 R m n)
 (R x2 a)
def h99:Hint:=(sQ (hS (hS (.reg [(0,128,16),(1,256,128),(0,512,1),(4,1024,512),(8,2048,1024),(16,4096,2048),(32,8192,4096),(64,16384,8192),(130,32768,16640)] [66,64,66,66,66,66,2,66,66] (.early 0 (.early 2 (.early 3 (.early 4 (.early 5 (.load 1 (.load 6 (.early 7 (.early 8 .done)))))))))) (hC (sQ hN) hN)) (sQ hN)))
theorem d0x{x0 x1 x2:Value}(h:F99 x0 x1 x2 w R E):Cv pG 99 #[x0,x1,x2] w R E:=okF (h:=h99) Tryz.func99 (by kernel_rfl) (by kernel_rfl) h
def d0y(x0 x1 w)(R:RT)(E):=
 opK pG E (xNil x0) w fun d e=>
 oP E (fA 133 d 2) e fun f g=>
 oP E (lA 3 f) g fun i j=>
 oP E (bC .neq 3 8 i (vI 0)) j fun k a=>
 xcond k
 (R (vB false) a)
 (oP E (xNil x0) a fun l m=>
 oP E (fA 133 l 0) m fun n o=>
 oP E (lA 3 n) o fun p q=>
 oP E (bC .eql 3 13 p (vI 4096)) q fun r b=>
 xcond r
 (oP E (xNil x0) b fun s t=>
 oP E (fA 133 s 2) t fun u v=>
 oP E (sA 3 u (vI 33)) v fun _ y=>
 R (vB false) y)
 (oP E (bC .gtr 3 18 x1 (vI 64)) b fun z c=>
 xcond z
 (oP E (xNil x0) c fun aa ab=>
 oP E (fA 133 aa 2) ab fun ac ad=>
 oP E (sA 3 ac (vI 32)) ad fun _ ae=>
 R (vB false) ae)
 (oP E (xNil x0) c fun af ag=>
 oP E (fA 133 af 0) ag fun ah ai=>
 oP E (lA 3 ah) ai fun aj ak=>
 oP E (bC .add 3 26 aj (vI 1)) ak fun al am=>
 oP E (xNil x0) am fun an ao=>
 oP E (fA 133 an 0) ao fun ap aq=>
 oP E (sA 3 ap al) aq fun _ ar=>
 oP E (xNil x0) ar fun au av=>
 oP E (fA 133 au 1) av fun aw ax=>
 oP E (lA 3 aw) ax fun ay az=>
 oP E (xBuiltin .max #[3,3] 3 [false,false] [ay,x1]) az fun ba bb=>
 oP E (xNil x0) bb fun bc bd=>
 oP E (fA 133 bc 1) bd fun be bf=>
 oP E (sA 3 be ba) bf fun _ bg=>
 R (vB true) bg)))
def d2O:Hint:=(sQ (hS (sQ (hC (sQ hN) hN)) (hS (sQ (hC (sQ (sQ hN)) hN)) (hS (sQ (hC (sQ (sQ hN)) hN)) (sQ (sQ (sQ hN)))))))
theorem c7q{x0 x1:Value}(h:d0y x0 x1 w R E):Cv pG 100 #[x0,x1] w R E:=okF (h:=d2O) Tryz.func100 (by kernel_rfl) (by kernel_rfl) h
def c1t(x0 x2 x4 x9 w)(next4:NT)(R:RT)(E):=
 opK pG E (fA 60 x4 5) w fun c d=>
 oP E (lA 23 c) d fun e f=>
 oP E (xBuiltin .len #[23] 3 [false] [e]) f fun g i=>
 oP E (bN .lss 3 83 86 x9 g) i fun a j=>
 oP E (gYs a (xNil (zT a x0))) j fun k l=>
 oP E (gYs a (fA 133 k 2)) l fun m n=>
 oP E (gYs a (lA 3 m)) n fun o p=>
 oP E (gYs a (bC .eql 3 92 o (vI 0))) p fun q r=>
 oP E (xPick a q (vB false)) r fun s b=>
 xcond s
 (oP E (fA 60 x4 5) b fun t u=>
 oP E (lA 23 t) u fun v y=>
 oP E (iA 23 v x9) y fun z aa=>
 oP E (lA 60 z) aa fun ab ac=>
 oP E (bC .add 3 103 x2 (vI 1)) ac fun ad ae=>
 oP E (xCall (fC 101) [x0,ab,ad]) ae fun _t105_35 af=>
 oP E (bC .add 3 95 x9 (vI 1)) af fun ag ah=>
 next4 [ag] ah)
 (R (Value.tuple #[]) b)
def b6M(x0 x2 x4 w)(R:RT)(E):=
 ∀_τ:Fr,(xloop [9] [(vI 0)] w fun a b next4=>
 c1t x0 x2 x4 (a 9) b next4 R E)
def c1u(x0 x2 x4 x8 w)(next5:NT)(j3:NT)(_R:RT)(E):=
 opK pG E (fA 60 x4 4) w fun c d=>
 oP E (lA 23 c) d fun e f=>
 oP E (xBuiltin .len #[23] 3 [false] [e]) f fun g i=>
 oP E (bN .lss 3 60 63 x8 g) i fun a j=>
 oP E (gYs a (xNil (zT a x0))) j fun k l=>
 oP E (gYs a (fA 133 k 2)) l fun m n=>
 oP E (gYs a (lA 3 m)) n fun o p=>
 oP E (gYs a (bC .eql 3 69 o (vI 0))) p fun q r=>
 oP E (xPick a q (vB false)) r fun s b=>
 xcond s
 (oP E (fA 60 x4 4) b fun t u=>
 oP E (lA 23 t) u fun v y=>
 oP E (iA 23 v x8) y fun z aa=>
 oP E (lA 60 z) aa fun ab ac=>
 oP E (bC .add 3 80 x2 (vI 1)) ac fun ad ae=>
 oP E (xCall (fC 101) [x0,ab,ad]) ae fun _t82_71 af=>
 oP E (bC .add 3 72 x8 (vI 1)) af fun ag ah=>
 next5 [ag] ah)
 (j3 [] b)
def b6N(x0 x2 x4 w)(R:RT)(E):=
 ∀_τ:Fr,(xcut (fun _ a=>b6M x0 x2 x4 a R E) fun j3=>
 xloop [8] [(vI 0)] w fun b c next5=>
 c1u x0 x2 x4 (b 8) c next5 j3 R E)
def c1v(x0 x2 x4 x7 w)(next6:NT)(j2:NT)(_R:RT)(E):=
 opK pG E (fA 60 x4 2) w fun c d=>
 oP E (lA 57 c) d fun e f=>
 oP E (xBuiltin .len #[57] 3 [false] [e]) f fun g i=>
 oP E (bN .lss 3 37 40 x7 g) i fun a j=>
 oP E (gYs a (xNil (zT a x0))) j fun k l=>
 oP E (gYs a (fA 133 k 2)) l fun m n=>
 oP E (gYs a (lA 3 m)) n fun o p=>
 oP E (gYs a (bC .eql 3 46 o (vI 0))) p fun q r=>
 oP E (xPick a q (vB false)) r fun s b=>
 xcond s
 (oP E (fA 60 x4 2) b fun t u=>
 oP E (lA 57 t) u fun v y=>
 oP E (iA 57 v x7) y fun z aa=>
 oP E (lA 123 z) aa fun ab ac=>
 oP E (bC .add 3 57 x2 (vI 1)) ac fun ad ae=>
 oP E (xCall (fC 113) [x0,ab,ad]) ae fun _t59_107 af=>
 oP E (bC .add 3 49 x7 (vI 1)) af fun ag ah=>
 next6 [ag] ah)
 (j2 [] b)
def b6O(x0 x2 x4 w)(R:RT)(E):=
 ∀_τ:Fr,(xcut (fun _ a=>b6N x0 x2 x4 a R E) fun j2=>
 xloop [7] [(vI 0)] w fun b c next6=>
 c1v x0 x2 x4 (b 7) c next6 j2 R E)
def c1w(x0 x2 x4 x6 w)(next7:NT)(j1:NT)(_R:RT)(E):=
 opK pG E (fA 60 x4 3) w fun c d=>
 oP E (lA 58 c) d fun e f=>
 oP E (xBuiltin .len #[58] 3 [false] [e]) f fun g i=>
 oP E (bN .lss 3 14 17 x6 g) i fun a j=>
 oP E (gYs a (xNil (zT a x0))) j fun k l=>
 oP E (gYs a (fA 133 k 2)) l fun m n=>
 oP E (gYs a (lA 3 m)) n fun o p=>
 oP E (gYs a (bC .eql 3 23 o (vI 0))) p fun q r=>
 oP E (xPick a q (vB false)) r fun s b=>
 xcond s
 (oP E (fA 60 x4 3) b fun t u=>
 oP E (lA 58 t) u fun v y=>
 oP E (iA 58 v x6) y fun z aa=>
 oP E (lA 131 z) aa fun ab ac=>
 oP E (bC .add 3 34 x2 (vI 1)) ac fun ad ae=>
 oP E (xCall (fC 112) [x0,ab,ad]) ae fun _t36_143 af=>
 oP E (bC .add 3 26 x6 (vI 1)) af fun ag ah=>
 next7 [ag] ah)
 (j1 [] b)
def d0z(x0 x1 x2 w)(R:RT)(E):=
 opK pG E (xV (Instr.box 60 x1)) w fun a c=>
 oP E (xCall (fC 100) [x0,x2]) c fun d e=>
 oP E (xV (Op.unary .not d)) e fun f b=>
 xcond f
 (R (Value.tuple #[]) b)
 (xcut (fun _ g=>b6O x0 x2 a g R E) fun j1=>
 xloop [6] [(vI 0)] b fun i j next7=>
 c1w x0 x2 a (i 6) j next7 j1 R E)
def d2P:Hint:=(sQ (hS (sQ (hC hN hN)) (hU [] (sQ (hB (hL [6] (hS (sQ (hC hN hN)) (hS (hB hN) hN))))) (hU [] (sQ (hB (hL [7] (hS (sQ (hC hN hN)) (hS (hB hN) hN))))) (hU [] (sQ (hB (hL [8] (hS (sQ (hC hN hN)) (hS (hB hN) hN))))) (sQ (hB (hL [9] (hS (sQ (hC hN hN)) (hS (hB hN) hN))))))))))
theorem c7r{x0 x1 x2:Value}(h:d0z x0 x1 x2 w R E):Cv pG 101 #[x0,x1,x2] w R E:=okF (h:=d2P) Tryz.func101 (by kernel_rfl) (by kernel_rfl) h
def b6P(x3 w)(R:RT)(E):=
 ∀_τ:Fr,(oP E (bC .leq 3 52 x3 (vI 32)) w fun a b=>
 R a b)
def c1x(x0 x3 x4 w)(next2:NT)(j1:NT)(R:RT)(E):=
 opK pG E (xBuiltin .len #[9] 3 [false] [x0]) w fun i j=>
 oP E (bN .lss 3 20 22 x4 i) j fun k e=>
 xcond k
 (oP E (xCall (fC 115) [x0,x4]) e fun c l=>
 oP E (xT c 0) l fun m n=>
 oP E (xT c 1) n fun o p=>
 oP E (xT c 2) p fun q r=>
 oP E (xCall (fC 116) [m]) r fun f s=>
 oP E (xV (Op.unary .not q)) s fun a t=>
 oP E (gNo a (bC .neq 3 36 (zF a f) (vI 3))) t fun b u=>
 oP E (gsem (asB (zF a b)) true (xBin .neq 3 (.tmp 39) (.const (vI 4)) (gval (asB (zF a b)) true f) (vI 4))) u fun d v=>
 oP E (gsem (asB (gval (asB (zF a b)) true d)) false (xBin .eql 3 (.tmp 42) (.const (vI 0)) (gval (asB (gval (asB (zF a b)) true d)) false x3) (vI 0))) v fun y z=>
 oP E (gsem (asB (zF a b)) true (xPick (gval (asB (zF a b)) true d) (vB true) y)) z fun aa ab=>
 oP E (gNo a (xPick (zF a b) aa (vB false))) ab fun ac ad=>
 oP E (xPick a (vB true) ac) ad fun ae g=>
 xcond ae
 (R (vB false) g)
 (oP E (bC .add 3 47 x3 (vI 1)) g fun af ag=>
 oP E (bN .add 3 49 50 x4 o) ag fun ah ai=>
 next2 [af,ah] ai))
 (j1 [x3] e)
def d0A(x0 w)(R:RT)(E):=
 opK pG E (bC .eql 9 9 x0 (eS)) w fun a e=>
 oP E (gNo a (xBuiltin .len #[9] 3 [false] [(zF a x0)])) e fun f g=>
 oP E (gNo a (bC .gtr 3 13 f (vI 128))) g fun i j=>
 oP E (xPick a (vB true) i) j fun b k=>
 oP E (gNo b (xCall (fC 114) [(zF b x0)])) k fun l m=>
 oP E (xPick b (vB true) l) m fun n c=>
 xcond n
 (R (vB false) c)
 (xcut (fun o p=>b6P (nth o 0) p R E) fun j1=>
 xloop [3,4] [(vI 0),(vI 0)] c fun d q next2=>
 c1x x0 (d 3) (d 4) q next2 j1 R E)
def d2Q:Hint:=(sQ (hS (sQ (hC (sQ hN) hN)) (sQ (hU [3] (sQ (hB (hL [3,4] (hS (sQ (hC hN hN)) (hB (sQ (sQ (hS (sQ (hC (sQ hN) hN)) (sQ hN))))))))) (sQ hN)))))
theorem c7s{x0:Value}(h:d0A x0 w R E):Cv pG 102 #[x0] w R E:=okF (h:=d2Q) Tryz.func102 (by kernel_rfl) (by kernel_rfl) h
def c1y(x0 x3 x8 w)(next4:NT)(R:RT)(E):=
 opK pG E (fA 131 x3 3) w fun c d=>
 oP E (lA 58 c) d fun e f=>
 oP E (xBuiltin .len #[58] 3 [false] [e]) f fun g i=>
 oP E (bN .lss 3 82 85 x8 g) i fun a j=>
 oP E (gYs a (xNil (zT a x0))) j fun k l=>
 oP E (gYs a (fA 136 k 0)) l fun m n=>
 oP E (gYs a (lA 4 m)) n fun o p=>
 oP E (xPick a o (vB false)) p fun q b=>
 xcond q
 (oP E (fA 131 x3 3) b fun r s=>
 oP E (lA 58 r) s fun t u=>
 oP E (iA 58 t x8) u fun v y=>
 oP E (lA 131 v) y fun z aa=>
 oP E (xCall (fC 103) [x0,z]) aa fun _t101_67 ab=>
 oP E (bC .add 3 93 x8 (vI 1)) ab fun ac ad=>
 next4 [ac] ad)
 (R (Value.tuple #[]) b)
def b6Q(x0 x3 w)(R:RT)(E):=
 ∀_τ:Fr,(xloop [8] [(vI 0)] w fun a b next4=>
 c1y x0 x3 (a 8) b next4 R E)
def c1z(x0 x3 x7 w)(next5:NT)(j3:NT)(_R:RT)(E):=
 opK pG E (fA 131 x3 2) w fun c d=>
 oP E (lA 57 c) d fun e f=>
 oP E (xBuiltin .len #[57] 3 [false] [e]) f fun g i=>
 oP E (bN .lss 3 62 65 x7 g) i fun a j=>
 oP E (gYs a (xNil (zT a x0))) j fun k l=>
 oP E (gYs a (fA 136 k 0)) l fun m n=>
 oP E (gYs a (lA 4 m)) n fun o p=>
 oP E (xPick a o (vB false)) p fun q b=>
 xcond q
 (oP E (fA 131 x3 2) b fun r s=>
 oP E (lA 57 r) s fun t u=>
 oP E (iA 57 t x7) u fun v y=>
 oP E (lA 123 v) y fun z aa=>
 oP E (xCall (fC 104) [x0,z]) aa fun _t81_99 ab=>
 oP E (bC .add 3 73 x7 (vI 1)) ab fun ac ad=>
 next5 [ac] ad)
 (j3 [] b)
def b6R(x0 x3 x4 x5 x6 w)(R:RT)(E):=
 ∀_τ:Fr,(oP E (xNil x0) w fun d e=>
 oP E (fA 136 d 0) e fun f g=>
 oP E (lA 4 f) g fun c i=>
 oP E (xPick c (zT c x6) (vB false)) i fun a j=>
 oP E (gYs a (fA 131 x3 2)) j fun k l=>
 oP E (gYs a (lA 57 k)) l fun m n=>
 oP E (gYs a (xBuiltin .len #[57] 3 [false] [m])) n fun o p=>
 oP E (gYs a (bN .eql 3 49 50 o (zT a x4))) p fun q r=>
 oP E (xPick a q (vB false)) r fun b s=>
 oP E (gYs b (fA 131 x3 3)) s fun t u=>
 oP E (gYs b (lA 58 t)) u fun v y=>
 oP E (gYs b (xBuiltin .len #[58] 3 [false] [v])) y fun z aa=>
 oP E (gYs b (bN .eql 3 56 57 z (zT b x5))) aa fun ab ac=>
 oP E (xPick b ab (vB false)) ac fun ad ae=>
 oP E (xNil x0) ae fun af ag=>
 oP E (fA 136 af 0) ag fun ah ai=>
 oP E (sA 4 ah ad) ai fun _ aj=>
 xcut (fun _ ak=>b6Q x0 x3 ak R E) fun j3=>
 xloop [7] [(vI 0)] aj fun al am next5=>
 c1z x0 x3 (al 7) am next5 j3 R E)
def b6S(x0 x3 x4 x5 w)(R:RT)(E):=
 ∀_τ:Fr,(oP E (fA 131 x3 1) w fun c d=>
 oP E (lA 3 c) d fun e f=>
 oP E (bC .eql 3 25 e (vI 0)) f fun g i=>
 xcut (fun j k=>b6R x0 x3 x4 x5 (nth j 0) k R E) fun j2=>
 oP E (fA 131 x3 0) i fun l m=>
 oP E (lA 3 l) m fun n o=>
 oP E (bC .eql 3 28 n (vI 3)) o fun p b=>
 xcond p
 (oP E (fA 131 x3 1) b fun q r=>
 oP E (lA 3 q) r fun s t=>
 oP E (bC .geq 3 31 s (vI 1)) t fun a u=>
 oP E (gYs a (fA 131 x3 1)) u fun v y=>
 oP E (gYs a (lA 3 v)) y fun z aa=>
 oP E (gYs a (bC .leq 3 35 z (vI 6))) aa fun ab ac=>
 oP E (xPick a ab (vB false)) ac fun ad ae=>
 j2 [ad] ae)
 (j2 [g] b))
def b6T(x0 _x3 x4 x5 x21:Value)(w)(j1:NT)(_R:RT)(E):=
 ∀_τ:Fr,(xcond x21
 (j1 [x4,(vI 2)] w)
 (oP E (xNil x0) w fun a b=>
 oP E (fA 136 a 0) b fun c d=>
 oP E (sA 4 c (vB false)) d fun _ e=>
 j1 [x4,x5] e))
def b6U(x0 x3 x4 x5 x10 x14 w)(j1:NT)(R:RT)(E):=
 ∀_τ:Fr,(xcond x14
 (j1 [x4,x5] w)
 (oP E (bC .eql 3 10 x10 (vI 3)) w fun e a=>
 xcond e
 (j1 [(vI 2),x5] a)
 (oP E (bC .eql 3 10 x10 (vI 4)) a fun f b=>
 xcond f
 (j1 [x4,(vI 1)] b)
 (xcut (fun g i=>b6T x0 x3 x4 x5 (nth g 0) i j1 R E) fun j7=>
 oP E (bC .eql 3 10 x10 (vI 5)) b fun c d=>
 xcond c
 (j7 [c] d)
 (oP E (bC .eql 3 10 x10 (vI 6)) d fun j k=>
 j7 [j] k)))))
def d0B(x0 x1 w)(R:RT)(E):=
 opK pG E (xV (Instr.box 131 x1)) w fun a f=>
 xcut (fun c g=>b6S x0 a (nth c 0) (nth c.tail 0) g R E) fun j1=>
 oP E (fA 131 a 0) f fun i j=>
 oP E (lA 3 i) j fun b k=>
 xcut (fun l m=>b6U x0 a (vI 0) (vI 0) b (nth l 0) m j1 R E) fun j6=>
 oP E (bC .eql 3 10 b (vI 1)) k fun d e=>
 xcond d
 (j6 [d] e)
 (oP E (bC .eql 3 10 b (vI 2)) e fun n o=>
 j6 [n] o)
def d2R:Hint:=(sQ (sQ (hU [4,5] (sQ (hB (hU [14] (sQ (hC hN hN)) (hC hN (sQ (hC hN (sQ (hC hN (hU [21] (sQ (hC hN hN)) (hC hN hN)))))))))) (sQ (hU [6] (sQ (hC hN hN)) (sQ (hU [] (sQ (hB (hL [7] (hS (sQ (hC hN hN)) (hS (hB hN) hN))))) (sQ (hB (hL [8] (hS (sQ (hC hN hN)) (hS (hB hN) hN))))))))))))
theorem c7t{x0 x1:Value}(h:d0B x0 x1 w R E):Cv pG 103 #[x0,x1] w R E:=okF (h:=d2R) Tryz.func103 (by kernel_rfl) (by kernel_rfl) h
def c1A(x0 x3 x5 w)(next2:NT)(R:RT)(E):=
 opK pG E (fA 123 x3 3) w fun c d=>
 oP E (lA 57 c) d fun e f=>
 oP E (xBuiltin .len #[57] 3 [false] [e]) f fun g i=>
 oP E (bN .lss 3 65 68 x5 g) i fun a j=>
 oP E (gYs a (xNil (zT a x0))) j fun k l=>
 oP E (gYs a (fA 136 k 0)) l fun m n=>
 oP E (gYs a (lA 4 m)) n fun o p=>
 oP E (xPick a o (vB false)) p fun q b=>
 xcond q
 (oP E (fA 123 x3 3) b fun r s=>
 oP E (lA 57 r) s fun t u=>
 oP E (iA 57 t x5) u fun v y=>
 oP E (lA 123 v) y fun z aa=>
 oP E (xCall (fC 104) [x0,z]) aa fun _t84_93 ab=>
 oP E (bC .add 3 76 x5 (vI 1)) ab fun ac ad=>
 next2 [ac] ad)
 (R (Value.tuple #[]) b)
def b6V(x0 x3 x4 w)(R:RT)(E):=
 ∀_τ:Fr,(oP E (fA 123 x3 2) w fun f g=>
 oP E (lA 9 f) g fun i j=>
 oP E (fA 123 x3 0) j fun k l=>
 oP E (lA 3 k) l fun m n=>
 oP E (bC .eql 3 28 m (vI 2)) n fun d o=>
 oP E (gNo d (fA 123 x3 0)) o fun p q=>
 oP E (gNo d (lA 3 p)) q fun r s=>
 oP E (gNo d (bC .eql 3 32 r (vI 4))) s fun t u=>
 oP E (xPick d (vB true) t) u fun v y=>
 oP E (xCall (fC 73) [x0,i,v]) y fun _t35_21 z=>
 oP E (xNil x0) z fun aa ab=>
 oP E (fA 136 aa 0) ab fun ac ad=>
 oP E (lA 4 ac) ad fun c ae=>
 oP E (gYs c (fA 123 x3 3)) ae fun af ag=>
 oP E (gYs c (lA 57 af)) ag fun ah ai=>
 oP E (gYs c (xBuiltin .len #[57] 3 [false] [ah])) ai fun aj ak=>
 oP E (gYs c (bN .eql 3 44 45 aj (zT c x4))) ak fun al am=>
 oP E (xPick c al (vB false)) am fun a an=>
 oP E (gYs a (fA 123 x3 1)) an fun ao ap=>
 oP E (gYs a (lA 2 ao)) ap fun aq ar=>
 oP E (gYs a (bC .eql 2 50 aq (vI 0))) ar fun b au=>
 oP E (gsem (asB (zT a b)) false (fA 123 x3 0)) au fun av aw=>
 oP E (gsem (asB (zT a b)) false (lA 3 av)) aw fun ax ay=>
 oP E (gsem (asB (zT a b)) false (bC .eql 3 54 ax (vI 1))) ay fun e az=>
 oP E (gsem (asB (gval (asB (zT a b)) false e)) true (fA 123 x3 1)) az fun ba bb=>
 oP E (gsem (asB (gval (asB (zT a b)) false e)) true (lA 2 ba)) bb fun bc bd=>
 oP E (gsem (asB (gval (asB (zT a b)) false e)) true (bC .gtr 2 58 bc (vI 0))) bd fun be bf=>
 oP E (gsem (asB (zT a b)) false (xPick (gval (asB (zT a b)) false e) be (vB false))) bf fun bg bh=>
 oP E (gYs a (xPick (zT a b) (vB true) bg)) bh fun bi bj=>
 oP E (xPick a bi (vB false)) bj fun bk bl=>
 oP E (xNil x0) bl fun bm bn=>
 oP E (fA 136 bm 0) bn fun bo bp=>
 oP E (sA 4 bo bk) bp fun _ bq=>
 xloop [5] [(vI 0)] bq fun br bs next2=>
 c1A x0 x3 (br 5) bs next2 R E)
def b6W(x0 _x3 x4 x18:Value)(w)(j1:NT)(_R:RT)(E):=
 ∀_τ:Fr,(xcond x18
 (j1 [(vI 2)] w)
 (oP E (xNil x0) w fun a b=>
 oP E (fA 136 a 0) b fun c d=>
 oP E (sA 4 c (vB false)) d fun _ e=>
 j1 [x4] e))
def b6X(x0 x3 x4 x7 x15 w)(j1:NT)(R:RT)(E):=
 ∀_τ:Fr,(xcond x15
 (j1 [(vI 1)] w)
 (xcut (fun j k=>b6W x0 x3 x4 (nth j 0) k j1 R E) fun j5=>
 oP E (bC .eql 3 7 x7 (vI 6)) w fun a b=>
 xcond a
 (j5 [a] b)
 (oP E (bC .eql 3 7 x7 (vI 7)) b fun c d=>
 xcond c
 (j5 [c] d)
 (oP E (bC .eql 3 7 x7 (vI 8)) d fun e f=>
 xcond e
 (j5 [e] f)
 (oP E (bC .eql 3 7 x7 (vI 9)) f fun g i=>
 xcond g
 (j5 [g] i)
 (oP E (bC .eql 3 7 x7 (vI 10)) i fun l m=>
 j5 [l] m))))))
def b6Y(x0 x3 x4 x7 x11 w)(j1:NT)(R:RT)(E):=
 ∀_τ:Fr,(xcond x11
 (j1 [x4] w)
 (xcut (fun c d=>b6X x0 x3 x4 x7 (nth c 0) d j1 R E) fun j4=>
 oP E (bC .eql 3 7 x7 (vI 4)) w fun a b=>
 xcond a
 (j4 [a] b)
 (oP E (bC .eql 3 7 x7 (vI 5)) b fun e f=>
 j4 [e] f)))
def d0C(x0 x1 w)(R:RT)(E):=
 opK pG E (xV (Instr.box 123 x1)) w fun b g=>
 xcut (fun i j=>b6V x0 b (nth i 0) j R E) fun j1=>
 oP E (fA 123 b 0) g fun k l=>
 oP E (lA 3 k) l fun a m=>
 xcut (fun n o=>b6Y x0 b (vI 0) a (nth n 0) o j1 R E) fun j3=>
 oP E (bC .eql 3 7 a (vI 1)) m fun c d=>
 xcond c
 (j3 [c] d)
 (oP E (bC .eql 3 7 a (vI 2)) d fun e f=>
 xcond e
 (j3 [e] f)
 (oP E (bC .eql 3 7 a (vI 3)) f fun p q=>
 j3 [p] q))
def d2S:Hint:=(sQ (sQ (hU [4] (sQ (hB (hU [11] (sQ (hC hN (sQ (hC hN hN)))) (hC hN (hU [15] (sQ (hC hN hN)) (hC hN (hU [18] (sQ (hC hN (sQ (hC hN (sQ (hC hN (sQ (hC hN hN)))))))) (hC hN hN)))))))) (sQ (sQ (sQ (hB (hL [5] (hS (sQ (hC hN hN)) (hS (hB hN) hN))))))))))
theorem c7u{x0 x1:Value}(h:d0C x0 x1 w R E):Cv pG 104 #[x0,x1] w R E:=okF (h:=d2S) Tryz.func104 (by kernel_rfl) (by kernel_rfl) h
def b6Z(x0 w)(R:RT)(_E:Pan):=
 ∀_τ:Fr,(R x0 w)
def c1B(x0 x3 x6 w)(next3:NT)(j2:NT)(_R:RT)(E):=
 opK pG E (fA 131 x3 3) w fun b c=>
 oP E (lA 58 b) c fun d e=>
 oP E (xBuiltin .len #[58] 3 [false] [d]) e fun f g=>
 oP E (bN .lss 3 21 24 x6 f) g fun i a=>
 xcond i
 (oP E (fA 131 x3 3) a fun j k=>
 oP E (lA 58 j) k fun l m=>
 oP E (iA 58 l x6) m fun n o=>
 oP E (lA 131 n) o fun p q=>
 oP E (xCall (fC 105) [x0,p]) q fun r s=>
 oP E (bC .add 3 26 x6 (vI 1)) s fun t u=>
 next3 [r,t] u)
 (j2 [x0] a)
def b7a(x0 x3 w)(R:RT)(E):=
 ∀_τ:Fr,(xcut (fun b c=>b6Z (nth b 0) c R E) fun j2=>
 xloop [0,6] [x0,(vI 0)] w fun a d next3=>
 c1B (a 0) x3 (a 6) d next3 j2 R E)
def c1C(x0 x3 x5 w)(next4:NT)(j1:NT)(_R:RT)(E):=
 opK pG E (fA 131 x3 2) w fun b c=>
 oP E (lA 57 b) c fun d e=>
 oP E (xBuiltin .len #[57] 3 [false] [d]) e fun f g=>
 oP E (bN .lss 3 7 10 x5 f) g fun i a=>
 xcond i
 (oP E (fA 131 x3 2) a fun j k=>
 oP E (lA 57 j) k fun l m=>
 oP E (iA 57 l x5) m fun n o=>
 oP E (lA 123 n) o fun p q=>
 oP E (xCall (fC 106) [x0,p]) q fun r s=>
 oP E (bC .add 3 12 x5 (vI 1)) s fun t u=>
 next4 [r,t] u)
 (j1 [x0] a)
def d0D(x0 x1 w)(R:RT)(E):=
 opK pG E (xV (Instr.box 131 x1)) w fun a c=>
 xcut (fun d e=>b7a (nth d 0) a e R E) fun j1=>
 xloop [0,5] [x0,(vI 0)] c fun b f next4=>
 c1C (b 0) a (b 5) f next4 j1 R E
def d2T:Hint:=(sQ (hU [0] (sQ (hB (hL [0,5] (hS (sQ (hC hN hN)) (hS (hB hN) hN))))) (hU [0] (sQ (hB (hL [0,6] (hS (sQ (hC hN hN)) (hS (hB hN) hN))))) (sQ hN))))
theorem c7v{x0 x1:Value}(h:d0D x0 x1 w R E):Cv pG 105 #[x0,x1] w R E:=okF (h:=d2T) Tryz.func105 (by kernel_rfl) (by kernel_rfl) h
def b7b(x0 w)(R:RT)(_E:Pan):=
 ∀_τ:Fr,(R x0 w)
def c1D(x0 x3 x5 w)(next3:NT)(j2:NT)(_R:RT)(E):=
 opK pG E (fA 123 x3 3) w fun b c=>
 oP E (lA 57 b) c fun d e=>
 oP E (xBuiltin .len #[57] 3 [false] [d]) e fun f g=>
 oP E (bN .lss 3 23 26 x5 f) g fun i a=>
 xcond i
 (oP E (fA 123 x3 3) a fun j k=>
 oP E (lA 57 j) k fun l m=>
 oP E (iA 57 l x5) m fun n o=>
 oP E (lA 123 n) o fun p q=>
 oP E (xCall (fC 106) [x0,p]) q fun r s=>
 oP E (bC .add 3 28 x5 (vI 1)) s fun t u=>
 next3 [r,t] u)
 (j2 [x0] a)
def b7c(x0 x3 w)(R:RT)(E):=
 ∀_τ:Fr,(xcut (fun b c=>b7b (nth b 0) c R E) fun j2=>
 xloop [0,5] [x0,(vI 0)] w fun a d next3=>
 c1D (a 0) x3 (a 5) d next3 j2 R E)
def d0E(x0 x1 w)(R:RT)(E):=
 opK pG E (xV (Instr.box 123 x1)) w fun a d=>
 xcut (fun e f=>b7c (nth e 0) a f R E) fun j1=>
 oP E (fA 123 a 0) d fun g i=>
 oP E (lA 3 g) i fun j k=>
 oP E (bC .eql 3 7 j (vI 2)) k fun b l=>
 oP E (gNo b (fA 123 a 0)) l fun m n=>
 oP E (gNo b (lA 3 m)) n fun o p=>
 oP E (gNo b (bC .eql 3 11 o (vI 4))) p fun q r=>
 oP E (xPick b (vB true) q) r fun s c=>
 xcond s
 (oP E (fA 123 a 2) c fun t u=>
 oP E (lA 9 t) u fun v y=>
 oP E (fA 123 a 0) y fun z aa=>
 oP E (lA 3 z) aa fun ab ac=>
 oP E (bC .eql 3 18 ab (vI 4)) ac fun ad ae=>
 oP E (xV (Instr.build 105 #[(0,v),(1,ad)])) ae fun af ag=>
 oP E (xV (Instr.buildSlice 102 1 #[(0,af)])) ag fun ah ai=>
 oP E (xBuiltin .append #[102,102] 102 [false,false] [x0,ah]) ai fun aj ak=>
 j1 [aj] ak)
 (j1 [x0] c)
def d2U:Hint:=(sQ (hU [0] (sQ (hC hN hN)) (hU [0] (sQ (hB (hL [0,5] (hS (sQ (hC hN hN)) (hS (hB hN) hN))))) (sQ hN))))
theorem c7w{x0 x1:Value}(h:d0E x0 x1 w R E):Cv pG 106 #[x0,x1] w R E:=okF (h:=d2U) Tryz.func106 (by kernel_rfl) (by kernel_rfl) h
def d0F(x0 w)(R:RT)(E):=
 opK pG E (xV (Instr.box 25 x0)) w fun g k=>
 dX k fun a=>
 qP pG (fA 25 g 0) fun i=>
 qP pG (fA 25 g 1) fun b=>
 qL pG a (blk i) (lA 22 i) fun l=>
 qL pG a (blk b) (lA 23 b) fun m=>
 oP E (xCall (fC 119) [l,(fC 120)]) a fun n c=>
 keepX [(blk b)] a c (opK pG E (xCall (fC 121) [m,(fC 122)]) c fun o d=>
 keepX [] c d (opK pG E (xV (Instr.buildSlice 192 2 #[(0,n),(1,o)])) d fun p e=>
 keepX [] d e (opK pG E (xCall (fC 118) [p]) e fun q f=>
 keepX [] e f (opK pG E (xCall (fC 117) [q]) f fun r j=>
 keepX [] f j (R r j)))))
def d2V:Hint:=(sQ (hS (.reg [(0,8,2),(1,16,8),(2,32,16),(0,64,2),(8,128,64),(20,256,128),(36,512,288),(96,1024,512),(128,2048,1024),(511,4,2048)] [18,16,16,18,2,0,0,0,0,18] (.early 0 (.early 3 (.load 1 (.load 4 (.step 2 (.step 5 (.step 6 (.step 7 (.step 8 (.early 9 .done))))))))))) hN))
theorem c7x{x0:Value}(h:d0F x0 w R E):Cv pG 107 #[x0] w R E:=okF (h:=d2V) Tryz.func107 (by kernel_rfl) (by kernel_rfl) h
def c1E(x0 x20 x21 x22 w)(next2:NT)(R:RT)(E):=
 opK pG E (bN .lss 3 22 21 x22 x21) w fun c a=>
 xcond c
 (oP E (iA 58 x20 x22) a fun d e=>
 oP E (lA 131 d) e fun f g=>
 oP E (xV (Instr.alloc 131 true (.tuple #[]))) g fun b i=>
 oP E (sA 131 b f) i fun _ j=>
 oP E (lA 131 b) j fun k l=>
 oP E (xCall (fC 108) [x0,k]) l fun _t28_21 m=>
 oP E (bC .add 3 22 x22 (vI 1)) m fun n o=>
 next2 [n] o)
 (R (Value.tuple #[]) a)
def b7d(x0 x3 w)(R:RT)(E):=
 ∀_τ:Fr,(oP E (fA 131 x3 3) w fun b c=>
 oP E (lA 58 b) c fun a d=>
 oP E (xBuiltin .len #[58] 3 [false] [a]) d fun e f=>
 xloop [22] [(vI 0)] f fun g i next2=>
 c1E x0 a e (g 22) i next2 R E)
def c1F(x0 _x3 x9 x10 x11:Value)(w)(next3:NT)(j1:NT)(_R:RT)(E):=
 opK pG E (bN .lss 3 11 10 x11 x10) w fun c a=>
 xcond c
 (oP E (iA 57 x9 x11) a fun d e=>
 oP E (lA 123 d) e fun f g=>
 oP E (xV (Instr.alloc 123 true (.tuple #[]))) g fun b i=>
 oP E (sA 123 b f) i fun _ j=>
 oP E (lA 123 b) j fun k l=>
 oP E (xCall (fC 109) [x0,k]) l fun _t17_47 m=>
 oP E (bC .add 3 11 x11 (vI 1)) m fun n o=>
 next3 [n] o)
 (j1 [] a)
def d0G(x0 x1 w)(R:RT)(E):=
 opK pG E (xV (Instr.box 131 x1)) w fun a c=>
 xcut (fun _ d=>b7d x0 a d R E) fun j1=>
 oP E (fA 131 a 2) c fun e f=>
 oP E (lA 57 e) f fun b g=>
 oP E (xBuiltin .len #[57] 3 [false] [b]) g fun i j=>
 xloop [11] [(vI 0)] j fun k l next3=>
 c1F x0 a b i (k 11) l next3 j1 R E
def d2W:Hint:=(sQ (hU [] (sQ (hB (hL [11] (sQ (hS (hC hN hN) (hS (hB (sQ hN)) hN)))))) (sQ (hB (hL [22] (sQ (hS (hC hN hN) (hS (hB (sQ hN)) hN))))))))
theorem c7y{x0 x1:Value}(h:d0G x0 x1 w R E):Cv pG 108 #[x0,x1] w R E:=okF (h:=d2W) Tryz.func108 (by kernel_rfl) (by kernel_rfl) h
def c1G(x0 x37 x38 x39 w)(next2:NT)(R:RT)(E):=
 opK pG E (bN .lss 3 39 38 x39 x38) w fun c a=>
 xcond c
 (oP E (iA 57 x37 x39) a fun d e=>
 oP E (lA 123 d) e fun f g=>
 oP E (xV (Instr.alloc 123 true (.tuple #[]))) g fun b i=>
 oP E (sA 123 b f) i fun _ j=>
 oP E (lA 123 b) j fun k l=>
 oP E (xCall (fC 109) [x0,k]) l fun _t45_21 m=>
 oP E (bC .add 3 39 x39 (vI 1)) m fun n o=>
 next2 [n] o)
 (R (Value.tuple #[]) a)
def b7e(x0 x3 w)(R:RT)(E):=
 ∀_τ:Fr,(oP E (fA 123 x3 3) w fun b c=>
 oP E (lA 57 b) c fun a d=>
 oP E (xBuiltin .len #[57] 3 [false] [a]) d fun e f=>
 xloop [39] [(vI 0)] f fun g i next2=>
 c1G x0 a e (g 39) i next2 R E)
def d0H(x0 x1 w)(R:RT)(E):=
 opK pG E (xV (Instr.box 123 x1)) w fun a r=>
 xcut (fun _ s=>b7e x0 a s R E) fun j1=>
 oP E (fA 123 a 0) r fun t u=>
 oP E (lA 3 t) u fun k v=>
 oP E (bC .eql 3 7 k (vI 2)) v fun y l=>
 xcond y
 (dX l fun b=>
 qP pG (xNil x0) fun z=>
 qP pG (fA 155 z 0) fun d=>
 qP pG (fA 123 a 2) fun m=>
 qL pG b (blk d) (lA 153 d) fun aa=>
 qL pG b (blk m) (lA 9 m) fun ab=>
 qP pG (xV (Instr.build 158 #[(0,ab),(1,(vI 1))])) fun ac=>
 oP E (xV (Instr.buildSlice 153 1 #[(0,ac)])) b fun ad e=>
 keepX [(blk d)] b e (opK pG E (xBuiltin .append #[153,153] 153 [false,false] [aa,ad]) e fun ae f=>
 keepX [] e f (qP pG (xNil x0) fun af=>
 qP pG (fA 155 af 0) fun ag=>
 oP E (sA 153 ag ae) f fun _ n=>
 keepX [] f n (j1 [] n))))
 (oP E (bC .eql 3 7 k (vI 4)) l fun ah o=>
 xcond ah
 (dX o fun c=>
 qP pG (xNil x0) fun ai=>
 qP pG (fA 155 ai 0) fun g=>
 qP pG (fA 123 a 2) fun p=>
 qL pG c (blk g) (lA 153 g) fun aj=>
 qL pG c (blk p) (lA 9 p) fun ak=>
 qP pG (xV (Instr.build 158 #[(0,ak),(1,(vI 2))])) fun al=>
 oP E (xV (Instr.buildSlice 153 1 #[(0,al)])) c fun am i=>
 keepX [(blk g)] c i (opK pG E (xBuiltin .append #[153,153] 153 [false,false] [aj,am]) i fun an j=>
 keepX [] i j (qP pG (xNil x0) fun ao=>
 qP pG (fA 155 ao 0) fun ap=>
 oP E (sA 153 ap an) j fun _ q=>
 keepX [] j q (j1 [] q))))
 (j1 [] o))
def d2X:Hint:=(sQ (hU [] (sQ (hB (sQ (hC (.reg [(0,1024,1),(0,2048,1),(2,4096,2048),(4,8192,4096),(8,16384,8192),(0,32768,8),(32,65536,32768),(64,131072,65536),(128,262144,131072),(272,524288,278528),(1023,1048576,1024),(2047,2097152,1048576),(3071,0,2621440)] [80,80,80,80,64,80,16,80,16,0,80,80,0] (.early 0 (.early 1 (.early 2 (.early 3 (.early 5 (.load 4 (.load 6 (.early 7 (.step 8 (.step 9 (.early 10 (.early 11 (.step 12 .done)))))))))))))) (sQ (hC (.reg [(0,16777216,1),(0,33554432,1),(2,67108864,33554432),(4,134217728,67108864),(8,268435456,134217728),(0,536870912,8),(32,1073741824,536870912),(64,2147483648,1073741824),(128,4294967296,2147483648),(272,8589934592,4563402752),(1023,17179869184,16777216),(2047,34359738368,17179869184),(3071,0,42949672960)] [80,80,80,80,64,80,16,80,16,0,80,80,0] (.early 0 (.early 1 (.early 2 (.early 3 (.early 5 (.load 4 (.load 6 (.early 7 (.step 8 (.step 9 (.early 10 (.early 11 (.step 12 .done)))))))))))))) hN)))))) (sQ (hB (hL [39] (sQ (hS (hC hN hN) (hS (hB (sQ hN)) hN))))))))
theorem c7z{x0 x1:Value}(h:d0H x0 x1 w R E):Cv pG 109 #[x0,x1] w R E:=okF (h:=d2X) Tryz.func109 (by kernel_rfl) (by kernel_rfl) h
def d0I(x0 w)(R:RT)(E):=
 opK pG E (xV (Instr.build 187 #[(5,(vI 3)),(6,(vI 4)),(7,(vI 5)),(8,(vI 6)),(9,(vI 7)),(10,(vI 8)),(3,(vI 9)),(4,(vI 10))])) w fun a b=>
 oP E (xV (Instr.index 187 a x0)) b fun c d=>
 R c d
def d2Y:Hint:=(sQ (sQ hN))
theorem c7A{x0:Value}(h:d0I x0 w R E):Cv pG 110 #[x0] w R E:=okF (h:=d2Y) Tryz.func110 (by kernel_rfl) (by kernel_rfl) h
def d0J(x0 x1 w)(R:RT)(E):=
 opK pG E (xNil x0) w fun a b=>
 oP E (fA 68 a 0) b fun c d=>
 oP E (fA 30 c 1) d fun e f=>
 oP E (lA 3 e) f fun g i=>
 oP E (bC .add 3 11 x1 (vI 1)) i fun j k=>
 oP E (xBuiltin .max #[3,3] 3 [false,false] [g,j]) k fun l m=>
 oP E (xNil x0) m fun n o=>
 oP E (fA 68 n 0) o fun p q=>
 oP E (fA 30 p 1) q fun r s=>
 oP E (sA 3 r l) s fun _ t=>
 oP E (xNil x0) t fun u v=>
 oP E (fA 68 u 0) v fun y z=>
 oP E (fA 30 y 0) z fun aa ab=>
 oP E (lA 27 aa) ab fun ac ad=>
 oP E (xBuiltin .len #[27] 3 [false] [ac]) ad fun ae af=>
 oP E (bN .add 3 22 23 ae x1) af fun ag ah=>
 R ag ah
def d2Z:Hint:=(sQ (sQ (sQ hN)))
theorem c7B{x0 x1:Value}(h:d0J x0 x1 w R E):Cv pG 111 #[x0,x1] w R E:=okF (h:=d2Z) Tryz.func111 (by kernel_rfl) (by kernel_rfl) h
def c1H(x0 x2 x4 x7 w)(next2:NT)(R:RT)(E):=
 opK pG E (fA 131 x4 3) w fun c d=>
 oP E (lA 58 c) d fun e f=>
 oP E (xBuiltin .len #[58] 3 [false] [e]) f fun g i=>
 oP E (bN .lss 3 35 38 x7 g) i fun a j=>
 oP E (gYs a (xNil (zT a x0))) j fun k l=>
 oP E (gYs a (fA 133 k 2)) l fun m n=>
 oP E (gYs a (lA 3 m)) n fun o p=>
 oP E (gYs a (bC .eql 3 44 o (vI 0))) p fun q r=>
 oP E (xPick a q (vB false)) r fun s b=>
 xcond s
 (oP E (fA 131 x4 3) b fun t u=>
 oP E (lA 58 t) u fun v y=>
 oP E (iA 58 v x7) y fun z aa=>
 oP E (lA 131 z) aa fun ab ac=>
 oP E (bC .add 3 55 x2 (vI 1)) ac fun ad ae=>
 oP E (xCall (fC 112) [x0,ab,ad]) ae fun _t57_35 af=>
 oP E (bC .add 3 47 x7 (vI 1)) af fun ag ah=>
 next2 [ag] ah)
 (R (Value.tuple #[]) b)
def b7f(x0 x2 x4 w)(R:RT)(E):=
 ∀_τ:Fr,(xloop [7] [(vI 0)] w fun a b next2=>
 c1H x0 x2 x4 (a 7) b next2 R E)
def c1I(x0 x2 x4 x6 w)(next3:NT)(j1:NT)(_R:RT)(E):=
 opK pG E (fA 131 x4 2) w fun c d=>
 oP E (lA 57 c) d fun e f=>
 oP E (xBuiltin .len #[57] 3 [false] [e]) f fun g i=>
 oP E (bN .lss 3 12 15 x6 g) i fun a j=>
 oP E (gYs a (xNil (zT a x0))) j fun k l=>
 oP E (gYs a (fA 133 k 2)) l fun m n=>
 oP E (gYs a (lA 3 m)) n fun o p=>
 oP E (gYs a (bC .eql 3 21 o (vI 0))) p fun q r=>
 oP E (xPick a q (vB false)) r fun s b=>
 xcond s
 (oP E (fA 131 x4 2) b fun t u=>
 oP E (lA 57 t) u fun v y=>
 oP E (iA 57 v x6) y fun z aa=>
 oP E (lA 123 z) aa fun ab ac=>
 oP E (bC .add 3 32 x2 (vI 1)) ac fun ad ae=>
 oP E (xCall (fC 113) [x0,ab,ad]) ae fun _t34_71 af=>
 oP E (bC .add 3 24 x6 (vI 1)) af fun ag ah=>
 next3 [ag] ah)
 (j1 [] b)
def d0K(x0 x1 x2 w)(R:RT)(E):=
 opK pG E (xV (Instr.box 131 x1)) w fun a c=>
 oP E (xCall (fC 100) [x0,x2]) c fun d e=>
 oP E (xV (Op.unary .not d)) e fun f b=>
 xcond f
 (R (Value.tuple #[]) b)
 (xcut (fun _ g=>b7f x0 x2 a g R E) fun j1=>
 xloop [6] [(vI 0)] b fun i j next3=>
 c1I x0 x2 a (i 6) j next3 j1 R E)
def d3a:Hint:=(sQ (hS (sQ (hC hN hN)) (hU [] (sQ (hB (hL [6] (hS (sQ (hC hN hN)) (hS (hB hN) hN))))) (sQ (hB (hL [7] (hS (sQ (hC hN hN)) (hS (hB hN) hN))))))))
theorem c7C{x0 x1 x2:Value}(h:d0K x0 x1 x2 w R E):Cv pG 112 #[x0,x1,x2] w R E:=okF (h:=d3a) Tryz.func112 (by kernel_rfl) (by kernel_rfl) h
def c1J(x0 x2 x4 x6 w)(next1:NT)(R:RT)(E):=
 opK pG E (fA 123 x4 3) w fun c d=>
 oP E (lA 57 c) d fun e f=>
 oP E (xBuiltin .len #[57] 3 [false] [e]) f fun g i=>
 oP E (bN .lss 3 11 14 x6 g) i fun a j=>
 oP E (gYs a (xNil (zT a x0))) j fun k l=>
 oP E (gYs a (fA 133 k 2)) l fun m n=>
 oP E (gYs a (lA 3 m)) n fun o p=>
 oP E (gYs a (bC .eql 3 20 o (vI 0))) p fun q r=>
 oP E (xPick a q (vB false)) r fun s b=>
 xcond s
 (oP E (fA 123 x4 3) b fun t u=>
 oP E (lA 57 t) u fun v y=>
 oP E (iA 57 v x6) y fun z aa=>
 oP E (lA 123 z) aa fun ab ac=>
 oP E (bC .add 3 31 x2 (vI 1)) ac fun ad ae=>
 oP E (xCall (fC 113) [x0,ab,ad]) ae fun _t33_35 af=>
 oP E (bC .add 3 23 x6 (vI 1)) af fun ag ah=>
 next1 [ag] ah)
 (R (Value.tuple #[]) b)
def d0L(x0 x1 x2 w)(R:RT)(E):=
 opK pG E (xV (Instr.box 123 x1)) w fun b c=>
 oP E (xCall (fC 100) [x0,x2]) c fun d e=>
 oP E (xV (Op.unary .not d)) e fun f a=>
 xcond f
 (R (Value.tuple #[]) a)
 (xloop [6] [(vI 0)] a fun g i next1=>
 c1J x0 x2 b (g 6) i next1 R E)
def d3b:Hint:=(sQ (hS (sQ (hC hN hN)) (sQ (hB (hL [6] (hS (sQ (hC hN hN)) (hS (hB hN) hN)))))))
theorem c7D{x0 x1 x2:Value}(h:d0L x0 x1 x2 w R E):Cv pG 113 #[x0,x1,x2] w R E:=okF (h:=d3b) Tryz.func113 (by kernel_rfl) (by kernel_rfl) h
def b7g(x4 w)(R:RT)(_E:Pan):=
 ∀_τ:Fr,(xcond x4
 (R (vB true) w)
 (R (vB false) w))
def d0M(x0 w)(R:RT)(E):=
 xcut (fun v y=>b7g (nth v 0) y R E) fun j1=>
 oP E (bC .eql 9 3 x0 (Value.string ⟨#[118,97,114]⟩)) w fun a b=>
 xcond a
 (j1 [a] b)
 (oP E (bC .eql 9 3 x0 (Value.string ⟨#[97,114,114,97,121]⟩)) b fun c d=>
 xcond c
 (j1 [c] d)
 (oP E (bC .eql 9 3 x0 (Value.string ⟨#[105,102]⟩)) d fun e f=>
 xcond e
 (j1 [e] f)
 (oP E (bC .eql 9 3 x0 (Value.string ⟨#[101,108,115,101]⟩)) f fun g i=>
 xcond g
 (j1 [g] i)
 (oP E (bC .eql 9 3 x0 (Value.string ⟨#[119,104,105,108,101]⟩)) i fun j k=>
 xcond j
 (j1 [j] k)
 (oP E (bC .eql 9 3 x0 (Value.string ⟨#[97,115,115,101,114,116]⟩)) k fun l m=>
 xcond l
 (j1 [l] m)
 (oP E (bC .eql 9 3 x0 (Value.string ⟨#[97,115,115,117,109,101]⟩)) m fun n o=>
 xcond n
 (j1 [n] o)
 (oP E (bC .eql 9 3 x0 (Value.string ⟨#[115,107,105,112]⟩)) o fun p q=>
 xcond p
 (j1 [p] q)
 (oP E (bC .eql 9 3 x0 (Value.string ⟨#[105,110,112,117,116]⟩)) q fun r s=>
 xcond r
 (j1 [r] s)
 (oP E (bC .eql 9 3 x0 (Value.string ⟨#[116,114,117,101]⟩)) s fun t u=>
 xcond t
 (j1 [t] u)
 (oP E (bC .eql 9 3 x0 (Value.string ⟨#[102,97,108,115,101]⟩)) u fun z aa=>
 j1 [z] aa))))))))))
def d3c:Hint:=(sQ (hS (sQ (hB (hU [4] (sQ (hC hN (sQ (hC hN (sQ (hC hN (sQ (hC hN (sQ (hC hN (sQ (hC hN (sQ (hC hN (sQ (hC hN (sQ (hC hN (sQ (hC hN hN)))))))))))))))))))) (hC (sQ hN) hN)))) (sQ hN)))
theorem c7E{x0:Value}(h:d0M x0 w R E):Cv pG 114 #[x0] w R E:=okF (h:=d3c) Tryz.func114 (by kernel_rfl) (by kernel_rfl) h
def b7h(x8 x9 x10 w)(R:RT)(E):=
 ∀_τ:Fr,(oP E (bN .lss 3 84 85 x10 x9) w fun b e=>
 oP E (gNo b (bC .gtr 3 88 (zF b x10) (vI 1114111))) e fun f g=>
 oP E (xPick b (vB true) f) g fun a i=>
 oP E (gNo a (bC .geq 3 92 (zF a x10) (vI 55296))) i fun c j=>
 oP E (gsem (asB (zF a c)) true (xBin .lss 3 (.tmp 95) (.const (vI 57344)) (gval (asB (zF a c)) true x10) (vI 57344))) j fun k l=>
 oP E (gNo a (xPick (zF a c) k (vB false))) l fun m n=>
 oP E (xPick a (vB true) m) n fun o d=>
 xcond o
 (R (Value.tuple #[(vI 65533),(vI 1),(vB false)]) d)
 (R (Value.tuple #[x10,x8,(vB true)]) d))
def c1K(x0 x1 x8 _x9 x10 x11:Value)(w)(next3:NT)(j2:NT)(R:RT)(E):=
 opK pG E (bN .lss 3 47 48 x11 x8) w fun e c=>
 xcond e
 (oP E (bN .add 3 52 53 x1 x11) c fun f g=>
 oP E (xBuiltin .len #[9] 3 [false] [x0]) g fun i j=>
 oP E (bN .geq 3 54 56 f i) j fun a k=>
 oP E (gNo a (bN .add 3 60 61 (zF a x1) (zF a x11))) k fun l m=>
 oP E (gNo a (xV (Instr.index 9 (zF a x0) l))) m fun n o=>
 oP E (gNo a (bC .lss 5 63 n (Value.int .u8 128))) o fun p q=>
 oP E (xPick a (vB true) p) q fun b r=>
 oP E (gNo b (bN .add 3 68 69 (zF b x1) (zF b x11))) r fun s t=>
 oP E (gNo b (xV (Instr.index 9 (zF b x0) s))) t fun u v=>
 oP E (gNo b (bC .geq 5 71 u (Value.int .u8 192))) v fun y z=>
 oP E (xPick b (vB true) y) z fun aa d=>
 xcond aa
 (R (Value.tuple #[(vI 65533),(vI 1),(vB false)]) d)
 (oP E (xBin .mul 3 (.const (vI 64)) (.tmp 74) (vI 64) x10) d fun ab ac=>
 oP E (bN .add 3 77 78 x1 x11) ac fun ad ae=>
 oP E (xV (Instr.index 9 x0 ad)) ae fun af ag=>
 oP E (xV (convert 5 3 af)) ag fun ah ai=>
 oP E (bN .add 3 75 81 ab ah) ai fun aj ak=>
 oP E (bC .sub 3 82 aj (vI 128)) ak fun al am=>
 oP E (bC .add 3 50 x11 (vI 1)) am fun an ao=>
 next3 [al,an] ao))
 (j2 [x10] c)
def b7i(x0 x1 x8 x9 x10 w)(R:RT)(E):=
 ∀_τ:Fr,(xcut (fun b c=>b7h x8 x9 (nth b 0) c R E) fun j2=>
 xloop [10,11] [x10,(vI 1)] w fun a d next3=>
 c1K x0 x1 x8 x9 (a 10) (a 11) d next3 j2 R E)
def d0N(x0 x1 w)(R:RT)(E):=
 opK pG E (xV (Instr.index 9 x0 x1)) w fun k l=>
 oP E (xV (convert 5 3 k)) l fun a m=>
 xcut (fun b n=>b7i x0 x1 (nth b 0) (nth b.tail 0) (nth b.tail.tail 0) n R E) fun j1=>
 oP E (bC .lss 3 17 a (vI 128)) m fun o f=>
 xcond o
 (R (Value.tuple #[a,(vI 1),(vB true)]) f)
 (oP E (bC .geq 3 21 a (vI 194)) f fun c p=>
 oP E (gYs c (bC .lss 3 24 (zT c a) (vI 224))) p fun q r=>
 oP E (xPick c q (vB false)) r fun s g=>
 xcond s
 (oP E (bC .sub 3 27 a (vI 192)) g fun t u=>
 j1 [(vI 2),(vI 128),t] u)
 (oP E (bC .geq 3 30 a (vI 224)) g fun d v=>
 oP E (gYs d (bC .lss 3 33 (zT d a) (vI 240))) v fun y z=>
 oP E (xPick d y (vB false)) z fun aa i=>
 xcond aa
 (oP E (bC .sub 3 36 a (vI 224)) i fun ab ac=>
 j1 [(vI 3),(vI 2048),ab] ac)
 (oP E (bC .geq 3 39 a (vI 240)) i fun e ad=>
 oP E (gYs e (bC .lss 3 42 (zT e a) (vI 245))) ad fun ae af=>
 oP E (xPick e ae (vB false)) af fun ag j=>
 xcond ag
 (oP E (bC .sub 3 45 a (vI 240)) j fun ah ai=>
 j1 [(vI 4),(vI 65536),ah] ai)
 (R (Value.tuple #[(vI 65533),(vI 1),(vB false)]) j))))
def d3d:Hint:=(sQ (sQ (sQ (hU [8,9,10] (hB (sQ (hC (sQ hN) (sQ (hC hN (sQ (hC hN (sQ (hC hN (sQ hN)))))))))) (hU [10] (sQ (hB (hL [10,11] (hS (sQ (hC hN hN)) (hS (hB (hS (sQ (hC (sQ hN) hN)) hN)) hN))))) (hS (sQ (hC (sQ hN) hN)) (sQ hN)))))))
theorem c7F{x0 x1:Value}(h:d0N x0 x1 w R E):Cv pG 115 #[x0,x1] w R E:=okF (h:=d3d) Tryz.func115 (by kernel_rfl) (by kernel_rfl) h
def b7j(w)(R:RT)(_E:Pan):=
 ∀_τ:Fr,(R (vI 6) w)
def c1L(x0 x3 x4 w)(next2:NT)(j1:NT)(R:RT)(E):=
 opK pG E (xBuiltin .len #[9] 3 [false] [x3]) w fun c d=>
 oP E (bN .lss 3 53 55 x4 c) d fun e a=>
 xcond e
 (oP E (xV (Instr.index 9 x3 x4)) a fun f g=>
 oP E (xV (convert 5 3 f)) g fun i j=>
 oP E (bN .eql 3 59 63 x0 i) j fun k b=>
 xcond k
 (R (vI 5) b)
 (oP E (bC .add 3 57 x4 (vI 1)) b fun l m=>
 next2 [l] m))
 (j1 [] a)
def d0O(x0 w)(R:RT)(E):=
 opK pG E (bC .eql 3 5 x0 (vI 32)) w fun c p=>
 oP E (gNo c (bC .eql 3 8 (zF c x0) (vI 9))) p fun q r=>
 oP E (xPick c (vB true) q) r fun d s=>
 oP E (gNo d (bC .eql 3 12 (zF d x0) (vI 13))) s fun t u=>
 oP E (xPick d (vB true) t) u fun v l=>
 xcond v
 (R (vI 1) l)
 (oP E (bC .eql 3 15 x0 (vI 10)) l fun y m=>
 xcond y
 (R (vI 2) m)
 (oP E (xCall (fC 123) [x0,(vI 48),(vI 57)]) m fun z n=>
 xcond z
 (R (vI 4) n)
 (oP E (xCall (fC 123) [x0,(vI 97),(vI 122)]) n fun e aa=>
 oP E (gNo e (xCall (fC 123) [(zF e x0),(vI 65),(vI 90)])) aa fun ab ac=>
 oP E (xPick e (vB true) ab) ac fun f ad=>
 oP E (gNo f (bC .eql 3 26 (zF f x0) (vI 95))) ad fun ae af=>
 oP E (xPick f (vB true) ae) af fun a ag=>
 oP E (gNo a (xCall (fC 123) [(zF a x0),(vI 192),(vI 591)])) ag fun g ah=>
 oP E (gsem (asB (zF a g)) true (xBin .neq 3 (.tmp 33) (.const (vI 215)) (gval (asB (zF a g)) true x0) (vI 215))) ah fun ai aj=>
 oP E (gNo a (xPick (zF a g) ai (vB false))) aj fun i ak=>
 oP E (gsem (asB (zF a i)) true (xBin .neq 3 (.tmp 37) (.const (vI 247)) (gval (asB (zF a i)) true x0) (vI 247))) ak fun al am=>
 oP E (gNo a (xPick (zF a i) al (vB false))) am fun an ao=>
 oP E (xPick a (vB true) an) ao fun b ap=>
 oP E (gNo b (xCall (fC 123) [(zF b x0),(vI 913),(vI 969)])) ap fun j aq=>
 oP E (gsem (asB (zF b j)) true (xBin .neq 3 (.tmp 45) (.const (vI 930)) (gval (asB (zF b j)) true x0) (vI 930))) aq fun ar au=>
 oP E (gNo b (xPick (zF b j) ar (vB false))) au fun av aw=>
 oP E (xPick b (vB true) av) aw fun k ax=>
 oP E (gNo k (xCall (fC 123) [(zF k x0),(vI 1040),(vI 1103)])) ax fun ay az=>
 oP E (xPick k (vB true) ay) az fun ba o=>
 xcond ba
 (R (vI 3) o)
 (xcut (fun _ bb=>b7j bb R E) fun j1=>
 xloop [4] [(vI 0)] o fun bc bd next2=>
 c1L x0 (Value.string ⟨#[59,44,123,125,40,41,91,93,61,33,60,62,43,45,42,47,37,38,124]⟩) (bc 4) bd next2 j1 R E))))
def d3e:Hint:=(sQ (hS (sQ (hC (sQ hN) hN)) (hS (sQ (hC (sQ hN) hN)) (hS (sQ (hC (sQ hN) hN)) (hS (sQ (hC (sQ hN) hN)) (sQ (hU [] (sQ (hB (hL [4] (hS (sQ (hC hN hN)) (hS (hB (sQ (hC (sQ hN) hN))) hN))))) (sQ hN))))))))
theorem c7G{x0:Value}(h:d0O x0 w R E):Cv pG 116 #[x0] w R E:=okF (h:=d3e) Tryz.func116 (by kernel_rfl) (by kernel_rfl) h
def b7k(x3 w)(R:RT)(E):=
 ∀_τ:Fr,(oP E (lA 170 x3) w fun a b=>
 R a b)
def d0P(x0 w)(R:RT)(E):=
 opK pG E (xV (Instr.build 169 #[])) w fun f g=>
 oP E (xV (Instr.box 169 f)) g fun i j=>
 oP E (xV (Instr.alloc 170 true (.tuple #[]))) j fun a k=>
 oP E (sA 170 a i) k fun _ l=>
 oP E (xV (Instr.alloc 189 true (.tuple #[]))) l fun b m=>
 oP E (xV (Instr.makeFunc (.func 124) #[] #[a,b])) m fun n o=>
 oP E (sA 189 b n) o fun _ p=>
 xcut (fun _ q=>b7k a q R E) fun j1=>
 oP E (lA 189 b) p fun r s=>
 oP E (xCall r [x0,(vI 1)]) s fun t u=>
 oP E (xV (Op.unary .not t)) u fun v c=>
 xcond v
 (j1 [] c)
 (oP E (lA 170 a) c fun y z=>
 oP E (xNil y) z fun aa ab=>
 oP E (fA 169 aa 3) ab fun ac ad=>
 oP E (lA 4 ac) ad fun ae d=>
 xcond ae
 (oP E (lA 170 a) d fun af ag=>
 oP E (xNil af) ag fun ah ai=>
 oP E (fA 169 ah 2) ai fun aj ak=>
 oP E (sA 31 aj (vI 30)) ak fun _ al=>
 j1 [] al)
 (oP E (lA 170 a) d fun am an=>
 oP E (xNil am) an fun ao ap=>
 oP E (fA 169 ao 4) ap fun aq ar=>
 oP E (lA 4 aq) ar fun au e=>
 xcond au
 (oP E (lA 170 a) e fun av aw=>
 oP E (xNil av) aw fun ax ay=>
 oP E (fA 169 ax 2) ay fun az ba=>
 oP E (sA 31 az (vI 31)) ba fun _ bb=>
 j1 [] bb)
 (j1 [] e)))
def d3f:Hint:=(sQ (sQ (sQ (sQ (hU [] (sQ (hB (sQ (hC hN (sQ (hC hN (sQ (hC hN hN)))))))) (sQ hN))))))
theorem c7H{x0:Value}(h:d0P x0 w R E):Cv pG 117 #[x0] w R E:=okF (h:=d3f) Tryz.func117 (by kernel_rfl) (by kernel_rfl) h
def b7l(x6 w)(R:RT)(_E:Pan):=
 ∀_τ:Fr,(R x6 w)
def c1M(x6 x25 x26 x27 w)(next3:NT)(j2:NT)(_R:RT)(E):=
 opK pG E (bN .lss 3 27 26 x27 x26) w fun b a=>
 xcond b
 (oP E (iA 192 x25 x27) a fun c d=>
 oP E (lA 179 c) d fun e f=>
 oP E (xBuiltin .append #[179,179] 179 [false,false] [x6,e]) f fun g i=>
 oP E (bC .add 3 27 x27 (vI 1)) i fun j k=>
 next3 [g,j] k)
 (j2 [x6] a)
def b7m(x0 x3 w)(R:RT)(E):=
 ∀_τ:Fr,(oP E (xCall (fC 126) [(nS),x3]) w fun b c=>
 xcut (fun d e=>b7l (nth d 0) e R E) fun j2=>
 oP E (xBuiltin .len #[192] 3 [false] [x0]) c fun f g=>
 xloop [6,27] [b,(vI 0)] g fun a i next3=>
 c1M (a 6) x0 f (a 27) i next3 j2 R E)
def b7n(_x0 x3 _x9 _x10 x11:Value)(w)(next4:NT)(_R:RT)(E):=
 ∀_τ:Fr,(oP E (bC .add 3 11 x11 (vI 1)) w fun a b=>
 next4 [x3,a] b)
def c1N(x0 x3 x9 x10 x11 w)(next4:NT)(j1:NT)(R:RT)(E):=
 opK pG E (bN .lss 3 11 10 x11 x10) w fun d b=>
 xcond d
 (xcut (fun e f=>b7n x0 (nth e 0) x9 x10 x11 f next4 R E) fun j5=>
 oP E (iA 192 x9 x11) b fun g i=>
 oP E (lA 179 g) i fun j k=>
 oP E (xBuiltin .len #[179] 3 [false] [j]) k fun l m=>
 oP E (bN .add 3 15 17 x3 l) m fun a n=>
 oP E (bC .lss 3 19 a (vI 0)) n fun o c=>
 xcond o
 (oP E (xV (Instr.makeInterface 9 (Value.string ⟨#[108,101,110,32,111,117,116,32,111,102,32,114,97,110,103,101]⟩))) c fun p q=>
 oP E (xV (Instr.panic p)) q fun _ r=>
 j5 [a] r)
 (j5 [a] c))
 (j1 [x3] b)
def d0Q(x0 w)(R:RT)(E):=
 xcut (fun b c=>b7m x0 (nth b 0) c R E) fun j1=>
 oP E (xBuiltin .len #[192] 3 [false] [x0]) w fun d e=>
 xloop [3,11] [(vI 0),(vI 0)] e fun a f next4=>
 c1N x0 (a 3) x0 d (a 11) f next4 j1 R E
def d3g:Hint:=(sQ (sQ (hU [3] (sQ (hB (hL [3,11] (sQ (hS (hC hN hN) (hU [3] (hB (sQ (sQ (sQ (hC hN hN))))) hN)))))) (sQ (hU [6] (sQ (hB (hL [6,27] (sQ (hS (hC hN hN) (hS (hB (sQ hN)) hN)))))) (sQ hN))))))
theorem c7I{x0:Value}(h:d0Q x0 w R E):Cv pG 118 #[x0] w R E:=okF (h:=d3g) Tryz.func118 (by kernel_rfl) (by kernel_rfl) h
def b7o(x5 w)(R:RT)(_E:Pan):=
 ∀_τ:Fr,(R x5 w)
def c1O(x1 x5 x8 x9 x10 w)(next2:NT)(j1:NT)(_R:RT)(E):=
 opK pG E (bN .lss 3 10 9 x10 x9) w fun c a=>
 xcond c
 (oP E (iA 22 x8 x10) a fun d e=>
 oP E (lA 70 d) e fun f g=>
 oP E (xV (Instr.alloc 70 true (.tuple #[]))) g fun b i=>
 oP E (sA 70 b f) i fun _ j=>
 oP E (lA 70 b) j fun k l=>
 oP E (xCall x1 [k]) l fun m n=>
 oP E (xV (Instr.buildSlice 179 1 #[(0,m)])) n fun o p=>
 oP E (xBuiltin .append #[179,179] 179 [false,false] [x5,o]) p fun q r=>
 oP E (bC .add 3 10 x10 (vI 1)) r fun s t=>
 next2 [q,s] t)
 (j1 [x5] a)
def d0R(x0 x1 w)(R:RT)(E):=
 xcut (fun b c=>b7o (nth b 0) c R E) fun j1=>
 oP E (xBuiltin .len #[22] 3 [false] [x0]) w fun d e=>
 xloop [5,10] [(nS),(vI 0)] e fun a f next2=>
 c1O x1 (a 5) x0 d (a 10) f next2 j1 R E
def d3h:Hint:=(sQ (sQ (hU [5] (sQ (hB (hL [5,10] (sQ (hS (hC hN hN) (hS (hB (sQ hN)) hN)))))) (sQ hN))))
theorem c7J{x0 x1:Value}(h:d0R x0 x1 w R E):Cv pG 119 #[x0,x1] w R E:=okF (h:=d3h) Tryz.func119 (by kernel_rfl) (by kernel_rfl) h
def d0S(x0 w)(R:RT)(E):=
 opK pG E (xV (Instr.box 70 x0)) w fun a b=>
 oP E (lA 70 a) b fun c d=>
 oP E (xV (Instr.build 195 #[(0,c)])) d fun e f=>
 oP E (xV (Instr.makeInterface 195 e)) f fun g i=>
 R g i
def d3i:Hint:=(sQ (sQ hN))
theorem c7K{x0:Value}(h:d0S x0 w R E):Cv pG 120 #[x0] w R E:=okF (h:=d3i) Tryz.func120 (by kernel_rfl) (by kernel_rfl) h
def b7p(x5 w)(R:RT)(_E:Pan):=
 ∀_τ:Fr,(R x5 w)
def c1P(x1 x5 x8 x9 x10 w)(next2:NT)(j1:NT)(_R:RT)(E):=
 opK pG E (bN .lss 3 10 9 x10 x9) w fun c a=>
 xcond c
 (oP E (iA 23 x8 x10) a fun d e=>
 oP E (lA 60 d) e fun f g=>
 oP E (xV (Instr.alloc 60 true (.tuple #[]))) g fun b i=>
 oP E (sA 60 b f) i fun _ j=>
 oP E (lA 60 b) j fun k l=>
 oP E (xCall x1 [k]) l fun m n=>
 oP E (xV (Instr.buildSlice 179 1 #[(0,m)])) n fun o p=>
 oP E (xBuiltin .append #[179,179] 179 [false,false] [x5,o]) p fun q r=>
 oP E (bC .add 3 10 x10 (vI 1)) r fun s t=>
 next2 [q,s] t)
 (j1 [x5] a)
def d0T(x0 x1 w)(R:RT)(E):=
 xcut (fun b c=>b7p (nth b 0) c R E) fun j1=>
 oP E (xBuiltin .len #[23] 3 [false] [x0]) w fun d e=>
 xloop [5,10] [(nS),(vI 0)] e fun a f next2=>
 c1P x1 (a 5) x0 d (a 10) f next2 j1 R E
def d3j:Hint:=(sQ (sQ (hU [5] (sQ (hB (hL [5,10] (sQ (hS (hC hN hN) (hS (hB (sQ hN)) hN)))))) (sQ hN))))
theorem c7L{x0 x1:Value}(h:d0T x0 x1 w R E):Cv pG 121 #[x0,x1] w R E:=okF (h:=d3j) Tryz.func121 (by kernel_rfl) (by kernel_rfl) h
def d0U(x0 w)(R:RT)(E):=
 opK pG E (xV (Instr.box 60 x0)) w fun a b=>
 oP E (lA 60 a) b fun c d=>
 oP E (xV (Instr.build 197 #[(0,c)])) d fun e f=>
 oP E (xV (Instr.makeInterface 197 e)) f fun g i=>
 R g i
def d3k:Hint:=(sQ (sQ hN))
theorem c7M{x0:Value}(h:d0U x0 w R E):Cv pG 122 #[x0] w R E:=okF (h:=d3k) Tryz.func122 (by kernel_rfl) (by kernel_rfl) h
def d0V(x0 x1 x2 w)(R:RT)(E):=
 opK pG E (bN .geq 3 7 8 x0 x1) w fun a b=>
 oP E (gYs a (bN .leq 3 11 12 (zT a x0) (zT a x2))) b fun c d=>
 oP E (xPick a c (vB false)) d fun e f=>
 R e f
def d3l:Hint:=(sQ (sQ hN))
theorem c7N{x0 x1 x2:Value}(h:d0V x0 x1 x2 w R E):Cv pG 123 #[x0,x1,x2] w R E:=okF (h:=d3l) Tryz.func123 (by kernel_rfl) (by kernel_rfl) h
def b7q(w)(R:RT)(_E:Pan):=
 ∀_τ:Fr,(R (vB true) w)
def c1Q(x1 x2 x3 x9 x10 x11 w)(next2:NT)(j1:NT)(R:RT)(E):=
 opK pG E (bN .lss 3 11 10 x11 x10) w fun i f=>
 xcond i
 (oP E (iA 179 x9 x11) f fun j k=>
 oP E (lA 182 j) k fun g l=>
 dX l fun c=>
 qL pG c (blk x2) (lA 170 x2) fun m=>
 oP E (xCall (fC 125) [m,g,x1]) c fun n b=>
 keepX [] c b (qP pG (xV (Op.unary .not n)) fun a=>
 qP pG (gNo a (bC .add 3 24 (zF a x1) (vI 1))) fun o=>
 qL pG b (blk x3) (gNo a (lA 189 x3)) fun p=>
 oP E (gNo a (xInvoke (zF a g) "gnomon/tree.parts" [])) b fun q d =>
 keepX [(blk x3)] b d (opK pG E (gNo a (xCall p [q,o])) d fun r e=>
 keepX [] d e (qP pG (gNo a (xV (Op.unary .not r))) fun s=>
 qP pG (xPick a (vB true) s) fun t=>
 xcond t
 (R (vB false) e)
 (oP E (bC .add 3 11 x11 (vI 1)) e fun u v=>
 next2 [u] v)))))
 (j1 [] f)
def d0W(x0 x1 x2 x3 w)(R:RT)(E):=
 xcut (fun _ a=>b7q a R E) fun j1=>
 oP E (xBuiltin .len #[179] 3 [false] [x0]) w fun b c=>
 xloop [11] [(vI 0)] c fun d e next2=>
 c1Q x1 x2 x3 x0 b (d 11) e next2 j1 R E
def d3m:Hint:=(sQ (hU [] (sQ (hB (hL [11] (sQ (hS (hC hN hN) (hS (hB (sQ (hS (.reg [(0,32768,4),(0,65536,256),(0,131072,2),(7,262144,229376),(8,524288,262144),(24,1048576,524288),(32,2097152,1048584),(32,4194304,1048832),(160,8388608,5242880),(32,16777216,1048578),(544,33554432,17825792),(1376,67108864,45088768),(2080,134217728,68157440),(4128,268435456,135266304)] [64,65,65,0,65,65,1,65,64,65,65,0,65,65] (.early 1 (.early 2 (.load 0 (.step 3 (.early 4 (.early 5 (.early 7 (.early 9 (.early 10 (.load 6 (.step 8 (.step 11 (.early 12 (.early 13 .done))))))))))))))) (hC (sQ hN) hN)))) hN)))))) (sQ hN)))
theorem c7O{x0 x1 x2 x3:Value}(h:d0W x0 x1 x2 x3 w R E):Cv pG 124 #[x0,x1,x2,x3] w R E:=okF (h:=d3m) Tryz.func124 (by kernel_rfl) (by kernel_rfl) h
def b7r(w)(R:RT)(_E:Pan):=
 ∀_τ:Fr,(R (vB true) w)
def d0X(x0 x1 x2 w)(R:RT)(E):=
 opK pG E (xNil x0) w fun j k=>
 oP E (fA 169 j 0) k fun l m=>
 oP E (lA 3 l) m fun n o=>
 oP E (bC .add 3 12 n (vI 1)) o fun p q=>
 oP E (xNil x0) q fun r s=>
 oP E (fA 169 r 0) s fun t u=>
 oP E (sA 3 t p) u fun _ v=>
 oP E (xNil x0) v fun y z=>
 oP E (fA 169 y 0) z fun aa ab=>
 oP E (lA 3 aa) ab fun ac ad=>
 oP E (bC .gtr 3 19 ac (vI 4096)) ad fun ae d=>
 xcond ae
 (oP E (xNil x0) d fun af ag=>
 oP E (fA 169 af 2) ag fun ah ai=>
 oP E (sA 31 ah (vI 33)) ai fun _ aj=>
 R (vB false) aj)
 (oP E (bC .gtr 3 24 x2 (vI 64)) d fun ak e=>
 xcond ak
 (oP E (xNil x0) e fun al am=>
 oP E (fA 169 al 2) am fun an ao=>
 oP E (sA 31 an (vI 32)) ao fun _ ap=>
 R (vB false) ap)
 (oP E (xNil x0) e fun aq ar=>
 oP E (fA 169 aq 1) ar fun au av=>
 oP E (lA 3 au) av fun aw ax=>
 oP E (xBuiltin .max #[3,3] 3 [false,false] [aw,x2]) ax fun ay az=>
 oP E (xNil x0) az fun ba bb=>
 oP E (fA 169 ba 1) bb fun bc bd=>
 oP E (sA 3 bc ay) bd fun _ be=>
 oP E (xNil x0) be fun bf bg=>
 oP E (fA 169 bf 3) bg fun bh bi=>
 oP E (lA 4 bh) bi fun a bj=>
 oP E (gNo a (xInvoke (zF a x1) "gnomon/tree.form" [])) bj fun bk bl =>
 oP E (gNo a (xV (Op.unary .not bk))) bl fun bm bn=>
 oP E (xPick a (vB true) bm) bn fun bo bp=>
 oP E (xNil x0) bp fun bq br=>
 oP E (fA 169 bq 3) br fun bs bt=>
 oP E (sA 4 bs bo) bt fun _ bu=>
 xcut (fun _ bv=>b7r bv R E) fun j1=>
 oP E (xCall (fC 127) [x1]) bu fun f bw=>
 oP E (xT f 0) bw fun c bz=>
 oP E (xT f 1) bz fun ca g=>
 xcond ca
 (oP E (xNil x0) g fun cb cc=>
 oP E (fA 169 cb 4) cc fun cd ce=>
 oP E (lA 4 cd) ce fun b cf=>
 oP E (gNo b (xCall (fC 128) [(zF b c)])) cf fun cg ch=>
 oP E (gNo b (xV (Op.unary .not cg))) ch fun ci cj=>
 oP E (xPick b (vB true) ci) cj fun ck cl=>
 oP E (xNil x0) cl fun cm cn=>
 oP E (fA 169 cm 4) cn fun co cp=>
 oP E (sA 4 co ck) cp fun _ cq=>
 oP E (xNil x0) cq fun cr cs=>
 oP E (fA 169 cr 5) cs fun ct cu=>
 oP E (lA 27 ct) cu fun cv cw=>
 oP E (xCall (fC 129) [cv,c]) cw fun cx cy=>
 oP E (xV (Op.unary .not cx)) cy fun cz i=>
 xcond cz
 (oP E (xNil x0) i fun da db=>
 oP E (fA 169 da 5) db fun dc dd=>
 oP E (lA 27 dc) dd fun de df=>
 oP E (xV (Instr.buildSlice 27 1 #[(0,c)])) df fun dg dh=>
 oP E (xBuiltin .append #[27,27] 27 [false,false] [de,dg]) dh fun di dj=>
 oP E (xNil x0) dj fun dk dl=>
 oP E (fA 169 dk 5) dl fun dm dn=>
 oP E (sA 27 dm di) dn fun _ dp=>
 j1 [] dp)
 (j1 [] i))
 (j1 [] g)))
def d3n:Hint:=(sQ (hS (sQ (sQ (hC (sQ (sQ hN)) hN))) (hS (sQ (hC (sQ (sQ hN)) hN)) (sQ (sQ (hU [] (sQ (sQ (hC (sQ (sQ (hC hN hN))) hN))) (sQ hN)))))))
theorem c7P{x0 x1 x2:Value}(h:d0X x0 x1 x2 w R E):Cv pG 125 #[x0,x1,x2] w R E:=okF (h:=d3n) Tryz.func125 (by kernel_rfl) (by kernel_rfl) h
def b7s(x0 w)(R:RT)(_E:Pan):=
 ∀_τ:Fr,(R x0 w)
def c1R(x0 x1 w)(R:RT)(E):=
 ∀_τ:Fr,(xcut (fun c d=>b7s (nth c 0) d R E) fun j2=>
 oP E (xBuiltin .cap #[179] 3 [false] [x0]) w fun e f=>
 oP E (xBuiltin .len #[179] 3 [false] [x0]) f fun g i=>
 oP E (bN .sub 3 10 12 e g) i fun j k=>
 oP E (bN .sub 3 8 13 x1 j) k fun a l=>
 oP E (bC .gtr 3 15 a (vI 0)) l fun m b=>
 xcond m
 (oP E (xBuiltin .cap #[179] 3 [false] [x0]) b fun n o=>
 oP E (xV (Instr.sliceAt 179 x0 none (some n) none)) o fun p q=>
 oP E (xBuiltin .append #[179,3] 179 [false,false] [p,a]) q fun r s=>
 oP E (xBuiltin .len #[179] 3 [false] [x0]) s fun t u=>
 oP E (xV (Instr.sliceAt 179 r none (some t) none)) u fun v y=>
 j2 [v] y)
 (j2 [x0] b))
def d0Y(x0 x1 w)(R:RT)(E):=
 xcut (fun _ b=>c1R x0 x1 b R E) fun j1=>
 oP E (bC .lss 3 5 x1 (vI 0)) w fun c a=>
 xcond c
 (oP E (xV (Instr.makeInterface 9 (Value.string ⟨#[99,97,110,110,111,116,32,98,101,32,110,101,103,97,116,105,118,101]⟩))) a fun d e=>
 oP E (xV (Instr.panic d)) e fun _ f=>
 j1 [] f)
 (j1 [] a)
def d3o:Hint:=(sQ (hU [] (sQ (hC hN hN)) (hU [0] (sQ (sQ (hC hN hN))) (sQ hN))))
theorem c7Q{x0 x1:Value}(h:d0Y x0 x1 w R E):Cv pG 126 #[x0,x1] w R E:=okF (h:=d3o) Tryz.func126 (by kernel_rfl) (by kernel_rfl) h
def d0Z(x0 w)(R:RT)(E):=
 opK pG E (xV (Instr.typeAssert x0 182 195 true)) w fun g u=>
 oP E (xT g 1) u fun v y=>
 oP E (xT g 0) y fun z i=>
 xcond v
 (oP E (xV (Instr.alloc 195 true (.tuple #[]))) i fun j aa=>
 oP E (sA 195 j z) aa fun _ ab=>
 oP E (fA 195 j 0) ab fun ac ad=>
 oP E (fA 70 ac 0) ad fun ae af=>
 oP E (lA 9 ae) af fun ag ah=>
 R (Value.tuple #[ag,(vB true)]) ah)
 (oP E (xV (Instr.typeAssert x0 182 197 true)) i fun k ai=>
 oP E (xT k 1) ai fun aj ak=>
 oP E (xT k 0) ak fun al l=>
 xcond aj
 (oP E (xV (Instr.alloc 197 true (.tuple #[]))) l fun c am=>
 oP E (sA 197 c al) am fun _ an=>
 dX an fun d=>
 qP pG (fA 197 c 0) fun ao=>
 qP pG (fA 60 ao 1) fun m=>
 qP pG (fA 197 c 0) fun ap=>
 qP pG (fA 60 ap 0) fun n=>
 qL pG d (blk m) (lA 9 m) fun aq=>
 qL pG d (blk n) (lA 3 n) fun ar=>
 qP pG (bC .eql 3 22 ar (vI 1)) fun a=>
 qP pG (gNo a (fA 197 c 0)) fun au=>
 qP pG (gNo a (fA 60 au 0)) fun o=>
 qL pG d (blk o) (gNo a (lA 3 o)) fun av=>
 qP pG (gNo a (bC .eql 3 27 av (vI 2))) fun aw=>
 qP pG (xPick a (vB true) aw) fun ax=>
 R (Value.tuple #[aq,ax]) d)
 (oP E (xV (Instr.typeAssert x0 182 202 true)) l fun p ay=>
 oP E (xT p 1) ay fun az ba=>
 oP E (xT p 0) ba fun bb q=>
 xcond az
 (oP E (xV (Instr.alloc 202 true (.tuple #[]))) q fun e bc=>
 oP E (sA 202 e bb) bc fun _ bd=>
 dX bd fun f=>
 qP pG (fA 202 e 0) fun be=>
 qP pG (fA 123 be 2) fun r=>
 qP pG (fA 202 e 0) fun bf=>
 qP pG (fA 123 bf 0) fun s=>
 qL pG f (blk r) (lA 9 r) fun bg=>
 qL pG f (blk s) (lA 3 s) fun bh=>
 qP pG (bC .eql 3 38 bh (vI 2)) fun b=>
 qP pG (gNo b (fA 202 e 0)) fun bi=>
 qP pG (gNo b (fA 123 bi 0)) fun t=>
 qL pG f (blk t) (gNo b (lA 3 t)) fun bj=>
 qP pG (gNo b (bC .eql 3 43 bj (vI 4))) fun bk=>
 qP pG (xPick b (vB true) bk) fun bl=>
 R (Value.tuple #[bg,bl]) f)
 (R (Value.tuple #[(eS),(vB false)]) q)))
def d3p:Hint:=(sQ (hS (sQ (hB (sQ (hC (sQ (sQ hN)) (sQ (hC (sQ (hS (.reg [(0,131072,32),(1,262144,131072),(2,524288,262144),(0,1048576,32),(8,2097152,1048576),(16,4194304,2097152),(32,8388608,4194304),(64,16777216,8388608),(128,33554432,16777248),(384,67108864,50331648),(640,134217728,83886080),(1152,268435456,150994944),(2176,536870912,285212672),(135,4,524288),(16383,8,536870912)] [1060,1060,1056,1060,1060,1028,1060,1060,1060,1060,36,1060,1060,1060,1060] (.early 0 (.early 1 (.early 3 (.early 4 (.load 2 (.load 5 (.early 6 (.early 7 (.early 8 (.early 9 (.early 13 (.load 10 (.early 11 (.early 12 (.early 14 .done)))))))))))))))) hN)) (sQ (hC (sQ (hS (.reg [(0,8589934592,64),(1,17179869184,8589934592),(2,34359738368,17179869184),(0,68719476736,64),(8,137438953472,68719476736),(16,274877906944,137438953472),(32,549755813888,274877906944),(64,1099511627776,549755813888),(128,2199023255552,1099511627840),(384,4398046511104,3298534883328),(640,8796093022208,5497558138880),(1152,17592186044416,9895604649984),(2176,35184372088832,18691697672192),(135,4,34359738368),(16383,8,35184372088832)] [1060,1060,1056,1060,1060,1028,1060,1060,1060,1060,36,1060,1060,1060,1060] (.early 0 (.early 1 (.early 3 (.early 4 (.load 2 (.load 5 (.early 6 (.early 7 (.early 8 (.early 9 (.early 13 (.load 10 (.early 11 (.early 12 (.early 14 .done)))))))))))))))) hN)) hN)))))))) (sQ hN)))
theorem c7R{x0:Value}(h:d0Z x0 w R E):Cv pG 127 #[x0] w R E:=okF (h:=d3p) Tryz.func127 (by kernel_rfl) (by kernel_rfl) h
def b7t(w)(R:RT)(_E:Pan):=
 ∀_τ:Fr,(R (vB true) w)
def c1S(x21 w)(next2:NT)(j1:NT)(R:RT)(E):=
 opK pG E (xV (Instr.next x21 true 0)) w fun c g=>
 oP E (xT c 0) g fun i d=>
 xcond i
 (oP E (xT c 1) d fun j k=>
 oP E (xT c 2) k fun e l=>
 oP E (xCall (fC 133) [e]) l fun m n=>
 oP E (xV (Op.unary .not m)) n fun a o=>
 oP E (gNo a (bC .eql 3 30 (zF a j) (vI 0))) o fun b p=>
 oP E (gsem (asB (zF a b)) true (xCall (fC 134) [(gval (asB (zF a b)) true e)])) p fun q r=>
 oP E (gsem (asB (zF a b)) true (bC .neq 3 34 q (vI 3))) r fun s t=>
 oP E (gNo a (xPick (zF a b) s (vB false))) t fun u v=>
 oP E (xPick a (vB true) u) v fun y f=>
 xcond y
 (R (vB false) f)
 (next2 [] f))
 (j1 [] d)
def d1a(x0 w)(R:RT)(E):=
 opK pG E (bC .eql 9 5 x0 (eS)) w fun a e=>
 oP E (gNo a (xCall (fC 130) [(zF a x0)])) e fun f g=>
 oP E (gNo a (xV (Op.unary .not f))) g fun i j=>
 oP E (xPick a (vB true) i) j fun b k=>
 oP E (gNo b (xCall (fC 131) [(zF b x0)])) k fun l m=>
 oP E (xPick b (vB true) l) m fun c n=>
 oP E (gNo c (xCall (fC 132) [(zF c x0)])) n fun o p=>
 oP E (xPick c (vB true) o) p fun q d=>
 xcond q
 (R (vB false) d)
 (xcut (fun _ r=>b7t r R E) fun j1=>
 oP E (xV (Instr.range 9 x0)) d fun s t=>
 xloop [] [] t fun _ u next2=>
 c1S s u next2 j1 R E)
def d3q:Hint:=(sQ (hS (sQ (hC (sQ hN) hN)) (hU [] (sQ (hB (hL [] (sQ (hS (hC hN hN) (hB (sQ (sQ (hC (sQ hN) hN))))))))) (sQ hN))))
theorem c7S{x0:Value}(h:d1a x0 w R E):Cv pG 128 #[x0] w R E:=okF (h:=d3q) Tryz.func128 (by kernel_rfl) (by kernel_rfl) h
def d1b(x0 x1 w)(R:RT)(E):=
 opK pG E (xCall (fC 135) [x0,x1]) w fun a b=>
 oP E (bC .geq 3 7 a (vI 0)) b fun c d=>
 R c d
def d3r:Hint:=(sQ (sQ hN))
theorem c7T{x0 x1:Value}(h:d1b x0 x1 w R E):Cv pG 129 #[x0,x1] w R E:=okF (h:=d3r) Tryz.func129 (by kernel_rfl) (by kernel_rfl) h
def d1c(x0 w)(R:RT)(E):=
 opK pG E (xCall (fC 137) [x0]) w fun a b=>
 oP E (bC .gtr 3 4 a (vI 32)) b fun c d=>
 R c d
def d3s:Hint:=(sQ (sQ hN))
theorem c7U{x0:Value}(h:d1c x0 w R E):Cv pG 131 #[x0] w R E:=okF (h:=d3s) Tryz.func131 (by kernel_rfl) (by kernel_rfl) h
def b7u(x4 w)(R:RT)(_E:Pan):=
 ∀_τ:Fr,(xcond x4
 (R (vB true) w)
 (R (vB false) w))
def d1d(x0 w)(R:RT)(E):=
 xcut (fun v y=>b7u (nth v 0) y R E) fun j1=>
 oP E (bC .eql 9 3 x0 (Value.string ⟨#[118,97,114]⟩)) w fun a b=>
 xcond a
 (j1 [a] b)
 (oP E (bC .eql 9 3 x0 (Value.string ⟨#[97,114,114,97,121]⟩)) b fun c d=>
 xcond c
 (j1 [c] d)
 (oP E (bC .eql 9 3 x0 (Value.string ⟨#[105,102]⟩)) d fun e f=>
 xcond e
 (j1 [e] f)
 (oP E (bC .eql 9 3 x0 (Value.string ⟨#[101,108,115,101]⟩)) f fun g i=>
 xcond g
 (j1 [g] i)
 (oP E (bC .eql 9 3 x0 (Value.string ⟨#[119,104,105,108,101]⟩)) i fun j k=>
 xcond j
 (j1 [j] k)
 (oP E (bC .eql 9 3 x0 (Value.string ⟨#[97,115,115,101,114,116]⟩)) k fun l m=>
 xcond l
 (j1 [l] m)
 (oP E (bC .eql 9 3 x0 (Value.string ⟨#[97,115,115,117,109,101]⟩)) m fun n o=>
 xcond n
 (j1 [n] o)
 (oP E (bC .eql 9 3 x0 (Value.string ⟨#[115,107,105,112]⟩)) o fun p q=>
 xcond p
 (j1 [p] q)
 (oP E (bC .eql 9 3 x0 (Value.string ⟨#[105,110,112,117,116]⟩)) q fun r s=>
 xcond r
 (j1 [r] s)
 (oP E (bC .eql 9 3 x0 (Value.string ⟨#[116,114,117,101]⟩)) s fun t u=>
 xcond t
 (j1 [t] u)
 (oP E (bC .eql 9 3 x0 (Value.string ⟨#[102,97,108,115,101]⟩)) u fun z aa=>
 j1 [z] aa))))))))))
def d3t:Hint:=(sQ (hS (sQ (hB (hU [4] (sQ (hC hN (sQ (hC hN (sQ (hC hN (sQ (hC hN (sQ (hC hN (sQ (hC hN (sQ (hC hN (sQ (hC hN (sQ (hC hN (sQ (hC hN hN)))))))))))))))))))) (hC (sQ hN) hN)))) (sQ hN)))
theorem c7V{x0:Value}(h:d1d x0 w R E):Cv pG 132 #[x0] w R E:=okF (h:=d3t) Tryz.func132 (by kernel_rfl) (by kernel_rfl) h
def d1e(x0 w)(R:RT)(E):=
 opK pG E (xCall (fC 134) [x0]) w fun b c=>
 oP E (bC .eql 3 6 b (vI 3)) c fun a d=>
 oP E (gNo a (bC .eql 3 9 (zF a b) (vI 4))) d fun e f=>
 oP E (xPick a (vB true) e) f fun g i=>
 R g i
def d3u:Hint:=(sQ (sQ (sQ hN)))
theorem c7W{x0:Value}(h:d1e x0 w R E):Cv pG 133 #[x0] w R E:=okF (h:=d3u) Tryz.func133 (by kernel_rfl) (by kernel_rfl) h
def b7v(x39 w)(R:RT)(_E:Pan):=
 ∀_τ:Fr,(xcond x39
 (R (vI 3) w)
 (R (vI 6) w))
def b7w(x1 x31 w)(R:RT)(E):=
 ∀_τ:Fr,(xcond x31
 (R (vI 6) w)
 (oP E (xV (Instr.makeFunc (.func 138) #[] #[x1])) w fun a n=>
 oP E (xCall a [(Value.int .i32 48),(Value.int .i32 57)]) n fun o b=>
 xcond o
 (R (vI 4) b)
 (xcut (fun p q=>b7v (nth p 0) q R E) fun j4=>
 oP E (lA 21 x1) b fun r s=>
 oP E (bC .eql 21 40 r (Value.int .i32 95)) s fun c d=>
 xcond c
 (j4 [c] d)
 (oP E (xCall a [(Value.int .i32 97),(Value.int .i32 122)]) d fun e f=>
 xcond e
 (j4 [e] f)
 (oP E (xCall a [(Value.int .i32 65),(Value.int .i32 90)]) f fun g i=>
 xcond g
 (j4 [g] i)
 (oP E (xCall a [(Value.int .i32 192),(Value.int .i32 591)]) i fun j k=>
 xcond j
 (j4 [j] k)
 (oP E (xCall a [(Value.int .i32 913),(Value.int .i32 969)]) k fun l m=>
 xcond l
 (j4 [l] m)
 (oP E (xCall a [(Value.int .i32 1040),(Value.int .i32 1103)]) m fun t u=>
 j4 [t] u))))))))
def b7x(x1 x4 x11 w)(R:RT)(E):=
 ∀_τ:Fr,(xcond x11
 (R (vI 5) w)
 (xcut (fun e f=>b7w x1 (nth e 0) f R E) fun j3=>
 oP E (bC .eql 21 4 x4 (Value.int .i32 215)) w fun a b=>
 xcond a
 (j3 [a] b)
 (oP E (bC .eql 21 4 x4 (Value.int .i32 247)) b fun c d=>
 xcond c
 (j3 [c] d)
 (oP E (bC .eql 21 4 x4 (Value.int .i32 930)) d fun g i=>
 j3 [g] i))))
def b7y(x1 x4 x5 w)(R:RT)(E):=
 ∀_τ:Fr,(xcond x5
 (R (vI 1) w)
 (oP E (bC .eql 21 4 x4 (Value.int .i32 10)) w fun ao a=>
 xcond ao
 (R (vI 2) a)
 (xcut (fun ap aq=>b7x x1 x4 (nth ap 0) aq R E) fun j2=>
 oP E (bC .eql 21 4 x4 (Value.int .i32 59)) a fun b c=>
 xcond b
 (j2 [b] c)
 (oP E (bC .eql 21 4 x4 (Value.int .i32 44)) c fun d e=>
 xcond d
 (j2 [d] e)
 (oP E (bC .eql 21 4 x4 (Value.int .i32 123)) e fun f g=>
 xcond f
 (j2 [f] g)
 (oP E (bC .eql 21 4 x4 (Value.int .i32 125)) g fun i j=>
 xcond i
 (j2 [i] j)
 (oP E (bC .eql 21 4 x4 (Value.int .i32 40)) j fun k l=>
 xcond k
 (j2 [k] l)
 (oP E (bC .eql 21 4 x4 (Value.int .i32 41)) l fun m n=>
 xcond m
 (j2 [m] n)
 (oP E (bC .eql 21 4 x4 (Value.int .i32 91)) n fun o p=>
 xcond o
 (j2 [o] p)
 (oP E (bC .eql 21 4 x4 (Value.int .i32 93)) p fun q r=>
 xcond q
 (j2 [q] r)
 (oP E (bC .eql 21 4 x4 (Value.int .i32 61)) r fun s t=>
 xcond s
 (j2 [s] t)
 (oP E (bC .eql 21 4 x4 (Value.int .i32 33)) t fun u v=>
 xcond u
 (j2 [u] v)
 (oP E (bC .eql 21 4 x4 (Value.int .i32 60)) v fun y z=>
 xcond y
 (j2 [y] z)
 (oP E (bC .eql 21 4 x4 (Value.int .i32 62)) z fun aa ab=>
 xcond aa
 (j2 [aa] ab)
 (oP E (bC .eql 21 4 x4 (Value.int .i32 43)) ab fun ac ad=>
 xcond ac
 (j2 [ac] ad)
 (oP E (bC .eql 21 4 x4 (Value.int .i32 45)) ad fun ae af=>
 xcond ae
 (j2 [ae] af)
 (oP E (bC .eql 21 4 x4 (Value.int .i32 42)) af fun ag ah=>
 xcond ag
 (j2 [ag] ah)
 (oP E (bC .eql 21 4 x4 (Value.int .i32 47)) ah fun ai aj=>
 xcond ai
 (j2 [ai] aj)
 (oP E (bC .eql 21 4 x4 (Value.int .i32 37)) aj fun ak al=>
 xcond ak
 (j2 [ak] al)
 (oP E (bC .eql 21 4 x4 (Value.int .i32 38)) al fun am an=>
 xcond am
 (j2 [am] an)
 (oP E (bC .eql 21 4 x4 (Value.int .i32 124)) an fun ar au=>
 j2 [ar] au)))))))))))))))))))))
def d1f(x0 w)(R:RT)(E):=
 opK pG E (xV (Instr.box 21 x0)) w fun b g=>
 oP E (lA 21 b) g fun a i=>
 xcut (fun j k=>b7y b a (nth j 0) k R E) fun j1=>
 oP E (bC .eql 21 4 a (Value.int .i32 32)) i fun c d=>
 xcond c
 (j1 [c] d)
 (oP E (bC .eql 21 4 a (Value.int .i32 9)) d fun e f=>
 xcond e
 (j1 [e] f)
 (oP E (bC .eql 21 4 a (Value.int .i32 13)) f fun l m=>
 j1 [l] m))
def d3v:Hint:=(sQ (hS (sQ (hB (hU [5] (sQ (hC hN (sQ (hC hN hN)))) (hC (sQ hN) (sQ (hC (sQ hN) (hU [11] (sQ (hC hN (sQ (hC hN (sQ (hC hN (sQ (hC hN (sQ (hC hN (sQ (hC hN (sQ (hC hN (sQ (hC hN (sQ (hC hN (sQ (hC hN (sQ (hC hN (sQ (hC hN (sQ (hC hN (sQ (hC hN (sQ (hC hN (sQ (hC hN (sQ (hC hN (sQ (hC hN hN)))))))))))))))))))))))))))))))))))) (hC (sQ hN) (hU [31] (sQ (hC hN (sQ (hC hN hN)))) (hC (sQ hN) hN)))))))))) (sQ (hS (hB (sQ (hC (sQ hN) (hU [39] (sQ (hC hN (sQ (hC hN (sQ (hC hN (sQ (hC hN (sQ (hC hN hN)))))))))) (hC (sQ hN) hN))))) (sQ hN)))))
theorem c7X{x0:Value}(h:d1f x0 w R E):Cv pG 134 #[x0] w R E:=okF (h:=d3v) Tryz.func134 (by kernel_rfl) (by kernel_rfl) h
def b7z(w)(R:RT)(_E:Pan):=
 ∀_τ:Fr,(R (vI (-1)) w)
def c1T(x0 x1 x7 x8 w)(next2:NT)(j1:NT)(R:RT)(E):=
 opK pG E (bN .lss 3 8 7 x8 x7) w fun c a=>
 xcond c
 (oP E (iA 27 x0 x8) a fun d e=>
 oP E (lA 9 d) e fun f g=>
 oP E (bN .eql 9 11 15 x1 f) g fun i b=>
 xcond i
 (R x8 b)
 (oP E (bC .add 3 8 x8 (vI 1)) b fun j k=>
 next2 [j] k))
 (j1 [] a)
def d1g(x0 x1 w)(R:RT)(E):=
 xcut (fun _ a=>b7z a R E) fun j1=>
 oP E (xBuiltin .len #[27] 3 [false] [x0]) w fun b c=>
 xloop [8] [(vI 0)] c fun d e next2=>
 c1T x0 x1 b (d 8) e next2 j1 R E
def d3w:Hint:=(sQ (hU [] (sQ (hB (hL [8] (sQ (hS (hC hN hN) (hS (hB (sQ (sQ (hC (sQ hN) hN)))) hN)))))) (sQ hN)))
theorem c7Y{x0 x1:Value}(h:d1g x0 x1 w R E):Cv pG 135 #[x0,x1] w R E:=okF (h:=d3w) Tryz.func135 (by kernel_rfl) (by kernel_rfl) h
def b7A(x2 w)(R:RT)(_E:Pan):=
 ∀_τ:Fr,(R x2 w)
def c1U(x2 x4 w)(next2:NT)(j1:NT)(_R:RT)(E):=
 opK pG E (xV (Instr.next x4 true 0)) w fun b c=>
 oP E (xT b 0) c fun d a=>
 xcond d
 (oP E (bC .add 3 7 x2 (vI 1)) a fun e f=>
 next2 [e] f)
 (j1 [x2] a)
def d1h(x0 w)(R:RT)(E):=
 xcut (fun a b=>b7A (nth a 0) b R E) fun j1=>
 oP E (xV (Instr.range 9 x0)) w fun c d=>
 xloop [2] [(vI 0)] d fun e f next2=>
 c1U (e 2) c f next2 j1 R E
def d3x:Hint:=(sQ (hU [2] (sQ (hB (hL [2] (sQ (hS (hC hN hN) (hB hN)))))) (sQ hN)))
theorem c7Z{x0:Value}(h:d1h x0 w R E):Cv pG 137 #[x0] w R E:=okF (h:=d3x) Tryz.func137 (by kernel_rfl) (by kernel_rfl) h
def d1i(x0 x1 x2 w)(R:RT)(E):=
 opK pG E (lA 21 x2) w fun b c=>
 oP E (bN .leq 21 6 7 x0 b) c fun a d=>
 oP E (gYs a (lA 21 x2)) d fun e f=>
 oP E (gYs a (bN .leq 21 10 11 e (zT a x1))) f fun g i=>
 oP E (xPick a g (vB false)) i fun j k=>
 R j k
def d3y:Hint:=(sQ (sQ hN))
theorem c8a{x0 x1 x2:Value}(h:d1i x0 x1 x2 w R E):Cv pG 138 #[x0,x1,x2] w R E:=okF (h:=d3y) Tryz.func138 (by kernel_rfl) (by kernel_rfl) h
def d1j(x0 w)(R:RT)(E):=
 opK pG E (xV (Instr.box 195 x0)) w fun b c=>
 oP E (fA 195 b 0) c fun d e=>
 oP E (fA 70 d 1) e fun f g=>
 oP E (lA 3 f) g fun i j=>
 oP E (bC .geq 3 5 i (vI 0)) j fun a k=>
 oP E (gYs a (fA 195 b 0)) k fun l m=>
 oP E (gYs a (fA 70 l 1)) m fun n o=>
 oP E (gYs a (lA 3 n)) o fun p q=>
 oP E (gYs a (bC .leq 3 10 p (vI 2147483647))) q fun r s=>
 oP E (xPick a r (vB false)) s fun t u=>
 R t u
def d3z:Hint:=(sQ (sQ hN))
theorem c8b{x0:Value}(h:d1j x0 w R E):Cv pG 155 #[x0] w R E:=okF (h:=d3z) Tryz.func155 (by kernel_rfl) (by kernel_rfl) h
def d1k(x0 w)(R:RT)(E):=
 opK pG E (xV (Instr.box 195 x0)) w fun _t1_1 a=>
 R (nS) a
def d3A:Hint:=(sQ (sQ hN))
theorem c8c{x0:Value}(h:d1k x0 w R E):Cv pG 156 #[x0] w R E:=okF (h:=d3A) Tryz.func156 (by kernel_rfl) (by kernel_rfl) h
def b7B(x4 x5 x35 x83 w)(R:RT)(E):=
 ∀_τ:Fr,(xcond x83
 (oP E (gYs x5 (lA 230 x4)) w fun b c=>
 oP E (gYs x5 (xV (Instr.build 230 #[(0,(vI 0)),(1,(vI 1))]))) c fun d e=>
 oP E (gYs x5 (bN .eql 230 88 89 b d)) e fun f g=>
 oP E (xPick x5 f (vB false)) g fun i j=>
 R i j)
 (oP E (bC .eql 3 35 x35 (vI 7)) w fun k a=>
 xcond k
 (oP E (gYs x5 (lA 230 x4)) a fun l m=>
 oP E (gYs x5 (xV (Instr.build 230 #[]))) m fun n o=>
 oP E (gYs x5 (bN .eql 230 96 97 l n)) o fun p q=>
 oP E (xPick x5 p (vB false)) q fun r s=>
 R r s)
 (R (vB false) a)))
def d1l(x0 w)(R:RT)(E):=
 opK pG E (xV (Instr.box 197 x0)) w fun a r=>
 oP E (fA 197 a 0) r fun s t=>
 oP E (fA 60 s 4) t fun u v=>
 oP E (lA 23 u) v fun y z=>
 oP E (xBuiltin .len #[23] 3 [false] [y]) z fun aa ab=>
 oP E (fA 197 a 0) ab fun ac ad=>
 oP E (fA 60 ac 5) ad fun ae af=>
 oP E (lA 23 ae) af fun ag ah=>
 oP E (xBuiltin .len #[23] 3 [false] [ag]) ah fun ai aj=>
 oP E (bN .add 3 9 13 aa ai) aj fun ak al=>
 oP E (bC .gtr 3 14 ak (vI 0)) al fun j am=>
 oP E (fA 197 a 0) am fun an ao=>
 oP E (fA 60 an 2) ao fun ap aq=>
 oP E (lA 57 ap) aq fun ar au=>
 oP E (xBuiltin .len #[57] 3 [false] [ar]) au fun av aw=>
 oP E (fA 197 a 0) aw fun ax ay=>
 oP E (fA 60 ax 3) ay fun az ba=>
 oP E (lA 58 az) ba fun bb bc=>
 oP E (xBuiltin .len #[58] 3 [false] [bb]) bc fun bd be=>
 oP E (xV (Instr.build 230 #[(0,av),(1,bd)])) be fun bf bg=>
 oP E (xV (Instr.alloc 230 true (.tuple #[]))) bg fun c bh=>
 oP E (sA 230 c bf) bh fun _ bi=>
 oP E (fA 197 a 0) bi fun bj bk=>
 oP E (fA 60 bj 1) bk fun bl bm=>
 oP E (lA 9 bl) bm fun bn bo=>
 oP E (bC .eql 9 27 bn (eS)) bo fun k bp=>
 oP E (gYs k (xV (Op.unary .not (zT k j)))) bp fun bq br=>
 oP E (xPick k bq (vB false)) br fun bs bt=>
 oP E (fA 197 a 0) bt fun bu bv=>
 oP E (fA 60 bu 0) bv fun bw bz=>
 oP E (lA 3 bw) bz fun b ca=>
 oP E (bC .eql 3 35 b (vI 1)) ca fun cb l=>
 xcond cb
 (oP E (xV (Op.unary .not j)) l fun e cc=>
 oP E (gYs e (lA 230 c)) cc fun cd ce=>
 oP E (gYs e (xV (Instr.build 230 #[(0,(vI 1)),(1,(vI 0))]))) ce fun cf cg=>
 oP E (gYs e (bN .eql 230 41 42 cd cf)) cg fun ch ci=>
 oP E (xPick e ch (vB false)) ci fun cj ck=>
 R cj ck)
 (oP E (bC .eql 3 35 b (vI 2)) l fun cl m=>
 xcond cl
 (oP E (xV (Op.unary .not j)) m fun f cm=>
 oP E (gYs f (lA 230 c)) cm fun cn co=>
 oP E (gYs f (xV (Instr.build 230 #[(0,(vI 2)),(1,(vI 0))]))) co fun cp cq=>
 oP E (gYs f (bN .eql 230 50 51 cn cp)) cq fun cr cs=>
 oP E (xPick f cr (vB false)) cs fun ct cu=>
 R ct cu)
 (oP E (bC .eql 3 35 b (vI 3)) m fun cv n=>
 xcond cv
 (oP E (fA 197 a 0) n fun cw cx=>
 oP E (fA 60 cw 1) cx fun cy cz=>
 oP E (lA 9 cy) cz fun da db=>
 oP E (bC .eql 9 58 da (eS)) db fun g dc=>
 oP E (gYs g (lA 230 c)) dc fun dd de=>
 oP E (gYs g (xV (Instr.build 230 #[(0,(vI 0)),(1,(vI 1))]))) de fun df dg=>
 oP E (gYs g (bN .eql 230 61 62 dd df)) dg fun dh di=>
 oP E (xPick g dh (vB false)) di fun dj dk=>
 R dj dk)
 (oP E (bC .eql 3 35 b (vI 4)) n fun dl o=>
 xcond dl
 (oP E (fA 197 a 0) o fun dm dn=>
 oP E (fA 60 dm 1) dn fun dp dq=>
 oP E (lA 9 dp) dq fun dr ds=>
 oP E (bC .eql 9 69 dr (eS)) ds fun d dt=>
 oP E (gYs d (fA 197 a 0)) dt fun du dv=>
 oP E (gYs d (fA 60 du 5)) dv fun dw dx=>
 oP E (gYs d (lA 23 dw)) dx fun dy dz=>
 oP E (gYs d (xBuiltin .len #[23] 3 [false] [dy])) dz fun ea eb=>
 oP E (gYs d (bC .eql 3 75 ea (vI 0))) eb fun ec ed=>
 oP E (xPick d ec (vB false)) ed fun i ee=>
 oP E (gYs i (lA 230 c)) ee fun ef eg=>
 oP E (gYs i (xV (Instr.build 230 #[(0,(vI 0)),(1,(vI 1))]))) eg fun eh ei=>
 oP E (gYs i (bN .eql 230 79 80 ef eh)) ei fun ej ek=>
 oP E (xPick i ej (vB false)) ek fun el em=>
 R el em)
 (xcut (fun en eo=>b7B c bs b (nth en 0) eo R E) fun j1=>
 oP E (bC .eql 3 35 b (vI 5)) o fun p q=>
 xcond p
 (j1 [p] q)
 (oP E (bC .eql 3 35 b (vI 6)) q fun ep eq=>
 j1 [ep] eq)))))
def d3B:Hint:=(sQ (sQ (sQ (sQ (hS (sQ (hB (sQ (hC (sQ hN) (sQ (hC (sQ hN) (sQ (hC (sQ hN) (sQ (hC (sQ hN) (hU [83] (sQ (hC hN hN)) (hC (sQ hN) (sQ (hC (sQ hN) hN)))))))))))))) (sQ hN))))))
theorem c8d{x0:Value}(h:d1l x0 w R E):Cv pG 157 #[x0] w R E:=okF (h:=d3B) Tryz.func157 (by kernel_rfl) (by kernel_rfl) h
def d1m(x0 w)(R:RT)(E):=
 opK pG E (xV (Instr.box 197 x0)) w fun c n=>
 dX n fun a=>
 qP pG (fA 197 c 0) fun o=>
 qP pG (fA 60 o 3) fun l=>
 qP pG (fA 197 c 0) fun p=>
 qP pG (fA 60 p 2) fun e=>
 qP pG (fA 197 c 0) fun q=>
 qP pG (fA 60 q 4) fun d=>
 qP pG (fA 197 c 0) fun r=>
 qP pG (fA 60 r 5) fun b=>
 qL pG a (blk l) (lA 58 l) fun s=>
 qL pG a (blk e) (lA 57 e) fun t=>
 qL pG a (blk d) (lA 23 d) fun u=>
 qL pG a (blk b) (lA 23 b) fun v=>
 oP E (xCall (fC 159) [s,(fC 160)]) a fun y f=>
 keepX [(blk b),(blk d),(blk e)] a f (opK pG E (xCall (fC 161) [t,(fC 162)]) f fun z g=>
 keepX [(blk b),(blk d)] f g (opK pG E (xCall (fC 121) [u,(fC 122)]) g fun aa i=>
 keepX [(blk b)] g i (opK pG E (xCall (fC 121) [v,(fC 122)]) i fun ab j=>
 keepX [] i j (opK pG E (xV (Instr.buildSlice 192 4 #[(0,y),(1,z),(2,aa),(3,ab)])) j fun ac k=>
 keepX [] j k (opK pG E (xCall (fC 118) [ac]) k fun ad m=>
 keepX [] k m (R ad m))))))
def d3C:Hint:=(sQ (hS (.reg [(0,8,2),(1,16,8),(2,32,16),(4,64,32),(0,128,2),(16,256,128),(32,512,256),(72,1024,512),(0,2048,2),(256,4096,2048),(512,8192,4096),(1152,16384,8192),(0,32768,2),(4096,65536,32768),(8192,131072,65536),(18432,262144,131072),(34952,524288,279616),(98304,1048576,524288),(262143,4,1048576)] [17476,17476,17472,17472,17476,17476,17412,17408,17476,17476,16452,16384,17476,17476,1092,0,0,0,17476] (.early 0 (.early 1 (.early 4 (.early 5 (.early 8 (.early 9 (.early 12 (.early 13 (.load 2 (.load 6 (.load 10 (.load 14 (.step 3 (.step 7 (.step 11 (.step 15 (.step 16 (.step 17 (.early 18 .done)))))))))))))))))))) hN))
theorem c8e{x0:Value}(h:d1m x0 w R E):Cv pG 158 #[x0] w R E:=okF (h:=d3C) Tryz.func158 (by kernel_rfl) (by kernel_rfl) h
def b7C(x5 w)(R:RT)(_E:Pan):=
 ∀_τ:Fr,(R x5 w)
def c1V(x1 x5 x8 x9 x10 w)(next2:NT)(j1:NT)(_R:RT)(E):=
 opK pG E (bN .lss 3 10 9 x10 x9) w fun c a=>
 xcond c
 (oP E (iA 58 x8 x10) a fun d e=>
 oP E (lA 131 d) e fun f g=>
 oP E (xV (Instr.alloc 131 true (.tuple #[]))) g fun b i=>
 oP E (sA 131 b f) i fun _ j=>
 oP E (lA 131 b) j fun k l=>
 oP E (xCall x1 [k]) l fun m n=>
 oP E (xV (Instr.buildSlice 179 1 #[(0,m)])) n fun o p=>
 oP E (xBuiltin .append #[179,179] 179 [false,false] [x5,o]) p fun q r=>
 oP E (bC .add 3 10 x10 (vI 1)) r fun s t=>
 next2 [q,s] t)
 (j1 [x5] a)
def d1n(x0 x1 w)(R:RT)(E):=
 xcut (fun b c=>b7C (nth b 0) c R E) fun j1=>
 oP E (xBuiltin .len #[58] 3 [false] [x0]) w fun d e=>
 xloop [5,10] [(nS),(vI 0)] e fun a f next2=>
 c1V x1 (a 5) x0 d (a 10) f next2 j1 R E
def d3D:Hint:=(sQ (sQ (hU [5] (sQ (hB (hL [5,10] (sQ (hS (hC hN hN) (hS (hB (sQ hN)) hN)))))) (sQ hN))))
theorem c8f{x0 x1:Value}(h:d1n x0 x1 w R E):Cv pG 159 #[x0,x1] w R E:=okF (h:=d3D) Tryz.func159 (by kernel_rfl) (by kernel_rfl) h
def d1o(x0 w)(R:RT)(E):=
 opK pG E (xV (Instr.box 131 x0)) w fun a b=>
 oP E (lA 131 a) b fun c d=>
 oP E (xV (Instr.build 236 #[(0,c)])) d fun e f=>
 oP E (xV (Instr.makeInterface 236 e)) f fun g i=>
 R g i
def d3E:Hint:=(sQ (sQ hN))
theorem c8g{x0:Value}(h:d1o x0 w R E):Cv pG 160 #[x0] w R E:=okF (h:=d3E) Tryz.func160 (by kernel_rfl) (by kernel_rfl) h
def b7D(x5 w)(R:RT)(_E:Pan):=
 ∀_τ:Fr,(R x5 w)
def c1W(x1 x5 x8 x9 x10 w)(next2:NT)(j1:NT)(_R:RT)(E):=
 opK pG E (bN .lss 3 10 9 x10 x9) w fun c a=>
 xcond c
 (oP E (iA 57 x8 x10) a fun d e=>
 oP E (lA 123 d) e fun f g=>
 oP E (xV (Instr.alloc 123 true (.tuple #[]))) g fun b i=>
 oP E (sA 123 b f) i fun _ j=>
 oP E (lA 123 b) j fun k l=>
 oP E (xCall x1 [k]) l fun m n=>
 oP E (xV (Instr.buildSlice 179 1 #[(0,m)])) n fun o p=>
 oP E (xBuiltin .append #[179,179] 179 [false,false] [x5,o]) p fun q r=>
 oP E (bC .add 3 10 x10 (vI 1)) r fun s t=>
 next2 [q,s] t)
 (j1 [x5] a)
def d1p(x0 x1 w)(R:RT)(E):=
 xcut (fun b c=>b7D (nth b 0) c R E) fun j1=>
 oP E (xBuiltin .len #[57] 3 [false] [x0]) w fun d e=>
 xloop [5,10] [(nS),(vI 0)] e fun a f next2=>
 c1W x1 (a 5) x0 d (a 10) f next2 j1 R E
def d3F:Hint:=(sQ (sQ (hU [5] (sQ (hB (hL [5,10] (sQ (hS (hC hN hN) (hS (hB (sQ hN)) hN)))))) (sQ hN))))
theorem c8h{x0 x1:Value}(h:d1p x0 x1 w R E):Cv pG 161 #[x0,x1] w R E:=okF (h:=d3F) Tryz.func161 (by kernel_rfl) (by kernel_rfl) h
def d1q(x0 w)(R:RT)(E):=
 opK pG E (xV (Instr.box 123 x0)) w fun a b=>
 oP E (lA 123 a) b fun c d=>
 oP E (xV (Instr.build 202 #[(0,c)])) d fun e f=>
 oP E (xV (Instr.makeInterface 202 e)) f fun g i=>
 R g i
def d3G:Hint:=(sQ (sQ hN))
theorem c8i{x0:Value}(h:d1q x0 w R E):Cv pG 162 #[x0] w R E:=okF (h:=d3G) Tryz.func162 (by kernel_rfl) (by kernel_rfl) h
end Go.Proofs.YtaokfhdinhimfaaGreatDoor
