/- The second reading of some of the program's functions, printed by gen2.py off the code; each is held against the code by the kernel. -/
import Derived.KernelRfl
import Derived.Test.YthaaobpfbgcfiaaGreatDooryWGz
namespace Go.Proofs.YthaaobpfbgcfiaaGreatDoor
open Go.RowKit
set_option maxRecDepth 100000
variable {w:World}{R:RT}{E:Pan}
def c0F(x3 x59 w)(R:RT)(E):=
 ∀_τ:Fr,(xcond x59
 (oP E (bC .eql 3 65 x3 (vI 2)) w fun a b=>
 R a b)
 (R (vB false) w))
def c0G(x3 x38 x54 w)(R:RT)(E):=
 ∀_τ:Fr,(xcond x54
 (oP E (bC .eql 3 57 x3 (vI 1)) w fun j k=>
 R j k)
 (xcut (fun l m=>c0F x3 (nth l 0) m R E) fun j3=>
 oP E (bC .eql 3 38 x38 (vI 6)) w fun a b=>
 xcond a
 (j3 [a] b)
 (oP E (bC .eql 3 38 x38 (vI 7)) b fun c d=>
 xcond c
 (j3 [c] d)
 (oP E (bC .eql 3 38 x38 (vI 8)) d fun e f=>
 xcond e
 (j3 [e] f)
 (oP E (bC .eql 3 38 x38 (vI 9)) f fun g i=>
 xcond g
 (j3 [g] i)
 (oP E (bC .eql 3 38 x38 (vI 10)) i fun n o=>
 j3 [n] o))))))
def c0H(x3 x38 x49 w)(R:RT)(E):=
 ∀_τ:Fr,(xcond x49
 (oP E (bC .eql 3 52 x3 (vI 0)) w fun c d=>
 R c d)
 (xcut (fun e f=>c0G x3 x38 (nth e 0) f R E) fun j2=>
 oP E (bC .eql 3 38 x38 (vI 4)) w fun a b=>
 xcond a
 (j2 [a] b)
 (oP E (bC .eql 3 38 x38 (vI 5)) b fun g i=>
 j2 [g] i)))
def d4H(x0 w)(R:RT)(E):=
 opK pG E (xV (Instr.box 200 x0)) w fun b n=>
 oP E (fA 200 b 0) n fun o p=>
 oP E (fA 125 o 3) p fun q r=>
 oP E (lA 101 q) r fun s t=>
 oP E (xBuiltin .len #[101] 3 [false] [s]) t fun g u=>
 oP E (lA 200 b) u fun v y=>
 oP E (xV (Instr.makeInterface 200 v)) y fun z aa=>
 oP E (xCall (fC 113) [z]) aa fun i ab=>
 oP E (xT i 0) ab fun _t14_17 ac=>
 oP E (xT i 1) ac fun ad ae=>
 oP E (fA 200 b 0) ae fun af ag=>
 oP E (fA 125 af 0) ag fun ah ai=>
 oP E (lA 3 ah) ai fun aj ak=>
 oP E (bC .neq 3 18 aj (vI 1)) ak fun c al=>
 oP E (gYs c (fA 200 b 0)) al fun am an=>
 oP E (gYs c (fA 125 am 1)) an fun ao ap=>
 oP E (gYs c (lA 2 ao)) ap fun aq ar=>
 oP E (gYs c (bC .neq 2 23 aq (vI 0))) ar fun au av=>
 oP E (xPick c au (vB false)) av fun a aw=>
 oP E (gNo a (xV (Op.unary .not (gval (asB a) false ad)))) aw fun d ax=>
 oP E (gsem (asB (gval (asB a) false d)) true (fA 200 b 0)) ax fun ay az=>
 oP E (gsem (asB (gval (asB a) false d)) true (fA 125 ay 2)) az fun ba bb=>
 oP E (gsem (asB (gval (asB a) false d)) true (lA 9 ba)) bb fun bc bd=>
 oP E (gsem (asB (gval (asB a) false d)) true (bC .neq 9 32 bc (eS))) bd fun be bf=>
 oP E (gNo a (xPick (gval (asB a) false d) be (vB false))) bf fun bg bh=>
 oP E (xPick a (vB true) bg) bh fun bi j=>
 xcond bi
 (R (vB false) j)
 (oP E (fA 200 b 0) j fun bj bk=>
 oP E (fA 125 bj 0) bk fun bl bm=>
 oP E (lA 3 bl) bm fun e bn=>
 oP E (bC .eql 3 38 e (vI 1)) bn fun bo k=>
 xcond bo
 (oP E (fA 200 b 0) k fun bp bq=>
 oP E (fA 125 bp 1) bq fun br bs=>
 oP E (lA 2 br) bs fun bt bu=>
 oP E (bC .geq 2 43 bt (vI 0)) bu fun f bv=>
 oP E (gYs f (bC .eql 3 46 (gval (asB f) true g) (vI 0))) bv fun bw bz=>
 oP E (xPick f bw (vB false)) bz fun ca cb=>
 R ca cb)
 (xcut (fun cc cd=>c0H g e (nth cc 0) cd R E) fun j1=>
 oP E (bC .eql 3 38 e (vI 2)) k fun l m=>
 xcond l
 (j1 [l] m)
 (oP E (bC .eql 3 38 e (vI 3)) m fun ce cf=>
 j1 [ce] cf)))
def d4I:Hint:=(sQ (sQ (sQ (hS (sQ (hC (sQ hN) hN)) (hS (sQ (hB (sQ (hC (sQ hN) (hU [49] (sQ (hC hN hN)) (hC (sQ hN) (hU [54] (sQ (hC hN hN)) (hC (sQ hN) (hU [59] (sQ (hC hN (sQ (hC hN (sQ (hC hN (sQ (hC hN hN)))))))) (hC (sQ hN) hN)))))))))) (sQ hN))))))
theorem c8b{x0:Value}(h:d4H x0 w R E):Cv pG 149 #[x0] w R E:=okF (h:=d4I) Tryz.func149 (by kernel_rfl) (by kernel_rfl) h
def d4J(x0 w)(R:RT)(E):=
 opK pG E (xV (Instr.box 200 x0)) w fun a b=>
 oP E (fA 200 a 0) b fun c d=>
 oP E (fA 125 c 3) d fun e f=>
 oP E (lA 101 e) f fun g i=>
 oP E (xCall (fC 147) [g,(fC 148)]) i fun j k=>
 R j k
def d4K:Hint:=(sQ (sQ hN))
theorem c8c{x0:Value}(h:d4J x0 w R E):Cv pG 150 #[x0] w R E:=okF (h:=d4K) Tryz.func150 (by kernel_rfl) (by kernel_rfl) h
def c0I(x3 x50 w)(R:RT)(E):=
 ∀_τ:Fr,(xcond x50
 (oP E (lA 236 x3) w fun a b=>
 oP E (xV (Instr.build 236 #[(0,(vI 0)),(1,(vI 2))])) b fun c d=>
 oP E (bN .eql 236 53 54 a c) d fun e f=>
 R e f)
 (R (vB false) w))
def c0J(x3 x38 x39 w)(R:RT)(E):=
 ∀_τ:Fr,(xcond x39
 (oP E (lA 236 x3) w fun d e=>
 oP E (xV (Instr.build 236 #[])) e fun f g=>
 oP E (bN .eql 236 42 43 d f) g fun i j=>
 R i j)
 (oP E (bC .eql 3 38 x38 (vI 4)) w fun k a=>
 xcond k
 (oP E (lA 236 x3) a fun l m=>
 oP E (xV (Instr.build 236 #[(0,(vI 0)),(1,(vI 1))])) m fun n o=>
 oP E (bN .eql 236 47 48 l n) o fun p q=>
 R p q)
 (xcut (fun r s=>c0I x3 (nth r 0) s R E) fun j2=>
 oP E (bC .eql 3 38 x38 (vI 5)) a fun b c=>
 xcond b
 (j2 [b] c)
 (oP E (bC .eql 3 38 x38 (vI 6)) c fun t u=>
 j2 [t] u))))
def d4L(x0 w)(R:RT)(E):=
 opK pG E (xV (Instr.box 233 x0)) w fun a k=>
 oP E (fA 233 a 0) k fun l m=>
 oP E (fA 122 l 2) m fun n o=>
 oP E (lA 101 n) o fun p q=>
 oP E (xBuiltin .len #[101] 3 [false] [p]) q fun r s=>
 oP E (fA 233 a 0) s fun t u=>
 oP E (fA 122 t 3) u fun v y=>
 oP E (lA 102 v) y fun z aa=>
 oP E (xBuiltin .len #[102] 3 [false] [z]) aa fun ab ac=>
 oP E (xV (Instr.build 236 #[(0,r),(1,ab)])) ac fun ad ae=>
 oP E (xV (Instr.alloc 236 true (.tuple #[]))) ae fun d af=>
 oP E (sA 236 d ad) af fun _ ag=>
 oP E (fA 233 a 0) ag fun ah ai=>
 oP E (fA 122 ah 0) ai fun aj ak=>
 oP E (lA 3 aj) ak fun al am=>
 oP E (bC .eql 3 15 al (vI 3)) am fun an f=>
 xcond an
 (oP E (fA 233 a 0) f fun ao ap=>
 oP E (fA 122 ao 1) ap fun aq ar=>
 oP E (lA 3 aq) ar fun au av=>
 oP E (bC .geq 3 19 au (vI 1)) av fun b aw=>
 oP E (gYs b (fA 233 a 0)) aw fun ax ay=>
 oP E (gYs b (fA 122 ax 1)) ay fun az ba=>
 oP E (gYs b (lA 3 az)) ba fun bb bc=>
 oP E (gYs b (bC .leq 3 24 bb (vI 6))) bc fun bd be=>
 oP E (xPick b bd (vB false)) be fun c bf=>
 oP E (gYs c (lA 236 d)) bf fun bg bh=>
 oP E (gYs c (xV (Instr.build 236 #[(0,(vI 2)),(1,(vI 0))]))) bh fun bi bj=>
 oP E (gYs c (bN .eql 236 28 29 bg bi)) bj fun bk bl=>
 oP E (xPick c bk (vB false)) bl fun bm bn=>
 R bm bn)
 (oP E (fA 233 a 0) f fun bo bp=>
 oP E (fA 122 bo 1) bp fun bq br=>
 oP E (lA 3 bq) br fun bs bt=>
 oP E (bC .neq 3 34 bs (vI 0)) bt fun bu g=>
 xcond bu
 (R (vB false) g)
 (oP E (fA 233 a 0) g fun bv bw=>
 oP E (fA 122 bv 0) bw fun bz ca=>
 oP E (lA 3 bz) ca fun e cb=>
 xcut (fun cc cd=>c0J d e (nth cc 0) cd R E) fun j1=>
 oP E (bC .eql 3 38 e (vI 1)) cb fun i j=>
 xcond i
 (j1 [i] j)
 (oP E (bC .eql 3 38 e (vI 2)) j fun ce cf=>
 j1 [ce] cf)))
def d4M:Hint:=(sQ (sQ (hS (sQ (hC (sQ hN) hN)) (hS (sQ (hC (sQ hN) hN)) (hS (sQ (hB (hU [39] (sQ (hC hN hN)) (hC (sQ hN) (sQ (hC (sQ hN) (hU [50] (sQ (hC hN hN)) (hC (sQ hN) hN)))))))) (sQ hN))))))
theorem c8d{x0:Value}(h:d4L x0 w R E):Cv pG 152 #[x0] w R E:=okF (h:=d4M) Tryz.func152 (by kernel_rfl) (by kernel_rfl) h
def d4N(x0 w)(R:RT)(E):=
 opK pG E (xV (Instr.box 233 x0)) w fun f j=>
 dX j fun a=>
 qP pG (fA 233 f 0) fun k=>
 qP pG (fA 122 k 2) fun g=>
 qP pG (fA 233 f 0) fun l=>
 qP pG (fA 122 l 3) fun b=>
 qL pG a (blk g) (lA 101 g) fun m=>
 qL pG a (blk b) (lA 102 b) fun n=>
 oP E (xCall (fC 147) [m,(fC 148)]) a fun o c=>
 keepX [(blk b)] a c (opK pG E (xCall (fC 145) [n,(fC 146)]) c fun p d=>
 keepX [] c d (opK pG E (xV (Instr.buildSlice 185 2 #[(0,o),(1,p)])) d fun q e=>
 keepX [] d e (opK pG E (xCall (fC 78) [q]) e fun r i=>
 keepX [] e i (R r i))))
def d4O:Hint:=(sQ (hS (.reg [(0,8,2),(1,16,8),(2,32,16),(4,64,32),(0,128,2),(16,256,128),(32,512,256),(72,1024,512),(136,2048,1088),(384,4096,2048),(1023,4,4096)] [68,68,64,64,68,68,4,0,0,0,68] (.early 0 (.early 1 (.early 4 (.early 5 (.load 2 (.load 6 (.step 3 (.step 7 (.step 8 (.step 9 (.early 10 .done)))))))))))) hN))
theorem c8e{x0:Value}(h:d4N x0 w R E):Cv pG 153 #[x0] w R E:=okF (h:=d4O) Tryz.func153 (by kernel_rfl) (by kernel_rfl) h
end Go.Proofs.YthaaobpfbgcfiaaGreatDoor
