/- The second reading of some of the program's functions, printed by gen2.py off the code; each is held against the code by the kernel. -/
import Derived.KernelRfl
import Derived.Test.YtaokfhdinhimfaaGreatDooryLGz
namespace Go.Proofs.YtaokfhdinhimfaaGreatDoor
open Go.RowKit
set_option maxRecDepth 100000
variable {w:World}{R:RT}{E:Pan}
def c2G(x1 x5 w)(R:RT)(E):=
 ∀_τ:Fr,(oP E (lA 25 x1) w fun c d=>
 oP E (xCall (fC 6) [c]) d fun a e=>
 oP E (xT a 0) e fun f g=>
 oP E (xT a 1) g fun _t47_49 i=>
 oP E (xV (Instr.alloc 30 true (.tuple #[]))) i fun b j=>
 oP E (sA 30 b f) j fun _ k=>
 oP E (lA 30 b) k fun l m=>
 oP E (lA 30 x5) m fun n o=>
 oP E (xCall (fC 8) [l,n]) o fun p q=>
 R p q)
def c6y(_x1 x3 _x5 x7:Value)(w)(next2:NT)(j1:NT)(_R:RT)(E):=
 opK pG E (fA 30 x3 5) w fun b c=>
 oP E (lA 28 b) c fun d e=>
 oP E (xBuiltin .len #[28] 3 [false] [d]) e fun f g=>
 oP E (bN .lss 3 31 34 x7 f) g fun i a=>
 xcond i
 (oP E (fA 30 x3 5) a fun j k=>
 oP E (lA 28 j) k fun l m=>
 oP E (iA 28 l x7) m fun n o=>
 oP E (fA 40 n 2) o fun p q=>
 oP E (sA 3 p (vI 99)) q fun _ r=>
 oP E (bC .add 3 36 x7 (vI 1)) r fun s t=>
 next2 [s] t)
 (j1 [] a)
def F3(x0 w)(R:RT)(E):=
 opK pG E (xV (Instr.box 25 x0)) w fun b j=>
 oP E (xCall (fC 5) []) j fun k l=>
 oP E (xV (Op.unary .not k)) l fun m e=>
 xcond m
 (R (vB false) e)
 (oP E (lA 25 b) e fun n o=>
 oP E (xCall (fC 6) [n]) o fun f p=>
 oP E (xT f 0) p fun q r=>
 oP E (xT f 1) r fun s t=>
 oP E (xV (Instr.alloc 30 true (.tuple #[]))) t fun d u=>
 oP E (sA 30 d q) u fun _ v=>
 oP E (lA 25 b) v fun y z=>
 oP E (xCall (fC 7) [y]) z fun g aa=>
 oP E (xT g 0) aa fun ab ac=>
 oP E (xT g 1) ac fun ad ae=>
 oP E (xV (Instr.alloc 30 true (.tuple #[]))) ae fun c af=>
 oP E (sA 30 c ab) af fun _ ag=>
 oP E (bN .neq 3 22 23 s ad) ag fun a ah=>
 oP E (gNo a (lA 30 d)) ah fun ai aj=>
 oP E (gNo a (lA 30 c)) aj fun ak al=>
 oP E (gNo a (xCall (fC 8) [ai,ak])) al fun am an=>
 oP E (gNo a (xV (Op.unary .not am))) an fun ao ap=>
 oP E (xPick a (vB true) ao) ap fun aq i=>
 xcond aq
 (R (vB false) i)
 (xcut (fun _ ar=>c2G b c ar R E) fun j1=>
 xloop [7] [(vI 0)] i fun au av next2=>
 c6y b d c (au 7) av next2 j1 R E))
def h3:Hint:=(sQ (hS (sQ (hC (sQ hN) hN)) (sQ (sQ (hS (sQ (hC (sQ hN) hN)) (hU [] (sQ (hB (hL [7] (hS (sQ (hC hN hN)) (hS (hB hN) hN))))) (sQ (sQ hN))))))))
theorem d2c{x0:Value}(h:F3 x0 w R E):Cv pG 3 #[x0] w R E:=okF (h:=h3) Tryz.func3 (by kernel_rfl) (by kernel_rfl) h
def d2d(x2 x11 x13 w)(R:RT)(E):=
 ∀_τ:Fr,(oP E (lA 30 x2) w fun b c=>
 oP E (xCall (fC 19) [b]) c fun d e=>
 oP E (xCall (fC 16) [x11,d]) e fun a f=>
 oP E (gYs a (lA 30 x2)) f fun g i=>
 oP E (gYs a (xCall (fC 20) [g])) i fun j k=>
 oP E (gYs a (xCall (fC 16) [(zT a x13),j])) k fun l m=>
 oP E (xPick a l (vB false)) m fun n o=>
 R n o)
def d2e(_x2 x9 _x11 _x13 x15 x16:Value)(w)(next3:NT)(j2:NT)(R:RT)(E):=
 opK pG E (xBuiltin .len #[47] 3 [false] [x15]) w fun e f=>
 oP E (bN .lss 3 126 128 x16 e) f fun g b=>
 xcond g
 (dX b fun a=>
 qP pG (iA 47 x9 x16) fun c=>
 qP pG (iA 47 x15 x16) fun d=>
 qL pG a (blk c) (lA 4 c) fun i=>
 qL pG a (blk d) (lA 4 d) fun j=>
 qP pG (bN .neq 4 135 139 i j) fun k=>
 xcond k
 (R (vB false) a)
 (oP E (bC .add 3 130 x16 (vI 1)) a fun l m=>
 next3 [l] m))
 (j2 [] b)
def d2f(x2 x9 x11 x13 w)(R:RT)(E):=
 ∀_τ:Fr,(oP E (lA 30 x2) w fun c d=>
 oP E (xCall (fC 18) [c]) d fun a e=>
 oP E (xBuiltin .len #[47] 3 [false] [x9]) e fun f g=>
 oP E (xBuiltin .len #[47] 3 [false] [a]) g fun i j=>
 oP E (bN .neq 3 122 124 f i) j fun k b=>
 xcond k
 (R (vB false) b)
 (xcut (fun _ l=>d2d x2 x11 x13 l R E) fun j2=>
 xloop [16] [(vI 0)] b fun m n next3=>
 d2e x2 x9 x11 x13 a (m 16) n next3 j2 R E))
def F4(x0 x1 w)(R:RT)(E):=
 opK pG E (xV (Instr.box 30 x0)) w fun c ag=>
 oP E (xCall (fC 5) []) ag fun ah ai=>
 oP E (xV (Op.unary .not ah)) ai fun aj r=>
 xcond aj
 (R (vB false) r)
 (oP E (lA 30 c) r fun ak al=>
 oP E (xCall (fC 9) [ak]) al fun d am=>
 oP E (lA 30 c) am fun an ao=>
 oP E (xCall (fC 10) [an]) ao fun ap aq=>
 oP E (xV (Instr.alloc 30 true (.tuple #[]))) aq fun a ar=>
 oP E (sA 30 a ap) ar fun _ au=>
 oP E (lA 30 a) au fun av aw=>
 oP E (xCall (fC 11) [av,x1]) aw fun s ax=>
 oP E (xT s 0) ax fun p ay=>
 oP E (xT s 1) ay fun q az=>
 oP E (lA 30 a) az fun ba bb=>
 oP E (xCall (fC 12) [ba]) bb fun t bc=>
 oP E (xT t 0) bc fun u bd=>
 oP E (xT t 1) bd fun be bf=>
 oP E (lA 30 a) bf fun bg bh=>
 oP E (xCall (fC 13) [bg]) bh fun v bi=>
 oP E (xT v 0) bi fun y bj=>
 oP E (xT v 1) bj fun bk bl=>
 oP E (lA 30 a) bl fun bm bn=>
 oP E (xCall (fC 14) [bm]) bn fun z bo=>
 oP E (xT z 0) bo fun aa bp=>
 oP E (xT z 1) bp fun bq br=>
 oP E (lA 30 a) br fun bs bt=>
 oP E (xCall (fC 15) [bs]) bt fun bu bv=>
 oP E (bN .neq 3 45 46 bu d) bv fun e bw=>
 oP E (gNo e (lA 30 a)) bw fun bz ca=>
 oP E (gNo e (lA 30 c)) ca fun cb cc=>
 oP E (gNo e (xCall (fC 8) [bz,cb])) cc fun cd ce=>
 oP E (gNo e (xV (Op.unary .not cd))) ce fun cf cg=>
 oP E (xPick e (vB true) cf) cg fun g ch=>
 oP E (gNo g (bN .neq 3 55 56 (zF g be) (zF g d))) ch fun ci cj=>
 oP E (xPick g (vB true) ci) cj fun i ck=>
 oP E (gNo i (bN .neq 3 60 61 (zF i bk) (zF i d))) ck fun cl cm=>
 oP E (xPick i (vB true) cl) cm fun j cn=>
 oP E (gNo j (bN .neq 3 65 66 (zF j bq) (zF j d))) cn fun co cp=>
 oP E (xPick j (vB true) co) cp fun cq ab=>
 xcond cq
 (R (vB false) ab)
 (oP E (bC .neq 3 69 d (vI 0)) ab fun cr ac=>
 xcond cr
 (oP E (bN .eql 3 71 72 q d) ac fun k cs=>
 oP E (gYs k (xBuiltin .len #[44] 3 [false] [(zT k p)])) cs fun ct cu=>
 oP E (gYs k (bC .eql 3 76 ct (vI 0))) cu fun cv cw=>
 oP E (xPick k cv (vB false)) cw fun l cx=>
 oP E (gYs l (xBuiltin .len #[47] 3 [false] [(zT l u)])) cx fun cy cz=>
 oP E (gYs l (bC .eql 3 81 cy (vI 0))) cz fun da db=>
 oP E (xPick l da (vB false)) db fun m dc=>
 oP E (gYs m (xBuiltin .len #[44] 3 [false] [(zT m y)])) dc fun dd de=>
 oP E (gYs m (bC .eql 3 86 dd (vI 0))) de fun df dg=>
 oP E (xPick m df (vB false)) dg fun n dh=>
 oP E (gYs n (xBuiltin .len #[44] 3 [false] [(zT n aa)])) dh fun di dj=>
 oP E (gYs n (bC .eql 3 91 di (vI 0))) dj fun dk dl=>
 oP E (xPick n dk (vB false)) dl fun dm dn=>
 R dm dn)
 (xcut (fun _ dp=>d2f c u y aa dp R E) fun j1=>
 oP E (bC .lss 3 94 x1 (vI 0)) ac fun f dq=>
 oP E (gNo f (fA 30 c 3)) dq fun dr ds=>
 oP E (gNo f (lA 3 dr)) ds fun dt du=>
 oP E (gNo f (bN .geq 3 97 99 (zF f x1) dt)) du fun dv dw=>
 oP E (xPick f (vB true) dv) dw fun dx ad=>
 xcond dx
 (oP E (bC .neq 31 102 q (vI 92)) ad fun o dy=>
 oP E (gNo o (xBuiltin .len #[44] 3 [false] [(zF o p)])) dy fun dz ea=>
 oP E (gNo o (bC .neq 3 106 dz (vI 0))) ea fun eb ec=>
 oP E (xPick o (vB true) eb) ec fun ed ae=>
 xcond ed
 (R (vB false) ae)
 (j1 [] ae))
 (oP E (bC .neq 31 109 q (vI 0)) ad fun b ee=>
 oP E (gNo b (lA 30 c)) ee fun ef eg=>
 oP E (gNo b (xCall (fC 17) [ef,(zF b x1)])) eg fun eh ei=>
 oP E (gNo b (xCall (fC 16) [(zF b p),eh])) ei fun ej ek=>
 oP E (gNo b (xV (Op.unary .not ej))) ek fun el em=>
 oP E (xPick b (vB true) el) em fun en af=>
 xcond en
 (R (vB false) af)
 (j1 [] af)))))
def h4:Hint:=(sQ (hS (sQ (hC (sQ hN) hN)) (sQ (sQ (sQ (sQ (sQ (sQ (hS (sQ (hC (sQ hN) hN)) (hS (sQ (hC (sQ hN) hN)) (hU [] (sQ (hC (sQ (hC (sQ hN) hN)) (sQ (hC (sQ hN) hN)))) (sQ (hS (sQ (hC (sQ hN) hN)) (hU [] (sQ (hB (hL [16] (hS (sQ (hC hN hN)) (hS (hB (hS (.reg [(0,5444517870735015415413993718908291383296,512),(0,10889035741470030830827987437816582766592,65536),(3,21778071482940061661655974875633165533184,16333553612205046246241981156724874149888),(4,43556142965880123323311949751266331066368,21778071482940061661655974875633165533184),(0,87112285931760246646623899502532662132736,32768),(0,174224571863520493293247799005065324265472,65536),(48,348449143727040986586495598010130648530944,261336857795280739939871698507597986398208),(64,696898287454081973172991196020261297061888,348449143727040986586495598010130648530944),(136,1393796574908163946345982392040522594123776,740454430419962096496303145771527628128256)] [136,136,136,128,136,136,136,8,136] (.early 0 (.early 1 (.early 2 (.early 4 (.early 5 (.early 6 (.load 3 (.load 7 (.early 8 .done)))))))))) (hC (sQ hN) hN))) hN))))) (sQ hN)))))))))))))))
def F5(w)(R:RT)(E):=
 opK pG E (xV (Instr.build 60 #[(0,(vI 7))])) w fun g i=>
 oP E (xV (Instr.buildSlice 23 1 #[(0,g)])) i fun j k=>
 oP E (xV (Instr.build 25 #[(1,j)])) k fun l m=>
 oP E (xCall (fC 6) [l]) m fun f n=>
 oP E (xT f 0) n fun o p=>
 oP E (xT f 1) p fun q r=>
 oP E (xV (Instr.alloc 30 true (.tuple #[]))) r fun b s=>
 oP E (sA 30 b o) s fun _ t=>
 oP E (bC .eql 31 10 q (vI 0)) t fun d u=>
 oP E (gYs d (fA 30 b 3)) u fun v y=>
 oP E (gYs d (lA 3 v)) y fun z aa=>
 oP E (gYs d (bC .eql 3 14 z (vI 2))) aa fun ab ac=>
 oP E (xPick d ab (vB false)) ac fun e ad=>
 oP E (gYs e (fA 30 b 4)) ad fun ae af=>
 oP E (gYs e (lA 3 ae)) af fun ag ah=>
 oP E (gYs e (bC .eql 3 19 ag (vI 1))) ah fun ai aj=>
 oP E (xPick e ai (vB false)) aj fun c ak=>
 oP E (gYs c (fA 30 b 5)) ak fun al am=>
 oP E (gYs c (lA 28 al)) am fun an ao=>
 oP E (gYs c (xBuiltin .len #[28] 3 [false] [an])) ao fun ap aq=>
 oP E (gYs c (bC .eql 3 25 ap (vI 1))) aq fun ar au=>
 oP E (xPick c ar (vB false)) au fun a av=>
 oP E (gYs a (fA 30 b 5)) av fun aw ax=>
 oP E (gYs a (lA 28 aw)) ax fun ay az=>
 oP E (gYs a (iA 28 ay (vI 0))) az fun ba bb=>
 oP E (gYs a (lA 40 ba)) bb fun bc bd=>
 oP E (gYs a (xV (Instr.build 38 #[(0,(vI (-1)))]))) bd fun be bf=>
 oP E (gYs a (xV (Instr.build 38 #[(0,(vI (-1)))]))) bf fun bg bh=>
 oP E (gYs a (xV (Instr.build 40 #[(1,(vI 1)),(2,(vI 1)),(3,(vI (-1))),(4,(vI (-1))),(6,be),(7,bg)]))) bh fun bi bj=>
 oP E (gYs a (bN .eql 40 32 35 bc bi)) bj fun bk bl=>
 oP E (xPick a bk (vB false)) bl fun bm bn=>
 R bm bn
def h5:Hint:=(sQ (sQ (sQ hN)))
theorem d2g(h:F5  w R E):Cv pG 5 #[] w R E:=okF (h:=h5) Tryz.func5 (by kernel_rfl) (by kernel_rfl) h
def c2H(x1 x2 x4 x8 w)(R:RT)(E):=
 ∀_τ:Fr,(oP E (xV (Instr.makeFunc (.func 24) #[x8] #[])) w fun l m=>
 dX m fun b=>
 qP pG (fA 25 x1 1) fun c=>
 qP pG (xNil x8) fun n=>
 qP pG (fA 68 n 0) fun o=>
 qP pG (fA 30 o 4) fun d=>
 qL pG b (blk c) (lA 23 c) fun p=>
 qL pG b (blk d) (lA 3 d) fun q=>
 oP E (xCall l [p,(vI 0),q]) b fun _t84_47 e=>
 keepX [] b e (opK pG E (xBuiltin .len #[27] 3 [false] [x4]) e fun r s=>
 oP E (xNil x8) s fun t u=>
 oP E (fA 68 t 0) u fun v y=>
 oP E (fA 30 v 1) y fun z aa=>
 oP E (lA 3 z) aa fun ab ac=>
 oP E (bN .add 3 87 92 r ab) ac fun ad ae=>
 oP E (bC .gtr 3 93 ad (vI 64)) ae fun af f=>
 xcond af
 (oP E (xV (Instr.build 30 #[])) f fun ag ah=>
 oP E (sA 30 x2 ag) ah fun _ g=>
 xcell pG 30 x2 g fun ai=>
 R (Value.tuple #[ai,(vI 90)]) g)
 (oP E (xNil x8) f fun aj ak=>
 oP E (fA 68 aj 0) ak fun al am=>
 oP E (fA 30 al 3) am fun an ao=>
 oP E (lA 3 an) ao fun ap aq=>
 oP E (bC .gtr 3 101 ap (vI 4096)) aq fun a ar=>
 oP E (gNo a (xNil (zF a x8))) ar fun au av=>
 oP E (gNo a (fA 68 au 0)) av fun aw ax=>
 oP E (gNo a (fA 30 aw 5)) ax fun ay az=>
 oP E (gNo a (lA 28 ay)) az fun ba bb=>
 oP E (gNo a (xBuiltin .len #[28] 3 [false] [ba])) bb fun bc bd=>
 oP E (gNo a (bC .gtr 3 109 bc (vI 8192))) bd fun be bf=>
 oP E (xPick a (vB true) be) bf fun bg i=>
 xcond bg
 (oP E (xV (Instr.build 30 #[])) i fun bh bi=>
 oP E (sA 30 x2 bh) bi fun _ j=>
 xcell pG 30 x2 j fun bj=>
 R (Value.tuple #[bj,(vI 91)]) j)
 (oP E (xNil x8) i fun bk bl=>
 oP E (fA 68 bk 0) bl fun bm bn=>
 oP E (lA 30 bm) bn fun bo bp=>
 oP E (sA 30 x2 bo) bp fun _ k=>
 xcell pG 30 x2 k fun bq=>
 R (Value.tuple #[bq,(vI 0)]) k))))
def c2I(x1 x2 x4 x8 w)(R:RT)(E):=
 ∀_τ:Fr,(xcut (fun _ b=>c2H x1 x2 x4 x8 b R E) fun j3=>
 oP E (fA 25 x1 1) w fun c d=>
 oP E (lA 23 c) d fun e f=>
 oP E (xBuiltin .len #[23] 3 [false] [e]) f fun g i=>
 oP E (bC .gtr 3 66 g (vI 0)) i fun j a=>
 xcond j
 (oP E (xCall (fC 23) [x8]) a fun k l=>
 oP E (xNil x8) l fun m n=>
 oP E (fA 68 m 0) n fun o p=>
 oP E (fA 30 o 4) p fun q r=>
 oP E (sA 3 q k) r fun _ s=>
 j3 [] s)
 (j3 [] a))
def c6z(_x1 _x2 _x4 x8 x49 x50 x51:Value)(w)(next4:NT)(j2:NT)(_R:RT)(E):=
 opK pG E (bN .lss 3 51 50 x51 x50) w fun g b=>
 xcond g
 (oP E (iA 22 x49 x51) b fun i j=>
 oP E (lA 70 i) j fun k l=>
 oP E (xV (Instr.alloc 70 true (.tuple #[]))) l fun c m=>
 oP E (sA 70 c k) m fun _ n=>
 dX n fun a=>
 qP pG (xNil x8) fun o=>
 qP pG (fA 68 o 2) fun d=>
 qP pG (fA 70 c 0) fun e=>
 qL pG a (blk d) (lA 66 d) fun p=>
 qL pG a (blk e) (lA 9 e) fun q=>
 oP E (xU (Instr.mapUpdate 66 p q x51)) a fun _ f=>
 keepX [] a f (opK pG E (bC .add 3 51 x51 (vI 1)) f fun r s=>
 next4 [r] s))
 (j2 [] b)
def c2J(x1 x2 x4 x6 x8 w)(R:RT)(E):=
 ∀_τ:Fr,(xcut (fun _ a=>c2I x1 x2 x4 x8 a R E) fun j2=>
 oP E (xBuiltin .len #[22] 3 [false] [x6]) w fun b c=>
 xloop [51] [(vI 0)] c fun d e next4=>
 c6z x1 x2 x4 x8 x6 b (d 51) e next4 j2 R E)
def c6A(_x1 _x2 _x4 _x6 x8 x35 x36 x37:Value)(w)(next5:NT)(j1:NT)(_R:RT)(E):=
 opK pG E (bN .lss 3 37 36 x37 x36) w fun b a=>
 xcond b
 (oP E (iA 27 x35 x37) a fun c d=>
 oP E (lA 9 c) d fun e f=>
 oP E (xNil x8) f fun g i=>
 oP E (fA 68 g 1) i fun j k=>
 oP E (lA 66 j) k fun l m=>
 oP E (xU (Instr.mapUpdate 66 l e x37)) m fun _ n=>
 oP E (bC .add 3 37 x37 (vI 1)) n fun o p=>
 next5 [o] p)
 (j1 [] a)
def F6(x0 w)(R:RT)(E):=
 opK pG E (xV (Instr.box 25 x0)) w fun b l=>
 oP E (xV (Instr.alloc 30 true (.tuple #[]))) l fun c m=>
 oP E (lA 25 b) m fun n o=>
 oP E (xCall (fC 21) [n]) o fun e p=>
 oP E (xT e 0) p fun a q=>
 oP E (xT e 1) q fun f r=>
 oP E (bC .neq 31 19 f (vI 0)) r fun s g=>
 xcond s
 (oP E (xV (Instr.build 30 #[])) g fun t u=>
 oP E (sA 30 c t) u fun _ i=>
 xcell pG 30 c i fun v=>
 R (Value.tuple #[v,f]) i)
 (oP E (lA 25 b) g fun y z=>
 oP E (xCall (fC 22) [y]) z fun j aa=>
 oP E (xT j 0) aa fun d ab=>
 oP E (xT j 1) ab fun _t27_26 ac=>
 oP E (xV (Instr.build 30 #[(0,a),(2,d),(3,(vI 1))])) ac fun ad ae=>
 oP E (xV (Instr.makeMap 66 none)) ae fun af ag=>
 oP E (xV (Instr.makeMap 66 none)) ag fun ah ai=>
 oP E (xV (Instr.build 68 #[(0,ad),(1,af),(2,ah)])) ai fun aj ak=>
 oP E (xV (Instr.box 68 aj)) ak fun k al=>
 xcut (fun _ am=>c2J b c a d k am R E) fun j1=>
 oP E (xBuiltin .len #[27] 3 [false] [a]) al fun an ao=>
 xloop [37] [(vI 0)] ao fun ap aq next5=>
 c6A b c a d k a an (ap 37) aq next5 j1 R E)
def h6:Hint:=(sQ (sQ (hS (sQ (hC (sQ hN) hN)) (sQ (sQ (hU [] (sQ (hB (hL [37] (sQ (hS (hC hN hN) (hS (hB (sQ hN)) hN)))))) (hU [] (sQ (hB (hL [51] (sQ (hS (hC hN hN) (hS (hB (sQ (.reg [(0,72057594037927936,256),(1,144115188075855872,72057594037927936),(2,288230376151711744,144115188075855872),(4,576460752303423488,288230376151711744),(0,1152921504606846976,4096),(16,2305843009213693952,1152921504606846976),(0,4611686018427387904,2048),(127,0,7493989779944505344)] [40,40,40,32,40,8,40,0] (.early 0 (.early 1 (.early 2 (.early 4 (.early 6 (.load 3 (.load 5 (.step 7 .done))))))))))) hN)))))) (hU [] (sQ (hC hN hN)) (sQ (hS (.reg [(0,75557863725914323419136,8192),(0,151115727451828646838272,2),(2,302231454903657293676544,151115727451828646838272),(0,604462909807314587353088,256),(8,1208925819614629174706176,604462909807314587353088),(16,2417851639229258349412352,1208925819614629174706176),(32,4835703278458516698824704,2417851639229258349412352),(64,9671406556917033397649408,4835703278458516698824704),(133,19342813113834066795298816,10049195875546605014745088)] [132,132,128,132,132,132,132,4,0] (.early 0 (.early 1 (.early 3 (.early 4 (.early 5 (.early 6 (.load 2 (.load 7 (.step 8 .done)))))))))) (hS (hB (sQ (hC (sQ hN) (sQ (hC (sQ hN) hN))))) (sQ hN))))))))))))
theorem d2h{x0:Value}(h:F6 x0 w R E):Cv pG 6 #[x0] w R E:=okF (h:=h6) Tryz.func6 (by kernel_rfl) (by kernel_rfl) h
def c2K(x1 x2 x6 w)(R:RT)(E):=
 ∀_τ:Fr,(dX w fun a=>
 qP pG (xNil x6) fun i=>
 qP pG (fA 77 i 0) fun j=>
 qP pG (fA 30 j 0) fun b=>
 qL pG a (blk b) (lA 27 b) fun k=>
 qP pG (xBuiltin .len #[27] 3 [false] [k]) fun l=>
 qL pG a (blk x1) (lA 25 x1) fun m=>
 oP E (xCall (fC 30) [m]) a fun n c=>
 keepX [(blk b)] a c (qP pG (bN .add 3 51 53 l n) fun o=>
 qP pG (bC .gtr 3 54 o (vI 64)) fun p=>
 xcond p
 (oP E (xV (Instr.build 30 #[])) c fun q r=>
 oP E (sA 30 x2 q) r fun _ d=>
 xcell pG 30 x2 d fun s=>
 R (Value.tuple #[s,(vI 90)]) d)
 (oP E (xNil x6) c fun t u=>
 oP E (fA 77 t 1) u fun v y=>
 oP E (lA 4 v) y fun z e=>
 xcond z
 (oP E (xV (Instr.build 30 #[])) e fun aa ab=>
 oP E (sA 30 x2 aa) ab fun _ f=>
 xcell pG 30 x2 f fun ac=>
 R (Value.tuple #[ac,(vI 91)]) f)
 (oP E (xNil x6) e fun ad ae=>
 oP E (fA 77 ad 0) ae fun af ag=>
 oP E (lA 30 af) ag fun ah ai=>
 oP E (sA 30 x2 ah) ai fun _ g=>
 xcell pG 30 x2 g fun aj=>
 R (Value.tuple #[aj,(vI 0)]) g))))
def F7(x0 w)(R:RT)(E):=
 opK pG E (xV (Instr.box 25 x0)) w fun b j=>
 oP E (xV (Instr.alloc 30 true (.tuple #[]))) j fun c k=>
 oP E (lA 25 b) k fun l m=>
 oP E (xCall (fC 25) [l]) m fun d n=>
 oP E (xT d 0) n fun _t10_9 o=>
 oP E (xT d 1) o fun e p=>
 oP E (bC .neq 3 12 e (vI 0)) p fun q f=>
 xcond q
 (oP E (xV (Instr.build 30 #[])) f fun r s=>
 oP E (sA 30 c r) s fun _ g=>
 xcell pG 30 c g fun t=>
 R (Value.tuple #[t,e]) g)
 (oP E (xV (Instr.build 77 #[])) f fun u v=>
 oP E (xV (Instr.box 77 u)) v fun a y=>
 oP E (lA 25 b) y fun z aa=>
 oP E (xCall (fC 26) [z]) aa fun ab ac=>
 oP E (xNil a) ac fun ad ae=>
 oP E (fA 77 ad 0) ae fun af ag=>
 oP E (fA 30 af 0) ag fun ah ai=>
 oP E (sA 27 ah ab) ai fun _ aj=>
 oP E (lA 25 b) aj fun ak al=>
 oP E (xCall (fC 27) [ak]) al fun am an=>
 oP E (xNil a) an fun ao ap=>
 oP E (fA 77 ao 0) ap fun aq ar=>
 oP E (fA 30 aq 2) ar fun au av=>
 oP E (sA 22 au am) av fun _ aw=>
 oP E (xCall (fC 28) [a]) aw fun _t31_48 ax=>
 xcut (fun _ ay=>c2K b c a ay R E) fun j1=>
 oP E (fA 25 b 1) ax fun az ba=>
 oP E (lA 23 az) ba fun bb bc=>
 oP E (xBuiltin .len #[23] 3 [false] [bb]) bc fun bd be=>
 oP E (bC .gtr 3 34 bd (vI 0)) be fun bf i=>
 xcond bf
 (oP E (xCall (fC 28) [a]) i fun bg bh=>
 oP E (xNil a) bh fun bi bj=>
 oP E (fA 77 bi 0) bj fun bk bl=>
 oP E (fA 30 bk 4) bl fun bm bn=>
 oP E (sA 3 bm bg) bn fun _ bo=>
 oP E (fA 25 b 1) bo fun bp bq=>
 oP E (lA 23 bp) bq fun br bs=>
 oP E (xCall (fC 29) [a,br,(vI 0),(vI 1)]) bs fun _t45_110 bt=>
 j1 [] bt)
 (j1 [] i))
def h7:Hint:=(sQ (sQ (hS (sQ (hC (sQ hN) hN)) (sQ (sQ (sQ (sQ (hU [] (sQ (hC (sQ hN) hN)) (hS (hS (.reg [(0,70368744177664,64),(1,140737488355328,70368744177664),(2,281474976710656,140737488355328),(4,562949953421312,281474976710656),(8,1125899906842624,562949953421312),(16,2251799813685248,1125899906842624),(0,4503599627370496,2),(64,9007199254740992,4503599627370496),(160,18014398509481984,11258999068426240),(256,36028797018963968,18014398509481984)] [80,80,80,80,64,80,16,16,80,80] (.early 0 (.early 1 (.early 2 (.early 3 (.load 4 (.early 5 (.load 6 (.step 7 (.early 8 (.early 9 .done))))))))))) (hC (sQ hN) hN)) (hS (sQ (hC (sQ hN) hN)) (sQ hN)))))))))))
theorem d2i{x0:Value}(h:F7 x0 w R E):Cv pG 7 #[x0] w R E:=okF (h:=h7) Tryz.func7 (by kernel_rfl) (by kernel_rfl) h
def c2L(w)(R:RT)(_E:Pan):=
 ∀_τ:Fr,(R (vB true) w)
def c6B(x2 x3 x5 w)(next2:NT)(j1:NT)(R:RT)(E):=
 opK pG E (fA 30 x2 5) w fun g i=>
 oP E (lA 28 g) i fun j k=>
 oP E (xBuiltin .len #[28] 3 [false] [j]) k fun l m=>
 oP E (bN .lss 3 50 53 x5 l) m fun n b=>
 xcond n
 (dX b fun a=>
 qP pG (fA 30 x2 5) fun c=>
 qP pG (fA 30 x3 5) fun d=>
 qL pG a (blk c) (lA 28 c) fun o=>
 qP pG (iA 28 o x5) fun e=>
 qL pG a (blk e) (lA 40 e) fun p=>
 qL pG a (blk d) (lA 28 d) fun q=>
 qP pG (iA 28 q x5) fun f=>
 qL pG a (blk f) (lA 40 f) fun r=>
 qP pG (bN .neq 40 61 66 p r) fun s=>
 xcond s
 (R (vB false) a)
 (oP E (bC .add 3 55 x5 (vI 1)) a fun t u=>
 next2 [t] u))
 (j1 [] b)
def F8(x0 x1 w)(R:RT)(E):=
 opK pG E (xV (Instr.box 30 x0)) w fun b j=>
 oP E (xV (Instr.box 30 x1)) j fun c k=>
 oP E (fA 30 b 0) k fun l m=>
 oP E (lA 27 l) m fun n o=>
 oP E (fA 30 c 0) o fun p q=>
 oP E (lA 27 p) q fun r s=>
 oP E (xCall (fC 31) [n,r]) s fun t u=>
 oP E (xV (Op.unary .not t)) u fun e v=>
 oP E (gNo e (fA 30 b 1)) v fun y z=>
 oP E (gNo e (lA 3 y)) z fun aa ab=>
 oP E (gNo e (fA 30 c 1)) ab fun ac ad=>
 oP E (gNo e (lA 3 ac)) ad fun ae af=>
 oP E (gNo e (bN .neq 3 14 16 aa ae)) af fun ag ah=>
 oP E (xPick e (vB true) ag) ah fun d ai=>
 oP E (gNo d (fA 30 b 2)) ai fun aj ak=>
 oP E (gNo d (lA 22 aj)) ak fun al am=>
 oP E (gNo d (fA 30 c 2)) am fun an ao=>
 oP E (gNo d (lA 22 an)) ao fun ap aq=>
 oP E (gNo d (xCall (fC 32) [al,ap])) aq fun ar au=>
 oP E (gNo d (xV (Op.unary .not ar))) au fun av aw=>
 oP E (xPick d (vB true) av) aw fun f ax=>
 oP E (gNo f (fA 30 b 3)) ax fun ay az=>
 oP E (gNo f (lA 3 ay)) az fun ba bb=>
 oP E (gNo f (fA 30 c 3)) bb fun bc bd=>
 oP E (gNo f (lA 3 bc)) bd fun be bf=>
 oP E (gNo f (bN .neq 3 29 31 ba be)) bf fun bg bh=>
 oP E (xPick f (vB true) bg) bh fun g bi=>
 oP E (gNo g (fA 30 b 4)) bi fun bj bk=>
 oP E (gNo g (lA 3 bj)) bk fun bl bm=>
 oP E (gNo g (fA 30 c 4)) bm fun bn bo=>
 oP E (gNo g (lA 3 bn)) bo fun bp bq=>
 oP E (gNo g (bN .neq 3 36 38 bl bp)) bq fun br bs=>
 oP E (xPick g (vB true) br) bs fun a bt=>
 oP E (gNo a (fA 30 b 5)) bt fun bu bv=>
 oP E (gNo a (lA 28 bu)) bv fun bw bz=>
 oP E (gNo a (xBuiltin .len #[28] 3 [false] [bw])) bz fun ca cb=>
 oP E (gNo a (fA 30 c 5)) cb fun cc cd=>
 oP E (gNo a (lA 28 cc)) cd fun ce cf=>
 oP E (gNo a (xBuiltin .len #[28] 3 [false] [ce])) cf fun cg ch=>
 oP E (gNo a (bN .neq 3 44 47 ca cg)) ch fun ci cj=>
 oP E (xPick a (vB true) ci) cj fun ck i=>
 xcond ck
 (R (vB false) i)
 (xcut (fun _ cl=>c2L cl R E) fun j1=>
 xloop [5] [(vI 0)] i fun cm cn next2=>
 c6B b c (cm 5) cn next2 j1 R E)
def h8:Hint:=(sQ (hS (sQ (hC (sQ hN) hN)) (hU [] (sQ (hB (hL [5] (hS (sQ (hC hN hN)) (hS (hB (hS (.reg [(0,144115188075855872,4),(1,288230376151711744,144115188075855872),(0,576460752303423488,32),(6,1152921504606846976,864691128455135232),(8,2305843009213693952,1152921504606846976),(0,4611686018427387904,8),(32,9223372036854775808,4611686018427387904),(0,18446744073709551616,32),(192,36893488147419103232,27670116110564327424),(256,73786976294838206464,36893488147419103232),(528,147573952589676412928,76092819304051900416)] [594,592,594,594,578,594,530,594,594,82,594] (.early 0 (.early 2 (.early 5 (.early 7 (.load 1 (.early 3 (.load 4 (.load 6 (.early 8 (.load 9 (.early 10 .done)))))))))))) (hC (sQ hN) hN))) hN))))) (sQ hN))))
theorem d2j{x0 x1:Value}(h:F8 x0 x1 w R E):Cv pG 8 #[x0,x1] w R E:=okF (h:=h8) Tryz.func8 (by kernel_rfl) (by kernel_rfl) h
def d2k(w)(R:RT)(_E:Pan):=
 ∀_τ:Fr,(R (vI 0) w)
def d2l(x1 x4 x7 w)(next4:NT)(j3:NT)(R:RT)(E):=
 opK pG E (fA 30 x1 3) w fun e f=>
 oP E (lA 3 e) f fun g i=>
 oP E (bN .lss 3 146 148 x7 g) i fun j c=>
 xcond j
 (dX c fun a=>
 qP pG (iA 83 x4 x7) fun d=>
 qL pG a (blk x1) (lA 30 x1) fun k=>
 qL pG a (blk d) (lA 44 d) fun l=>
 oP E (xCall (fC 35) [k,l]) a fun m b=>
 keepX [] a b (qP pG (xV (Op.unary .not m)) fun n=>
 xcond n
 (R (vI 92) b)
 (oP E (bC .add 3 150 x7 (vI 1)) b fun o p=>
 next4 [o] p)))
 (j3 [] c)
def d2m(x1 x4 w)(R:RT)(E):=
 ∀_τ:Fr,(xcut (fun _ a=>d2k a R E) fun j3=>
 xloop [7] [(vI 0)] w fun b c next4=>
 d2l x1 x4 (b 7) c next4 j3 R E)
def d2n(x1 x4 x5 w)(next5:NT)(j2:NT)(R:RT)(E):=
 opK pG E (fA 30 x1 5) w fun ad ae=>
 oP E (lA 28 ad) ae fun af ag=>
 oP E (xBuiltin .len #[28] 3 [false] [af]) ag fun ah ai=>
 oP E (bN .lss 3 83 86 x5 ah) ai fun aj r=>
 xcond aj
 (oP E (fA 30 x1 5) r fun ak al=>
 oP E (lA 28 ak) al fun am an=>
 oP E (iA 28 am x5) an fun ao ap=>
 oP E (lA 40 ao) ap fun aq ar=>
 oP E (xV (Instr.alloc 40 true (.tuple #[]))) ar fun b au=>
 oP E (sA 40 b aq) au fun _ av=>
 dX av fun a=>
 qP pG (fA 40 b 0) fun s=>
 qL pG a (blk s) (lA 3 s) fun aw=>
 qP pG (bC .lss 3 96 aw (vI 0)) fun d=>
 qP pG (gNo d (fA 40 b 0)) fun t=>
 qP pG (gNo d (fA 30 x1 3)) fun u=>
 qL pG a (blk t) (gNo d (lA 3 t)) fun ax=>
 qL pG a (blk u) (gNo d (lA 3 u)) fun ay=>
 qP pG (gNo d (bN .geq 3 100 102 ax ay)) fun az=>
 qP pG (xPick d (vB true) az) fun i=>
 qP pG (gNo i (fA 40 b 1)) fun v=>
 qL pG a (blk v) (gNo i (lA 3 v)) fun ba=>
 qP pG (gNo i (bC .lss 3 107 ba (vI 0))) fun bb=>
 qP pG (xPick i (vB true) bb) fun e=>
 qP pG (gNo e (fA 40 b 1)) fun y=>
 qP pG (gNo e (fA 30 x1 3)) fun z=>
 qL pG a (blk y) (gNo e (lA 3 y)) fun bc=>
 qL pG a (blk z) (gNo e (lA 3 z)) fun bd=>
 qP pG (gNo e (bN .geq 3 112 114 bc bd)) fun be=>
 qP pG (xPick e (vB true) be) fun f=>
 qP pG (gNo f (fA 40 b 0)) fun aa=>
 qP pG (gNo f (fA 30 x1 4)) fun ab=>
 qL pG a (blk aa) (gNo f (lA 3 aa)) fun bf=>
 qL pG a (blk ab) (gNo f (lA 3 ab)) fun bg=>
 qP pG (gNo f (bN .eql 3 119 121 bf bg)) fun bh=>
 qP pG (xPick f (vB true) bh) fun c=>
 qP pG (gNo c (fA 30 x1 2)) fun k=>
 qL pG a (blk b) (gNo c (lA 40 b)) fun bi=>
 qL pG a (blk x1) (gNo c (lA 30 x1)) fun bj=>
 qL pG a (blk k) (gNo c (lA 22 k)) fun bk=>
 qP pG (gNo c (xBuiltin .len #[22] 3 [false] [bk])) fun bl=>
 oP E (gNo c (xCall (fC 33) [bj])) a fun bm l=>
 keepX [(blk k),(blk b)] a l (opK pG E (gNo c (xCall (fC 34) [bi,bm,bl])) l fun bn m=>
 keepX [] l m (qP pG (gNo c (xV (Op.unary .not bn))) fun bo=>
 qP pG (xPick c (vB true) bo) fun bp=>
 xcond bp
 (R (vI 92) m)
 (dX m fun g=>
 qP pG (fA 40 b 0) fun j=>
 qP pG (fA 40 b 0) fun n=>
 qL pG g (blk j) (lA 3 j) fun bq=>
 qL pG g (blk n) (lA 3 n) fun br=>
 qP pG (iA 83 x4 br) fun o=>
 qL pG g (blk o) (lA 44 o) fun bs=>
 oP E (xV (Instr.buildSlice 44 1 #[(0,x5)])) g fun bt p=>
 keepX [(blk o),(blk n),(blk j)] g p (opK pG E (xBuiltin .append #[44,44] 44 [false,false] [bs,bt]) p fun bu q=>
 keepX [(blk j)] p q (qP pG (iA 83 x4 bq) fun bv=>
 oP E (sA 44 bv bu) q fun _ ac=>
 keepX [] q ac (opK pG E (bC .add 3 88 x5 (vI 1)) ac fun bw bz=>
 next5 [bw] bz)))))))
 (j2 [] r)
def d2o(x1 w)(R:RT)(E):=
 ∀_τ:Fr,(oP E (fA 30 x1 3) w fun c d=>
 oP E (lA 3 c) d fun a e=>
 oP E (xV (Instr.makeSlice 83 a a)) e fun b f=>
 xcut (fun _ g=>d2m x1 b g R E) fun j2=>
 xloop [5] [(vI 0)] f fun i j next5=>
 d2n x1 b (i 5) j next5 j2 R E)
def d2p(x1 x3 w)(next6:NT)(j1:NT)(R:RT)(E):=
 opK pG E (fA 30 x1 2) w fun d e=>
 oP E (lA 22 d) e fun f g=>
 oP E (xBuiltin .len #[22] 3 [false] [f]) g fun i j=>
 oP E (bN .lss 3 57 60 x3 i) j fun k b=>
 xcond k
 (oP E (fA 30 x1 2) b fun l m=>
 oP E (lA 22 l) m fun n o=>
 oP E (iA 22 n x3) o fun p q=>
 oP E (fA 70 p 1) q fun r s=>
 oP E (lA 3 r) s fun t u=>
 oP E (bC .lss 3 69 t (vI 1)) u fun a v=>
 oP E (gNo a (fA 30 x1 2)) v fun y z=>
 oP E (gNo a (lA 22 y)) z fun aa ab=>
 oP E (gNo a (iA 22 aa (zF a x3))) ab fun ac ad=>
 oP E (gNo a (fA 70 ac 1)) ad fun ae af=>
 oP E (gNo a (lA 3 ae)) af fun ag ah=>
 oP E (gNo a (bC .gtr 3 77 ag (vI 1024))) ah fun ai aj=>
 oP E (xPick a (vB true) ai) aj fun ak c=>
 xcond ak
 (R (vI 92) c)
 (oP E (bC .add 3 62 x3 (vI 1)) c fun al am=>
 next6 [al] am))
 (j1 [] b)
def F9(x0 w)(R:RT)(E):=
 opK pG E (xV (Instr.box 30 x0)) w fun a m=>
 oP E (fA 30 a 1) m fun n o=>
 oP E (lA 3 n) o fun p q=>
 oP E (bC .lss 3 9 p (vI 0)) q fun e r=>
 oP E (gNo e (fA 30 a 1)) r fun s t=>
 oP E (gNo e (lA 3 s)) t fun u v=>
 oP E (gNo e (bC .gtr 3 13 u (vI 64))) v fun y z=>
 oP E (xPick e (vB true) y) z fun c aa=>
 oP E (gNo c (fA 30 a 0)) aa fun ab ac=>
 oP E (gNo c (lA 27 ab)) ac fun ad ae=>
 oP E (gNo c (xBuiltin .len #[27] 3 [false] [ad])) ae fun af ag=>
 oP E (gNo c (bC .gtr 3 19 af (vI 64))) ag fun ah ai=>
 oP E (xPick c (vB true) ah) ai fun f aj=>
 oP E (gNo f (lA 30 a)) aj fun ak al=>
 oP E (gNo f (xCall (fC 33) [ak])) al fun am an=>
 oP E (gNo f (bC .gtr 3 24 am (vI 64))) an fun ao ap=>
 oP E (xPick f (vB true) ao) ap fun aq j=>
 xcond aq
 (R (vI 90) j)
 (oP E (fA 30 a 3) j fun ar au=>
 oP E (lA 3 ar) au fun av aw=>
 oP E (bC .lss 3 28 av (vI 1)) aw fun g ax=>
 oP E (gNo g (fA 30 a 3)) ax fun ay az=>
 oP E (gNo g (lA 3 ay)) az fun ba bb=>
 oP E (gNo g (bC .gtr 3 32 ba (vI 4096))) bb fun bc bd=>
 oP E (xPick g (vB true) bc) bd fun d be=>
 oP E (gNo d (fA 30 a 5)) be fun bf bg=>
 oP E (gNo d (lA 28 bf)) bg fun bh bi=>
 oP E (gNo d (xBuiltin .len #[28] 3 [false] [bh])) bi fun bj bk=>
 oP E (gNo d (bC .gtr 3 38 bj (vI 8192))) bk fun bl bm=>
 oP E (xPick d (vB true) bl) bm fun bn k=>
 xcond bn
 (R (vI 91) k)
 (oP E (fA 30 a 2) k fun bo bp=>
 oP E (lA 22 bo) bp fun bq br=>
 oP E (xBuiltin .len #[22] 3 [false] [bq]) br fun bs bt=>
 oP E (bC .gtr 3 43 bs (vI 16)) bt fun i bu=>
 oP E (gNo i (fA 30 a 4)) bu fun bv bw=>
 oP E (gNo i (lA 3 bv)) bw fun bz ca=>
 oP E (gNo i (bC .lss 3 47 bz (vI 0))) ca fun cb cc=>
 oP E (xPick i (vB true) cb) cc fun b cd=>
 oP E (gNo b (fA 30 a 4)) cd fun ce cf=>
 oP E (gNo b (lA 3 ce)) cf fun cg ch=>
 oP E (gNo b (fA 30 a 3)) ch fun ci cj=>
 oP E (gNo b (lA 3 ci)) cj fun ck cl=>
 oP E (gNo b (bN .geq 3 52 54 cg ck)) cl fun cm cn=>
 oP E (xPick b (vB true) cm) cn fun co l=>
 xcond co
 (R (vI 92) l)
 (xcut (fun _ cp=>d2o a cp R E) fun j1=>
 xloop [3] [(vI 0)] l fun cq cr next6=>
 d2p a (cq 3) cr next6 j1 R E)))
def h9:Hint:=(sQ (hS (sQ (hC (sQ hN) hN)) (hS (sQ (hC (sQ hN) hN)) (hS (sQ (hC (sQ hN) hN)) (hU [] (sQ (hB (hL [3] (hS (sQ (hC hN hN)) (hS (hB (sQ (hC (sQ hN) hN))) hN))))) (sQ (hU [] (sQ (hB (hL [5] (hS (sQ (hC hN hN)) (hS (hB (sQ (hS (hS (.reg [(0,39614081257132168796771975168,64),(1,79228162514264337593543950336,39614081257132168796771975168),(2,158456325028528675187087900672,79228162514264337593543950336),(4,316912650057057350374175801344,158456325028528675187087900672),(8,633825300114114700748351602688,316912650057057350374175801408),(24,1267650600228229401496703205376,950737950171172051122527404032),(8,2535301200456458802993406410752,316912650057057350374175801346),(72,5070602400912917605986812821504,2852213850513516153367582212096),(168,10141204801825835211973625643008,6655165651198204357857691828224),(264,20282409603651670423947251286016,10458117451882892562347801444352),(520,40564819207303340847894502572032,20282409603651670423947251286016),(1024,81129638414606681695789005144064,40564819207303340847894502572096),(3072,162259276829213363391578010288128,121694457621910022543683507716096),(5120,324518553658426726783156020576256,202824096036516704239472512860160),(9216,649037107316853453566312041152512,365083372865730067631050523148288),(17408,1298074214633706907132624082305024,649037107316853453566312041152512),(32768,2596148429267413814265248164610048,1298074214633706907132624082305088),(98304,5192296858534827628530496329220096,3894222643901120721397872246915072),(32768,10384593717069655257060992658440192,1298074214633706907132624082305026),(294912,20769187434139310514121985316880384,11682667931703362164193616740745216),(688128,41538374868278621028243970633760768,27259558507307845049785105728405504),(1081344,83076749736557242056487941267521536,42836449082912327935376594716065792),(2129920,166153499473114484112975882535043072,83076749736557242056487941267521536),(4194304,332306998946228968225951765070086144,166153499473114484112975882535043136),(12582912,664613997892457936451903530140172288,498460498419343452338927647605129216),(4194304,1329227995784915872903807060280344576,166153499473114484112975882535043074),(37748736,2658455991569831745807614120560689152,1495381495258030357016782942815387648),(88080384,5316911983139663491615228241121378304,3489223488935404166372493533235904512),(138412032,10633823966279326983230456482242756608,5483065482612777975728204123656421376),(272629760,21267647932558653966460912964485513216,10633823966279326983230456482242756608),(536870912,42535295865117307932921825928971026432,21267647932558653966460912964485513280),(536870912,85070591730234615865843651857942052864,21267647932558653966460912964485513218),(2684354560,170141183460469231731687303715884105728,106338239662793269832304564822427566080),(536870912,340282366920938463463374607431768211456,21267647932558653966460912964485513218),(9126805504,680564733841876926926749214863536422912,361550014853497117429835520396253724672),(17716740096,1361129467683753853853498429727072845824,701832381774435580893210127828021936128),(40265318400,2722258935367507707706996859454145691648,1595073594941899047484568472336413491200),(69256347648,5444517870735015415413993718908291383296,2743526583300066361673457772418631204864),(137975824384,10889035741470030830827987437816582766592,5465785518667574069380454631872776896512)] [20485640354,20485640352,20485640354,20485640354,20485640354,20485640322,20485640354,20485640226,20485640354,20485640354,20485640354,20485640354,20485636258,20485640354,20485640354,20485640354,20485640354,20485509282,20485640354,20485116066,20485640354,20485640354,20485640354,20485640354,20468863138,20485640354,20418531490,20485640354,20485640354,20485640354,19411898530,18338156706,18253611008,20485640354,3305771170,20485640354,0,20485640354,20485640354] (.early 0 (.load 1 (.early 2 (.early 3 (.early 4 (.early 6 (.load 5 (.load 7 (.early 8 (.early 9 (.early 10 (.early 11 (.load 12 (.early 13 (.early 14 (.early 15 (.early 16 (.early 18 (.load 17 (.load 19 (.early 20 (.early 21 (.early 22 (.early 23 (.early 25 (.load 24 (.load 26 (.early 27 (.early 28 (.early 29 (.early 33 (.load 30 (.load 31 (.load 34 (.early 35 (.step 32 (.step 36 (.early 37 (.early 38 .done)))))))))))))))))))))))))))))))))))))))) (hC (sQ hN) hN)) (.reg [(0,21778071482940061661655974875633165533184,16),(0,43556142965880123323311949751266331066368,64),(2,87112285931760246646623899502532662132736,43556142965880123323311949751266331066368),(0,174224571863520493293247799005065324265472,16),(0,348449143727040986586495598010130648530944,64),(16,696898287454081973172991196020261297061888,348449143727040986586495598010130648530944),(40,1393796574908163946345982392040522594123776,871122859317602466466238995025326621327360),(64,2787593149816327892691964784081045188247552,1393796574908163946345982392040522594123776),(0,5575186299632655785383929568162090376495104,32),(256,11150372599265311570767859136324180752990208,5575186299632655785383929568162090376495104),(640,22300745198530623141535718272648361505980416,13937965749081639463459823920405225941237760),(2047,44601490397061246283071436545296723011960832,108890357414700308308279874378165827665920),(4095,0,66902235595591869424607154817945084517941248)] [164,164,160,164,164,132,164,36,164,164,4,164,0] (.early 0 (.early 1 (.early 3 (.early 4 (.early 8 (.load 2 (.load 5 (.early 6 (.load 7 (.step 9 (.step 10 (.early 11 (.step 12 .done))))))))))))))))) hN))))) (hU [] (sQ (hB (hL [7] (hS (sQ (hC hN hN)) (hS (hB (hS (.reg [(0,5708990770823839524233143877797980545530986496,2),(0,11417981541647679048466287755595961091061972992,16),(0,22835963083295358096932575511191922182123945984,128),(6,45671926166590716193865151022383844364247891968,34253944624943037145398863266787883273185918976),(8,91343852333181432387730302044767688728495783936,45671926166590716193865151022383844364247891968),(17,182687704666362864775460604089535377456991567872,97052843104005271911963445922565669274026770432),(32,365375409332725729550921208179070754913983135744,182687704666362864775460604089535377456991567872)] [16,17,17,17,1,0,17] (.early 1 (.early 2 (.early 3 (.load 0 (.load 4 (.step 5 (.early 6 .done)))))))) (hC (sQ hN) hN))) hN))))) (sQ hN)))))))))
def b9r(x5 x6 w)(R:RT)(_E:Pan):=
 ∀_τ:Fr,(R (Value.tuple #[x6,x5]) w)
def c3Y(_x5 x6 x14 x15 x16:Value)(w)(next2:NT)(j1:NT)(_R:RT)(E):=
 opK pG E (bN .lss 3 16 15 x16 x15) w fun c a=>
 xcond c
 (oP E (iA 22 x14 x16) a fun d e=>
 oP E (lA 70 d) e fun f g=>
 oP E (xV (Instr.alloc 70 true (.tuple #[]))) g fun b i=>
 oP E (sA 70 b f) i fun _ j=>
 oP E (fA 70 b 0) j fun k l=>
 oP E (lA 9 k) l fun m n=>
 oP E (xV (Instr.buildSlice 27 1 #[(0,m)])) n fun o p=>
 oP E (xBuiltin .append #[27,27] 27 [false,false] [x6,o]) p fun q r=>
 oP E (bC .add 3 16 x16 (vI 1)) r fun s t=>
 next2 [q,s] t)
 (j1 [x6] a)
def F21(x0 w)(R:RT)(E):=
 opK pG E (xV (Instr.box 25 x0)) w fun e f=>
 oP E (lA 25 e) f fun g i=>
 oP E (xCall (fC 44) [g,(vI 1)]) i fun a j=>
 oP E (xT a 0) j fun b k=>
 oP E (xT a 1) k fun c l=>
 xcut (fun m n=>b9r c (nth m 0) n R E) fun j1=>
 oP E (xBuiltin .len #[22] 3 [false] [b]) l fun o p=>
 xloop [6,16] [(nS),(vI 0)] p fun d q next2=>
 c3Y c (d 6) b o (d 16) q next2 j1 R E
def h21:Hint:=(sQ (sQ (sQ (hU [6] (sQ (hB (hL [6,16] (sQ (hS (hC hN hN) (hS (hB (sQ hN)) hN)))))) (sQ hN)))))
theorem c9p{x0:Value}(h:F21 x0 w R E):Cv pG 21 #[x0] w R E:=okF (h:=h21) Tryz.func21 (by kernel_rfl) (by kernel_rfl) h
def F22(x0 w)(R:RT)(E):=
 opK pG E (xV (Instr.box 25 x0)) w fun b c=>
 oP E (lA 25 b) c fun d e=>
 oP E (xCall (fC 44) [d,(vI 2)]) e fun a f=>
 oP E (xT a 0) f fun g i=>
 oP E (xT a 1) i fun j k=>
 R (Value.tuple #[g,j]) k
def h22:Hint:=(sQ (sQ hN))
theorem c9q{x0:Value}(h:F22 x0 w R E):Cv pG 22 #[x0] w R E:=okF (h:=h22) Tryz.func22 (by kernel_rfl) (by kernel_rfl) h
def F23(x0 w)(R:RT)(E):=
 opK pG E (xNil x0) w fun a b=>
 oP E (fA 68 a 0) b fun c d=>
 oP E (fA 30 c 3) d fun e f=>
 oP E (lA 3 e) f fun g i=>
 oP E (bC .add 3 7 g (vI 1)) i fun j k=>
 oP E (xNil x0) k fun l m=>
 oP E (fA 68 l 0) m fun n o=>
 oP E (fA 30 n 3) o fun p q=>
 oP E (sA 3 p j) q fun _ r=>
 oP E (xNil x0) r fun s t=>
 oP E (fA 68 s 0) t fun u v=>
 oP E (fA 30 u 3) v fun y z=>
 oP E (lA 3 y) z fun aa ab=>
 oP E (bC .sub 3 16 aa (vI 1)) ab fun ac ad=>
 R ac ad
def h23:Hint:=(sQ (sQ (sQ hN)))
theorem c9r{x0:Value}(h:F23 x0 w R E):Cv pG 23 #[x0] w R E:=okF (h:=h23) Tryz.func23 (by kernel_rfl) (by kernel_rfl) h
def c3Z(x0 x8 x31 x32 x33 w)(next2:NT)(R:RT)(E):=
 opK pG E (bN .lss 3 33 32 x33 x32) w fun g c=>
 xcond g
 (oP E (iA 23 x31 x33) c fun i j=>
 oP E (lA 60 i) j fun k l=>
 oP E (xV (Instr.alloc 60 true (.tuple #[]))) l fun b m=>
 oP E (sA 60 b k) m fun _ n=>
 dX n fun a=>
 qP pG (iA 44 x8 x33) fun d=>
 qP pG (bC .add 3 45 x33 (vI 1)) fun o=>
 qP pG (iA 44 x8 o) fun e=>
 qL pG a (blk b) (lA 60 b) fun p=>
 qL pG a (blk d) (lA 3 d) fun q=>
 qL pG a (blk e) (lA 3 e) fun r=>
 oP E (xCall (fC 45) [x0,p,q,r]) a fun _t49_30 f=>
 keepX [] a f (opK pG E (bC .add 3 33 x33 (vI 1)) f fun s t=>
 next2 [s] t))
 (R (Value.tuple #[]) c)
def b9s(x0 x1 x3 x8 w)(R:RT)(E):=
 ∀_τ:Fr,(oP E (xV (Instr.buildSlice 44 1 #[(0,x3)])) w fun a b=>
 oP E (xBuiltin .append #[44,44] 44 [false,false] [x8,a]) b fun c d=>
 oP E (xBuiltin .len #[23] 3 [false] [x1]) d fun e f=>
 xloop [33] [(vI 0)] f fun g i next2=>
 c3Z x0 c x1 e (g 33) i next2 R E)
def c4a(x0 _x1 _x3 x8 x18 x19:Value)(w)(next3:NT)(j1:NT)(_R:RT)(E):=
 opK pG E (bN .lss 3 19 18 x19 x18) w fun b a=>
 xcond b
 (oP E (xCall (fC 23) [x0]) a fun c d=>
 oP E (xV (Instr.buildSlice 44 1 #[(0,c)])) d fun e f=>
 oP E (xBuiltin .append #[44,44] 44 [false,false] [x8,e]) f fun g i=>
 oP E (bC .add 3 19 x19 (vI 1)) i fun j k=>
 next3 [g,j] k)
 (j1 [x8] a)
def F24(x0 x1 x2 x3 w)(R:RT)(E):=
 opK pG E (xBuiltin .len #[23] 3 [false] [x1]) w fun c d=>
 oP E (bC .eql 3 12 c (vI 0)) d fun e a=>
 xcond e
 (R (Value.tuple #[]) a)
 (oP E (xV (Instr.buildSlice 44 1 #[(0,x2)])) a fun f g=>
 xcut (fun i j=>b9s x0 x1 x3 (nth i 0) j R E) fun j1=>
 oP E (xBuiltin .len #[23] 3 [false] [x1]) g fun k l=>
 oP E (bC .sub 3 17 k (vI 1)) l fun m n=>
 xloop [8,19] [f,(vI 0)] n fun b o next3=>
 c4a x0 x1 x3 (b 8) m (b 19) o next3 j1 R E)
def h24:Hint:=(hS (sQ (hC hN hN)) (sQ (hU [8] (sQ (hB (hL [8,19] (sQ (hS (hC hN hN) (hS (hB hN) hN)))))) (sQ (sQ (hB (hL [33] (sQ (hS (hC hN hN) (hS (hB (sQ (.reg [(0,274877906944,1),(0,549755813888,1024),(0,1099511627776,256),(0,2199023255552,512),(12,4398046511104,3298534883328),(16,8796093022208,4398046511104),(0,17592186044416,256),(0,35184372088832,512),(128,70368744177664,35184372088832),(320,140737488355328,87960930222080),(512,281474976710656,140737488355328),(1059,562949953421312,291095703453696)] [1058,1056,1058,1058,1058,1026,1058,1058,1058,1058,34,0] (.early 0 (.early 2 (.early 3 (.early 4 (.early 6 (.early 7 (.early 8 (.early 9 (.load 1 (.load 5 (.load 10 (.step 11 .done))))))))))))))) hN))))))))))
theorem c9s{x0 x1 x2 x3:Value}(h:F24 x0 x1 x2 x3 w R E):Cv pG 24 #[x0,x1,x2,x3] w R E:=okF (h:=h24) Tryz.func24 (by kernel_rfl) (by kernel_rfl) h
def b9t(w)(R:RT)(_E:Pan):=
 ∀_τ:Fr,(R (Value.tuple #[(eS),(vI 0)]) w)
def c4b(x1 x9 x10 w)(next3:NT)(j2:NT)(R:RT)(E):=
 opK pG E (xBuiltin .len #[102] 3 [false] [x9]) w fun m n=>
 oP E (bN .lss 3 64 66 x10 m) n fun o c=>
 xcond o
 (dX c fun b=>
 qP pG (fA 25 x1 0) fun d=>
 qP pG (iA 102 x9 x10) fun p=>
 qP pG (fA 105 p 0) fun e=>
 qL pG b (blk d) (lA 22 d) fun q=>
 qL pG b (blk e) (lA 9 e) fun r=>
 oP E (xCall (fC 47) [q,r]) b fun f g=>
 keepX [] b g (opK pG E (bC .lss 3 78 f (vI 0)) g fun s i=>
 xcond s
 (oP E (iA 102 x9 x10) i fun t u=>
 oP E (fA 105 t 0) u fun v y=>
 oP E (lA 9 v) y fun z aa=>
 R (Value.tuple #[z,(vI 63)]) aa)
 (dX i fun a=>
 qP pG (fA 25 x1 0) fun j=>
 qP pG (iA 102 x9 x10) fun ab=>
 qP pG (fA 105 ab 1) fun k=>
 qL pG a (blk j) (lA 22 j) fun ac=>
 qP pG (iA 22 ac f) fun ad=>
 qP pG (fA 70 ad 1) fun l=>
 qL pG a (blk l) (lA 3 l) fun ae=>
 qP pG (bC .gtr 3 90 ae (vI 0)) fun af=>
 qL pG a (blk k) (lA 4 k) fun ag=>
 qP pG (bN .neq 4 91 96 af ag) fun ah=>
 xcond ah
 (oP E (iA 102 x9 x10) a fun ai aj=>
 oP E (fA 105 ai 0) aj fun ak al=>
 oP E (lA 9 ak) al fun am an=>
 R (Value.tuple #[am,(vI 64)]) an)
 (oP E (bC .add 3 68 x10 (vI 1)) a fun ao ap=>
 next3 [ao] ap))))
 (j2 [] c)
def b9u(x1 w)(R:RT)(E):=
 ∀_τ:Fr,(oP E (lA 25 x1) w fun a b=>
 oP E (xCall (fC 48) [a]) b fun c d=>
 xcut (fun _ e=>b9t e R E) fun j2=>
 xloop [10] [(vI 0)] d fun f g next3=>
 c4b x1 c (f 10) g next3 j2 R E)
def b9v(x1 x5 x6 x7 x8 w)(next4:NT)(R:RT)(E):=
 ∀_τ:Fr,(dX w fun a=>
 qP pG (fA 25 x1 0) fun d=>
 qP pG (fA 70 x8 0) fun e=>
 qL pG a (blk d) (lA 22 d) fun i=>
 qP pG (xV (Instr.sliceAt 22 i none (some x7) none)) fun j=>
 qL pG a (blk e) (lA 9 e) fun k=>
 oP E (xCall (fC 47) [j,k]) a fun l b=>
 keepX [] a b (qP pG (bC .geq 3 43 l (vI 0)) fun m=>
 xcond m
 (oP E (fA 70 x8 0) b fun n o=>
 oP E (lA 9 n) o fun p q=>
 R (Value.tuple #[p,(vI 60)]) q)
 (oP E (fA 70 x8 1) b fun r s=>
 oP E (lA 3 r) s fun t u=>
 oP E (bC .gtr 3 49 t (vI 1024)) u fun v f=>
 xcond v
 (oP E (fA 70 x8 0) f fun y z=>
 oP E (lA 9 y) z fun aa ab=>
 R (Value.tuple #[aa,(vI 61)]) ab)
 (oP E (bC .gtr 3 54 x5 (vI 32)) f fun c ac=>
 oP E (gNo c (bC .gtr 3 57 (zF c x6) (vI 16))) ac fun ad ae=>
 oP E (xPick c (vB true) ad) ae fun af g=>
 xcond af
 (oP E (fA 70 x8 0) g fun ag ah=>
 oP E (lA 9 ag) ah fun ai aj=>
 R (Value.tuple #[ai,(vI 62)]) aj)
 (oP E (bC .add 3 22 x7 (vI 1)) g fun ak al=>
 next4 [x5,x6,ak] al)))))
def c4c(x1 x5 x6 x7 w)(next4:NT)(j1:NT)(R:RT)(E):=
 opK pG E (fA 25 x1 0) w fun e f=>
 oP E (lA 22 e) f fun g i=>
 oP E (xBuiltin .len #[22] 3 [false] [g]) i fun j k=>
 oP E (bN .lss 3 17 20 x7 j) k fun l b=>
 xcond l
 (oP E (fA 25 x1 0) b fun m n=>
 oP E (lA 22 m) n fun o p=>
 oP E (iA 22 o x7) p fun q r=>
 oP E (lA 70 q) r fun s t=>
 oP E (xV (Instr.alloc 70 true (.tuple #[]))) t fun a u=>
 oP E (sA 70 a s) u fun _ v=>
 xcut (fun c y=>b9v x1 (nth c 0) (nth c.tail 0) x7 a y next4 R E) fun j5=>
 oP E (fA 70 a 1) v fun z aa=>
 oP E (lA 3 z) aa fun ab ac=>
 oP E (bC .eql 3 30 ab (vI 0)) ac fun ad d=>
 xcond ad
 (oP E (bC .add 3 32 x5 (vI 1)) d fun ae af=>
 j5 [ae,x6] af)
 (oP E (bC .add 3 34 x6 (vI 1)) d fun ag ah=>
 j5 [x5,ag] ah))
 (j1 [] b)
def F25(x0 w)(R:RT)(E):=
 opK pG E (xV (Instr.box 25 x0)) w fun a e=>
 oP E (lA 25 a) e fun f g=>
 oP E (xCall (fC 46) [f]) g fun c i=>
 oP E (bC .neq 3 14 c (vI 0)) i fun j d=>
 xcond j
 (R (Value.tuple #[(eS),c]) d)
 (xcut (fun _ k=>b9u a k R E) fun j1=>
 xloop [5,6,7] [(vI 0),(vI 0),(vI 0)] d fun b l next4=>
 c4c a (b 5) (b 6) (b 7) l next4 j1 R E)
def h25:Hint:=(sQ (sQ (hS (sQ (hC (sQ hN) hN)) (sQ (hU [] (sQ (hB (hL [5,6,7] (hS (sQ (hC hN hN)) (hS (hB (sQ (hU [5,6] (sQ (hC hN hN)) (hB (hS (.reg [(0,137438953472,2),(1,274877906944,137438953472),(0,549755813888,128),(6,1099511627776,824633720832),(0,2199023255552,256),(16,4398046511104,2199023255552),(40,8796093022208,5497558138880),(64,17592186044416,8796093022208),(192,68719476736,17592186044416)] [34,32,34,34,34,2,0,34,34] (.early 0 (.early 2 (.early 4 (.load 1 (.early 3 (.load 5 (.step 6 (.early 7 (.early 8 .done)))))))))) (hC (sQ hN) (sQ (hC (sQ hN) (sQ (hC (sQ hN) hN)))))))))) hN))))) (sQ (hU [] (sQ (hB (hL [10] (hS (sQ (hC hN hN)) (hS (hB (hS (.reg [(0,1180591620717411303424,2),(1,2361183241434822606848,1180591620717411303424),(0,4722366482869645213696,512),(0,9444732965739290427392,1024),(12,18889465931478580854784,14167099448608935641088),(16,37778931862957161709568,18889465931478580854784),(32,75557863725914323419136,37778931862957161709568),(66,151115727451828646838272,77919046967349146025984),(255,2048,151115727451828646838272)] [66,64,66,66,66,66,2,0,66] (.early 0 (.early 2 (.early 3 (.early 4 (.early 5 (.load 1 (.load 6 (.step 7 (.early 8 .done)))))))))) (hS (sQ (hC (sQ hN) hN)) (hS (.reg [(0,38685626227668133590597632,2),(1,77371252455336267181195264,38685626227668133590597632),(0,154742504910672534362390528,2048),(6,309485009821345068724781056,232113757366008801543585792),(8,618970019642690137449562112,309485009821345068724781056),(16,1237940039285380274899124224,618970019642690137449562112),(32,2475880078570760549798248448,1237940039285380274899124224),(0,4951760157141521099596496896,512),(0,9903520314283042199192993792,1024),(384,19807040628566084398385987584,14855280471424563298789490688),(512,39614081257132168796771975168,19807040628566084398385987584),(1024,79228162514264337593543950336,39614081257132168796771975168),(2112,158456325028528675187087900672,81704042592835098143342198784)] [2082,2080,2082,2082,2082,2050,2082,2082,2082,2082,2082,34,2082] (.early 0 (.early 2 (.early 7 (.early 8 (.early 9 (.early 10 (.load 1 (.early 3 (.early 4 (.load 5 (.early 6 (.load 11 (.early 12 .done)))))))))))))) (hC (sQ hN) hN))))) hN))))) (sQ hN))))))))
theorem c9t{x0:Value}(h:F25 x0 w R E):Cv pG 25 #[x0] w R E:=okF (h:=h25) Tryz.func25 (by kernel_rfl) (by kernel_rfl) h
def b9w(x3 w)(R:RT)(_E:Pan):=
 ∀_τ:Fr,(R x3 w)
def b9x(_x1 x3 x4:Value)(w)(next2:NT)(_R:RT)(E):=
 ∀_τ:Fr,(oP E (bC .add 3 10 x4 (vI 1)) w fun a b=>
 next2 [x3,a] b)
def c4d(x1 x3 x4 w)(next2:NT)(j1:NT)(R:RT)(E):=
 opK pG E (fA 25 x1 0) w fun c d=>
 oP E (lA 22 c) d fun e f=>
 oP E (xBuiltin .len #[22] 3 [false] [e]) f fun g i=>
 oP E (bN .lss 3 5 8 x4 g) i fun j a=>
 xcond j
 (xcut (fun k l=>b9x x1 (nth k 0) x4 l next2 R E) fun j3=>
 oP E (fA 25 x1 0) a fun m n=>
 oP E (lA 22 m) n fun o p=>
 oP E (iA 22 o x4) p fun q r=>
 oP E (fA 70 q 1) r fun s t=>
 oP E (lA 3 s) t fun u v=>
 oP E (bC .eql 3 17 u (vI 0)) v fun y b=>
 xcond y
 (oP E (fA 25 x1 0) b fun z aa=>
 oP E (lA 22 z) aa fun ab ac=>
 oP E (iA 22 ab x4) ac fun ad ae=>
 oP E (fA 70 ad 0) ae fun af ag=>
 oP E (lA 9 af) ag fun ah ai=>
 oP E (xV (Instr.buildSlice 27 1 #[(0,ah)])) ai fun aj ak=>
 oP E (xBuiltin .append #[27,27] 27 [false,false] [x3,aj]) ak fun al am=>
 j3 [al] am)
 (j3 [x3] b))
 (j1 [x3] a)
def F26(x0 w)(R:RT)(E):=
 opK pG E (xV (Instr.box 25 x0)) w fun b c=>
 xcut (fun d e=>b9w (nth d 0) e R E) fun j1=>
 xloop [3,4] [(nS),(vI 0)] c fun a f next2=>
 c4d b (a 3) (a 4) f next2 j1 R E
def h26:Hint:=(sQ (sQ (hU [3] (sQ (hB (hL [3,4] (hS (sQ (hC hN hN)) (hU [3] (hB (sQ (hC hN hN))) hN))))) (sQ hN))))
theorem c9u{x0:Value}(h:F26 x0 w R E):Cv pG 26 #[x0] w R E:=okF (h:=h26) Tryz.func26 (by kernel_rfl) (by kernel_rfl) h
def b9y(x3 w)(R:RT)(_E:Pan):=
 ∀_τ:Fr,(R x3 w)
def b9z(_x1 x3 x4:Value)(w)(next2:NT)(_R:RT)(E):=
 ∀_τ:Fr,(oP E (bC .add 3 10 x4 (vI 1)) w fun a b=>
 next2 [x3,a] b)
def c4e(x1 x3 x4 w)(next2:NT)(j1:NT)(R:RT)(E):=
 opK pG E (fA 25 x1 0) w fun c d=>
 oP E (lA 22 c) d fun e f=>
 oP E (xBuiltin .len #[22] 3 [false] [e]) f fun g i=>
 oP E (bN .lss 3 5 8 x4 g) i fun j a=>
 xcond j
 (xcut (fun k l=>b9z x1 (nth k 0) x4 l next2 R E) fun j3=>
 oP E (fA 25 x1 0) a fun m n=>
 oP E (lA 22 m) n fun o p=>
 oP E (iA 22 o x4) p fun q r=>
 oP E (fA 70 q 1) r fun s t=>
 oP E (lA 3 s) t fun u v=>
 oP E (bC .gtr 3 17 u (vI 0)) v fun y b=>
 xcond y
 (oP E (fA 25 x1 0) b fun z aa=>
 oP E (lA 22 z) aa fun ab ac=>
 oP E (iA 22 ab x4) ac fun ad ae=>
 oP E (lA 70 ad) ae fun af ag=>
 oP E (xV (Instr.buildSlice 22 1 #[(0,af)])) ag fun ah ai=>
 oP E (xBuiltin .append #[22,22] 22 [false,false] [x3,ah]) ai fun aj ak=>
 j3 [aj] ak)
 (j3 [x3] b))
 (j1 [x3] a)
def F27(x0 w)(R:RT)(E):=
 opK pG E (xV (Instr.box 25 x0)) w fun b c=>
 xcut (fun d e=>b9y (nth d 0) e R E) fun j1=>
 xloop [3,4] [(nS),(vI 0)] c fun a f next2=>
 c4e b (a 3) (a 4) f next2 j1 R E
def h27:Hint:=(sQ (sQ (hU [3] (sQ (hB (hL [3,4] (hS (sQ (hC hN hN)) (hU [3] (hB (sQ (hC hN hN))) hN))))) (sQ hN))))
theorem c9v{x0:Value}(h:F27 x0 w R E):Cv pG 27 #[x0] w R E:=okF (h:=h27) Tryz.func27 (by kernel_rfl) (by kernel_rfl) h
def b9A(x0 w)(R:RT)(E):=
 ∀_τ:Fr,(oP E (xNil x0) w fun a b=>
 oP E (fA 77 a 0) b fun c d=>
 oP E (fA 30 c 3) d fun e f=>
 oP E (lA 3 e) f fun g i=>
 oP E (bC .sub 3 25 g (vI 1)) i fun j k=>
 R j k)
def F28(x0 w)(R:RT)(E):=
 opK pG E (xNil x0) w fun b c=>
 oP E (fA 77 b 0) c fun d e=>
 oP E (fA 30 d 3) e fun f g=>
 oP E (lA 3 f) g fun i j=>
 oP E (bC .add 3 7 i (vI 1)) j fun k l=>
 oP E (xNil x0) l fun m n=>
 oP E (fA 77 m 0) n fun o p=>
 oP E (fA 30 o 3) p fun q r=>
 oP E (sA 3 q k) r fun _ s=>
 xcut (fun _ t=>b9A x0 t R E) fun j1=>
 oP E (xNil x0) s fun u v=>
 oP E (fA 77 u 0) v fun y z=>
 oP E (fA 30 y 3) z fun aa ab=>
 oP E (lA 3 aa) ab fun ac ad=>
 oP E (bC .gtr 3 16 ac (vI 4096)) ad fun ae a=>
 xcond ae
 (oP E (xNil x0) a fun af ag=>
 oP E (fA 77 af 1) ag fun ah ai=>
 oP E (sA 4 ah (vB true)) ai fun _ aj=>
 j1 [] aj)
 (j1 [] a)
def h28:Hint:=(sQ (sQ (hU [] (sQ (hC hN hN)) (sQ hN))))
theorem c9w{x0:Value}(h:F28 x0 w R E):Cv pG 28 #[x0] w R E:=okF (h:=h28) Tryz.func28 (by kernel_rfl) (by kernel_rfl) h
def c4f(x0 x1 x2 x8 x10 w)(next2:NT)(R:RT)(E):=
 opK pG E (xBuiltin .len #[23] 3 [false] [x1]) w fun g i=>
 oP E (bN .lss 3 26 28 x10 g) i fun a j=>
 oP E (gYs a (xNil (zT a x0))) j fun k l=>
 oP E (gYs a (fA 77 k 1)) l fun m n=>
 oP E (gYs a (lA 4 m)) n fun o p=>
 oP E (gYs a (xV (Op.unary .not o))) p fun q r=>
 oP E (xPick a q (vB false)) r fun s c=>
 xcond s
 (dX c fun b=>
 qP pG (iA 23 x1 x10) fun d=>
 qP pG (iA 44 x8 x10) fun e=>
 qL pG b (blk d) (lA 60 d) fun t=>
 qL pG b (blk e) (lA 3 e) fun u=>
 oP E (xCall (fC 49) [x0,t,x2,u]) b fun _t49_24 f=>
 keepX [] b f (opK pG E (iA 44 x8 x10) f fun v y=>
 oP E (lA 3 v) y fun z aa=>
 oP E (bC .add 3 37 x10 (vI 1)) aa fun ab ac=>
 next2 [z,ab] ac))
 (R (Value.tuple #[]) c)
def b9B(x0 x1 x2 x3 x8 w)(R:RT)(E):=
 ∀_τ:Fr,(oP E (xV (Instr.buildSlice 44 1 #[(0,x3)])) w fun b c=>
 oP E (xBuiltin .append #[44,44] 44 [false,false] [x8,b]) c fun d e=>
 xloop [2,10] [x2,(vI 0)] e fun a f next2=>
 c4f x0 x1 (a 2) d (a 10) f next2 R E)
def c4g(x0 x1 _x2 _x3 x8 x9:Value)(w)(next3:NT)(j1:NT)(_R:RT)(E):=
 opK pG E (xBuiltin .len #[23] 3 [false] [x1]) w fun b c=>
 oP E (bN .lss 3 11 13 x9 b) c fun d a=>
 xcond d
 (oP E (xCall (fC 28) [x0]) a fun e f=>
 oP E (xV (Instr.buildSlice 44 1 #[(0,e)])) f fun g i=>
 oP E (xBuiltin .append #[44,44] 44 [false,false] [x8,g]) i fun j k=>
 oP E (bC .add 3 15 x9 (vI 1)) k fun l m=>
 next3 [j,l] m)
 (j1 [x8] a)
def F29(x0 x1 x2 x3 w)(R:RT)(E):=
 xcut (fun b c=>b9B x0 x1 x2 x3 (nth b 0) c R E) fun j1=>
 xloop [8,9] [(nS),(vI 1)] w fun a d next3=>
 c4g x0 x1 x2 x3 (a 8) (a 9) d next3 j1 R E
def h29:Hint:=(sQ (hU [8] (sQ (hB (hL [8,9] (hS (sQ (hC hN hN)) (hS (hB hN) hN))))) (sQ (sQ (hB (hL [2,10] (hS (sQ (hC hN hN)) (hS (hB (hS (.reg [(0,549755813888,1),(0,1099511627776,2),(0,2199023255552,1024),(6,4398046511104,3298534883328),(8,8796093022208,4398046511104),(0,17592186044416,4),(0,35184372088832,256),(0,70368744177664,1024),(192,140737488355328,105553116266496),(256,281474976710656,140737488355328),(561,562949953421312,308413011591168)] [528,528,528,528,512,528,528,528,528,16,0] (.early 0 (.early 1 (.early 2 (.early 3 (.early 5 (.early 6 (.early 7 (.early 8 (.load 4 (.load 9 (.step 10 .done)))))))))))) hN)) hN))))))))
theorem c9x{x0 x1 x2 x3:Value}(h:F29 x0 x1 x2 x3 w R E):Cv pG 29 #[x0,x1,x2,x3] w R E:=okF (h:=h29) Tryz.func29 (by kernel_rfl) (by kernel_rfl) h
def F30(x0 w)(R:RT)(E):=
 opK pG E (xV (Instr.box 25 x0)) w fun a b=>
 oP E (fA 25 a 1) b fun c d=>
 oP E (lA 23 c) d fun e f=>
 oP E (xCall (fC 50) [e]) f fun g i=>
 R g i
def h30:Hint:=(sQ (sQ hN))
theorem c9y{x0:Value}(h:F30 x0 w R E):Cv pG 30 #[x0] w R E:=okF (h:=h30) Tryz.func30 (by kernel_rfl) (by kernel_rfl) h
def b9C(w)(R:RT)(_E:Pan):=
 ∀_τ:Fr,(R (vB true) w)
def c4h(x0 x1 x5 w)(next2:NT)(j1:NT)(R:RT)(E):=
 opK pG E (xBuiltin .len #[27] 3 [false] [x0]) w fun e f=>
 oP E (bN .lss 3 11 13 x5 e) f fun g b=>
 xcond g
 (dX b fun a=>
 qP pG (iA 27 x0 x5) fun c=>
 qP pG (iA 27 x1 x5) fun d=>
 qL pG a (blk c) (lA 9 c) fun i=>
 qL pG a (blk d) (lA 9 d) fun j=>
 qP pG (bN .neq 9 20 24 i j) fun k=>
 xcond k
 (R (vB false) a)
 (oP E (bC .add 3 15 x5 (vI 1)) a fun l m=>
 next2 [l] m))
 (j1 [] b)
def F31(x0 x1 w)(R:RT)(E):=
 opK pG E (xBuiltin .len #[27] 3 [false] [x0]) w fun b c=>
 oP E (xBuiltin .len #[27] 3 [false] [x1]) c fun d e=>
 oP E (bN .neq 3 7 9 b d) e fun f a=>
 xcond f
 (R (vB false) a)
 (xcut (fun _ g=>b9C g R E) fun j1=>
 xloop [5] [(vI 0)] a fun i j next2=>
 c4h x0 x1 (i 5) j next2 j1 R E)
def h31:Hint:=(sQ (hS (sQ (hC (sQ hN) hN)) (hU [] (sQ (hB (hL [5] (hS (sQ (hC hN hN)) (hS (hB (hS (.reg [(0,131072,1),(0,262144,32),(3,524288,393216),(4,1048576,524288),(0,2097152,2),(0,4194304,32),(48,8388608,6291456),(64,16777216,8388608),(136,33554432,17825792)] [136,136,136,128,136,136,136,8,136] (.early 0 (.early 1 (.early 2 (.early 4 (.early 5 (.early 6 (.load 3 (.load 7 (.early 8 .done)))))))))) (hC (sQ hN) hN))) hN))))) (sQ hN))))
theorem c9z{x0 x1:Value}(h:F31 x0 x1 w R E):Cv pG 31 #[x0,x1] w R E:=okF (h:=h31) Tryz.func31 (by kernel_rfl) (by kernel_rfl) h
def b9D(w)(R:RT)(_E:Pan):=
 ∀_τ:Fr,(R (vB true) w)
def c4i(x0 x1 x5 w)(next2:NT)(j1:NT)(R:RT)(E):=
 opK pG E (xBuiltin .len #[22] 3 [false] [x0]) w fun e f=>
 oP E (bN .lss 3 11 13 x5 e) f fun g b=>
 xcond g
 (dX b fun a=>
 qP pG (iA 22 x0 x5) fun c=>
 qP pG (iA 22 x1 x5) fun d=>
 qL pG a (blk c) (lA 70 c) fun i=>
 qL pG a (blk d) (lA 70 d) fun j=>
 qP pG (bN .neq 70 20 24 i j) fun k=>
 xcond k
 (R (vB false) a)
 (oP E (bC .add 3 15 x5 (vI 1)) a fun l m=>
 next2 [l] m))
 (j1 [] b)
def F32(x0 x1 w)(R:RT)(E):=
 opK pG E (xBuiltin .len #[22] 3 [false] [x0]) w fun b c=>
 oP E (xBuiltin .len #[22] 3 [false] [x1]) c fun d e=>
 oP E (bN .neq 3 7 9 b d) e fun f a=>
 xcond f
 (R (vB false) a)
 (xcut (fun _ g=>b9D g R E) fun j1=>
 xloop [5] [(vI 0)] a fun i j next2=>
 c4i x0 x1 (i 5) j next2 j1 R E)
def h32:Hint:=(sQ (hS (sQ (hC (sQ hN) hN)) (hU [] (sQ (hB (hL [5] (hS (sQ (hC hN hN)) (hS (hB (hS (.reg [(0,131072,1),(0,262144,32),(3,524288,393216),(4,1048576,524288),(0,2097152,2),(0,4194304,32),(48,8388608,6291456),(64,16777216,8388608),(136,33554432,17825792)] [136,136,136,128,136,136,136,8,136] (.early 0 (.early 1 (.early 2 (.early 4 (.early 5 (.early 6 (.load 3 (.load 7 (.early 8 .done)))))))))) (hC (sQ hN) hN))) hN))))) (sQ hN))))
theorem c9A{x0 x1:Value}(h:F32 x0 x1 w R E):Cv pG 32 #[x0,x1] w R E:=okF (h:=h32) Tryz.func32 (by kernel_rfl) (by kernel_rfl) h
end Go.Proofs.YtaokfhdinhimfaaGreatDoor
