/- The second reading of some of the program's functions, printed by gen2.py off the code; each is held against the code by the kernel. -/
import Derived.KernelRfl
import Derived.Test.YtaokfhdinhimfaaGreatDooryCGz
namespace Go.Proofs.YtaokfhdinhimfaaGreatDoor
open Go.RowKit
set_option maxRecDepth 100000
variable {w:World}{R:RT}{E:Pan}
def h3:Hint:=(sQ (hS (sQ (hC (sQ hN) hN)) (sQ (sQ (hS (sQ (hC (sQ hN) hN)) (hU [] (sQ (hB (hL [7] (hS (sQ (hC hN hN)) (hS (hB hN) hN))))) (sQ (sQ hN))))))))
def c0J(x2 x11 x13 w)(R:RT)(E):=
 ∀_τ:Fr,(oP E (lA 30 x2) w fun b c=>
 oP E (xCall (fC 19) [b]) c fun d e=>
 oP E (xCall (fC 16) [x11,d]) e fun a f=>
 oP E (gYs a (lA 30 x2)) f fun g i=>
 oP E (gYs a (xCall (fC 20) [g])) i fun j k=>
 oP E (gYs a (xCall (fC 16) [(zT a x13),j])) k fun l m=>
 oP E (xPick a l (vB false)) m fun n o=>
 R n o)
def c4A(_x2 x9 _x11 _x13 x15 x16:Value)(w)(next3:NT)(j2:NT)(R:RT)(E):=
 opK pG E (xBuiltin .len #[47] 3 [false] [x15]) w fun e f=>
 oP E (bN .lss 3 126 128 x16 e) f fun g b=>
 xcond g
 (dX b fun a=>
 qP pG (iA 47 x9 x16) fun c=>
 qP pG (iA 47 x15 x16) fun d=>
 qL pG a (blk c) (lA 4 c) fun i=>
 qL pG a (blk d) (lA 4 d) fun j=>
 qP pG (bN .neq 4 135 139 i j) fun k=>
 xcond k
 (R (vB false) a)
 (oP E (bC .add 3 130 x16 (vI 1)) a fun l m=>
 next3 [l] m))
 (j2 [] b)
def c0K(x2 x9 x11 x13 w)(R:RT)(E):=
 ∀_τ:Fr,(oP E (lA 30 x2) w fun c d=>
 oP E (xCall (fC 18) [c]) d fun a e=>
 oP E (xBuiltin .len #[47] 3 [false] [x9]) e fun f g=>
 oP E (xBuiltin .len #[47] 3 [false] [a]) g fun i j=>
 oP E (bN .neq 3 122 124 f i) j fun k b=>
 xcond k
 (R (vB false) b)
 (xcut (fun _ l=>c0J x2 x11 x13 l R E) fun j2=>
 xloop [16] [(vI 0)] b fun m n next3=>
 c4A x2 x9 x11 x13 a (m 16) n next3 j2 R E))
def F4(x0 x1 w)(R:RT)(E):=
 opK pG E (xV (Instr.box 30 x0)) w fun c ag=>
 oP E (xCall (fC 5) []) ag fun ah ai=>
 oP E (xV (Op.unary .not ah)) ai fun aj r=>
 xcond aj
 (R (vB false) r)
 (oP E (lA 30 c) r fun ak al=>
 oP E (xCall (fC 9) [ak]) al fun d am=>
 oP E (lA 30 c) am fun an ao=>
 oP E (xCall (fC 10) [an]) ao fun ap aq=>
 oP E (xV (Instr.alloc 30 true (.tuple #[]))) aq fun a ar=>
 oP E (sA 30 a ap) ar fun _ au=>
 oP E (lA 30 a) au fun av aw=>
 oP E (xCall (fC 11) [av,x1]) aw fun s ax=>
 oP E (xT s 0) ax fun p ay=>
 oP E (xT s 1) ay fun q az=>
 oP E (lA 30 a) az fun ba bb=>
 oP E (xCall (fC 12) [ba]) bb fun t bc=>
 oP E (xT t 0) bc fun u bd=>
 oP E (xT t 1) bd fun be bf=>
 oP E (lA 30 a) bf fun bg bh=>
 oP E (xCall (fC 13) [bg]) bh fun v bi=>
 oP E (xT v 0) bi fun y bj=>
 oP E (xT v 1) bj fun bk bl=>
 oP E (lA 30 a) bl fun bm bn=>
 oP E (xCall (fC 14) [bm]) bn fun z bo=>
 oP E (xT z 0) bo fun aa bp=>
 oP E (xT z 1) bp fun bq br=>
 oP E (lA 30 a) br fun bs bt=>
 oP E (xCall (fC 15) [bs]) bt fun bu bv=>
 oP E (bN .neq 3 45 46 bu d) bv fun e bw=>
 oP E (gNo e (lA 30 a)) bw fun bz ca=>
 oP E (gNo e (lA 30 c)) ca fun cb cc=>
 oP E (gNo e (xCall (fC 8) [bz,cb])) cc fun cd ce=>
 oP E (gNo e (xV (Op.unary .not cd))) ce fun cf cg=>
 oP E (xPick e (vB true) cf) cg fun g ch=>
 oP E (gNo g (bN .neq 3 55 56 (zF g be) (zF g d))) ch fun ci cj=>
 oP E (xPick g (vB true) ci) cj fun i ck=>
 oP E (gNo i (bN .neq 3 60 61 (zF i bk) (zF i d))) ck fun cl cm=>
 oP E (xPick i (vB true) cl) cm fun j cn=>
 oP E (gNo j (bN .neq 3 65 66 (zF j bq) (zF j d))) cn fun co cp=>
 oP E (xPick j (vB true) co) cp fun cq ab=>
 xcond cq
 (R (vB false) ab)
 (oP E (bC .neq 3 69 d (vI 0)) ab fun cr ac=>
 xcond cr
 (oP E (bN .eql 3 71 72 q d) ac fun k cs=>
 oP E (gYs k (xBuiltin .len #[44] 3 [false] [(zT k p)])) cs fun ct cu=>
 oP E (gYs k (bC .eql 3 76 ct (vI 0))) cu fun cv cw=>
 oP E (xPick k cv (vB false)) cw fun l cx=>
 oP E (gYs l (xBuiltin .len #[47] 3 [false] [(zT l u)])) cx fun cy cz=>
 oP E (gYs l (bC .eql 3 81 cy (vI 0))) cz fun da db=>
 oP E (xPick l da (vB false)) db fun m dc=>
 oP E (gYs m (xBuiltin .len #[44] 3 [false] [(zT m y)])) dc fun dd de=>
 oP E (gYs m (bC .eql 3 86 dd (vI 0))) de fun df dg=>
 oP E (xPick m df (vB false)) dg fun n dh=>
 oP E (gYs n (xBuiltin .len #[44] 3 [false] [(zT n aa)])) dh fun di dj=>
 oP E (gYs n (bC .eql 3 91 di (vI 0))) dj fun dk dl=>
 oP E (xPick n dk (vB false)) dl fun dm dn=>
 R dm dn)
 (xcut (fun _ dp=>c0K c u y aa dp R E) fun j1=>
 oP E (bC .lss 3 94 x1 (vI 0)) ac fun f dq=>
 oP E (gNo f (fA 30 c 3)) dq fun dr ds=>
 oP E (gNo f (lA 3 dr)) ds fun dt du=>
 oP E (gNo f (bN .geq 3 97 99 (zF f x1) dt)) du fun dv dw=>
 oP E (xPick f (vB true) dv) dw fun dx ad=>
 xcond dx
 (oP E (bC .neq 31 102 q (vI 92)) ad fun o dy=>
 oP E (gNo o (xBuiltin .len #[44] 3 [false] [(zF o p)])) dy fun dz ea=>
 oP E (gNo o (bC .neq 3 106 dz (vI 0))) ea fun eb ec=>
 oP E (xPick o (vB true) eb) ec fun ed ae=>
 xcond ed
 (R (vB false) ae)
 (j1 [] ae))
 (oP E (bC .neq 31 109 q (vI 0)) ad fun b ee=>
 oP E (gNo b (lA 30 c)) ee fun ef eg=>
 oP E (gNo b (xCall (fC 17) [ef,(zF b x1)])) eg fun eh ei=>
 oP E (gNo b (xCall (fC 16) [(zF b p),eh])) ei fun ej ek=>
 oP E (gNo b (xV (Op.unary .not ej))) ek fun el em=>
 oP E (xPick b (vB true) el) em fun en af=>
 xcond en
 (R (vB false) af)
 (j1 [] af)))))
def h4:Hint:=(sQ (hS (sQ (hC (sQ hN) hN)) (sQ (sQ (sQ (sQ (sQ (sQ (hS (sQ (hC (sQ hN) hN)) (hS (sQ (hC (sQ hN) hN)) (hU [] (sQ (hC (sQ (hC (sQ hN) hN)) (sQ (hC (sQ hN) hN)))) (sQ (hS (sQ (hC (sQ hN) hN)) (hU [] (sQ (hB (hL [16] (hS (sQ (hC hN hN)) (hS (hB (hS (.reg [(0,5444517870735015415413993718908291383296,512),(0,10889035741470030830827987437816582766592,65536),(3,21778071482940061661655974875633165533184,16333553612205046246241981156724874149888),(4,43556142965880123323311949751266331066368,21778071482940061661655974875633165533184),(0,87112285931760246646623899502532662132736,32768),(0,174224571863520493293247799005065324265472,65536),(48,348449143727040986586495598010130648530944,261336857795280739939871698507597986398208),(64,696898287454081973172991196020261297061888,348449143727040986586495598010130648530944),(136,1393796574908163946345982392040522594123776,740454430419962096496303145771527628128256)] [136,136,136,128,136,136,136,8,136] (.early 0 (.early 1 (.early 2 (.early 4 (.early 5 (.early 6 (.load 3 (.load 7 (.early 8 .done)))))))))) (hC (sQ hN) hN))) hN))))) (sQ hN)))))))))))))))
theorem c9J{x0 x1:Value}(h:F4 x0 x1 w R E):Cv pG 4 #[x0,x1] w R E:=okF (h:=h4) Tryz.func4 (by kernel_rfl) (by kernel_rfl) h
def F5(w)(R:RT)(E):=
 opK pG E (xV (Instr.build 60 #[(0,(vI 7))])) w fun g i=>
 oP E (xV (Instr.buildSlice 23 1 #[(0,g)])) i fun j k=>
 oP E (xV (Instr.build 25 #[(1,j)])) k fun l m=>
 oP E (xCall (fC 6) [l]) m fun f n=>
 oP E (xT f 0) n fun o p=>
 oP E (xT f 1) p fun q r=>
 oP E (xV (Instr.alloc 30 true (.tuple #[]))) r fun b s=>
 oP E (sA 30 b o) s fun _ t=>
 oP E (bC .eql 31 10 q (vI 0)) t fun d u=>
 oP E (gYs d (fA 30 b 3)) u fun v y=>
 oP E (gYs d (lA 3 v)) y fun z aa=>
 oP E (gYs d (bC .eql 3 14 z (vI 2))) aa fun ab ac=>
 oP E (xPick d ab (vB false)) ac fun e ad=>
 oP E (gYs e (fA 30 b 4)) ad fun ae af=>
 oP E (gYs e (lA 3 ae)) af fun ag ah=>
 oP E (gYs e (bC .eql 3 19 ag (vI 1))) ah fun ai aj=>
 oP E (xPick e ai (vB false)) aj fun c ak=>
 oP E (gYs c (fA 30 b 5)) ak fun al am=>
 oP E (gYs c (lA 28 al)) am fun an ao=>
 oP E (gYs c (xBuiltin .len #[28] 3 [false] [an])) ao fun ap aq=>
 oP E (gYs c (bC .eql 3 25 ap (vI 1))) aq fun ar au=>
 oP E (xPick c ar (vB false)) au fun a av=>
 oP E (gYs a (fA 30 b 5)) av fun aw ax=>
 oP E (gYs a (lA 28 aw)) ax fun ay az=>
 oP E (gYs a (iA 28 ay (vI 0))) az fun ba bb=>
 oP E (gYs a (lA 40 ba)) bb fun bc bd=>
 oP E (gYs a (xV (Instr.build 38 #[(0,(vI (-1)))]))) bd fun be bf=>
 oP E (gYs a (xV (Instr.build 38 #[(0,(vI (-1)))]))) bf fun bg bh=>
 oP E (gYs a (xV (Instr.build 40 #[(1,(vI 1)),(2,(vI 1)),(3,(vI (-1))),(4,(vI (-1))),(6,be),(7,bg)]))) bh fun bi bj=>
 oP E (gYs a (bN .eql 40 32 35 bc bi)) bj fun bk bl=>
 oP E (xPick a bk (vB false)) bl fun bm bn=>
 R bm bn
def h5:Hint:=(sQ (sQ (sQ hN)))
theorem c9K(h:F5  w R E):Cv pG 5 #[] w R E:=okF (h:=h5) Tryz.func5 (by kernel_rfl) (by kernel_rfl) h
def c0L(x1 x2 x4 x8 w)(R:RT)(E):=
 ∀_τ:Fr,(oP E (xV (Instr.makeFunc (.func 24) #[x8] #[])) w fun l m=>
 dX m fun b=>
 qP pG (fA 25 x1 1) fun c=>
 qP pG (xNil x8) fun n=>
 qP pG (fA 68 n 0) fun o=>
 qP pG (fA 30 o 4) fun d=>
 qL pG b (blk c) (lA 23 c) fun p=>
 qL pG b (blk d) (lA 3 d) fun q=>
 oP E (xCall l [p,(vI 0),q]) b fun _t84_47 e=>
 keepX [] b e (opK pG E (xBuiltin .len #[27] 3 [false] [x4]) e fun r s=>
 oP E (xNil x8) s fun t u=>
 oP E (fA 68 t 0) u fun v y=>
 oP E (fA 30 v 1) y fun z aa=>
 oP E (lA 3 z) aa fun ab ac=>
 oP E (bN .add 3 87 92 r ab) ac fun ad ae=>
 oP E (bC .gtr 3 93 ad (vI 64)) ae fun af f=>
 xcond af
 (oP E (xV (Instr.build 30 #[])) f fun ag ah=>
 oP E (sA 30 x2 ag) ah fun _ g=>
 xcell pG 30 x2 g fun ai=>
 R (Value.tuple #[ai,(vI 90)]) g)
 (oP E (xNil x8) f fun aj ak=>
 oP E (fA 68 aj 0) ak fun al am=>
 oP E (fA 30 al 3) am fun an ao=>
 oP E (lA 3 an) ao fun ap aq=>
 oP E (bC .gtr 3 101 ap (vI 4096)) aq fun a ar=>
 oP E (gNo a (xNil (zF a x8))) ar fun au av=>
 oP E (gNo a (fA 68 au 0)) av fun aw ax=>
 oP E (gNo a (fA 30 aw 5)) ax fun ay az=>
 oP E (gNo a (lA 28 ay)) az fun ba bb=>
 oP E (gNo a (xBuiltin .len #[28] 3 [false] [ba])) bb fun bc bd=>
 oP E (gNo a (bC .gtr 3 109 bc (vI 8192))) bd fun be bf=>
 oP E (xPick a (vB true) be) bf fun bg i=>
 xcond bg
 (oP E (xV (Instr.build 30 #[])) i fun bh bi=>
 oP E (sA 30 x2 bh) bi fun _ j=>
 xcell pG 30 x2 j fun bj=>
 R (Value.tuple #[bj,(vI 91)]) j)
 (oP E (xNil x8) i fun bk bl=>
 oP E (fA 68 bk 0) bl fun bm bn=>
 oP E (lA 30 bm) bn fun bo bp=>
 oP E (sA 30 x2 bo) bp fun _ k=>
 xcell pG 30 x2 k fun bq=>
 R (Value.tuple #[bq,(vI 0)]) k))))
def c0M(x1 x2 x4 x8 w)(R:RT)(E):=
 ∀_τ:Fr,(xcut (fun _ b=>c0L x1 x2 x4 x8 b R E) fun j3=>
 oP E (fA 25 x1 1) w fun c d=>
 oP E (lA 23 c) d fun e f=>
 oP E (xBuiltin .len #[23] 3 [false] [e]) f fun g i=>
 oP E (bC .gtr 3 66 g (vI 0)) i fun j a=>
 xcond j
 (oP E (xCall (fC 23) [x8]) a fun k l=>
 oP E (xNil x8) l fun m n=>
 oP E (fA 68 m 0) n fun o p=>
 oP E (fA 30 o 4) p fun q r=>
 oP E (sA 3 q k) r fun _ s=>
 j3 [] s)
 (j3 [] a))
def c4B(_x1 _x2 _x4 x8 x49 x50 x51:Value)(w)(next4:NT)(j2:NT)(_R:RT)(E):=
 opK pG E (bN .lss 3 51 50 x51 x50) w fun g b=>
 xcond g
 (oP E (iA 22 x49 x51) b fun i j=>
 oP E (lA 70 i) j fun k l=>
 oP E (xV (Instr.alloc 70 true (.tuple #[]))) l fun c m=>
 oP E (sA 70 c k) m fun _ n=>
 dX n fun a=>
 qP pG (xNil x8) fun o=>
 qP pG (fA 68 o 2) fun d=>
 qP pG (fA 70 c 0) fun e=>
 qL pG a (blk d) (lA 66 d) fun p=>
 qL pG a (blk e) (lA 9 e) fun q=>
 oP E (xU (Instr.mapUpdate 66 p q x51)) a fun _ f=>
 keepX [] a f (opK pG E (bC .add 3 51 x51 (vI 1)) f fun r s=>
 next4 [r] s))
 (j2 [] b)
def c0N(x1 x2 x4 x6 x8 w)(R:RT)(E):=
 ∀_τ:Fr,(xcut (fun _ a=>c0M x1 x2 x4 x8 a R E) fun j2=>
 oP E (xBuiltin .len #[22] 3 [false] [x6]) w fun b c=>
 xloop [51] [(vI 0)] c fun d e next4=>
 c4B x1 x2 x4 x8 x6 b (d 51) e next4 j2 R E)
def c4C(_x1 _x2 _x4 _x6 x8 x35 x36 x37:Value)(w)(next5:NT)(j1:NT)(_R:RT)(E):=
 opK pG E (bN .lss 3 37 36 x37 x36) w fun b a=>
 xcond b
 (oP E (iA 27 x35 x37) a fun c d=>
 oP E (lA 9 c) d fun e f=>
 oP E (xNil x8) f fun g i=>
 oP E (fA 68 g 1) i fun j k=>
 oP E (lA 66 j) k fun l m=>
 oP E (xU (Instr.mapUpdate 66 l e x37)) m fun _ n=>
 oP E (bC .add 3 37 x37 (vI 1)) n fun o p=>
 next5 [o] p)
 (j1 [] a)
def F6(x0 w)(R:RT)(E):=
 opK pG E (xV (Instr.box 25 x0)) w fun b l=>
 oP E (xV (Instr.alloc 30 true (.tuple #[]))) l fun c m=>
 oP E (lA 25 b) m fun n o=>
 oP E (xCall (fC 21) [n]) o fun e p=>
 oP E (xT e 0) p fun a q=>
 oP E (xT e 1) q fun f r=>
 oP E (bC .neq 31 19 f (vI 0)) r fun s g=>
 xcond s
 (oP E (xV (Instr.build 30 #[])) g fun t u=>
 oP E (sA 30 c t) u fun _ i=>
 xcell pG 30 c i fun v=>
 R (Value.tuple #[v,f]) i)
 (oP E (lA 25 b) g fun y z=>
 oP E (xCall (fC 22) [y]) z fun j aa=>
 oP E (xT j 0) aa fun d ab=>
 oP E (xT j 1) ab fun _t27_26 ac=>
 oP E (xV (Instr.build 30 #[(0,a),(2,d),(3,(vI 1))])) ac fun ad ae=>
 oP E (xV (Instr.makeMap 66 none)) ae fun af ag=>
 oP E (xV (Instr.makeMap 66 none)) ag fun ah ai=>
 oP E (xV (Instr.build 68 #[(0,ad),(1,af),(2,ah)])) ai fun aj ak=>
 oP E (xV (Instr.box 68 aj)) ak fun k al=>
 xcut (fun _ am=>c0N b c a d k am R E) fun j1=>
 oP E (xBuiltin .len #[27] 3 [false] [a]) al fun an ao=>
 xloop [37] [(vI 0)] ao fun ap aq next5=>
 c4C b c a d k a an (ap 37) aq next5 j1 R E)
def h6:Hint:=(sQ (sQ (hS (sQ (hC (sQ hN) hN)) (sQ (sQ (hU [] (sQ (hB (hL [37] (sQ (hS (hC hN hN) (hS (hB (sQ hN)) hN)))))) (hU [] (sQ (hB (hL [51] (sQ (hS (hC hN hN) (hS (hB (sQ (.reg [(0,72057594037927936,256),(1,144115188075855872,72057594037927936),(2,288230376151711744,144115188075855872),(4,576460752303423488,288230376151711744),(0,1152921504606846976,4096),(16,2305843009213693952,1152921504606846976),(0,4611686018427387904,2048),(127,0,7493989779944505344)] [40,40,40,32,40,8,40,0] (.early 0 (.early 1 (.early 2 (.early 4 (.early 6 (.load 3 (.load 5 (.step 7 .done))))))))))) hN)))))) (hU [] (sQ (hC hN hN)) (sQ (hS (.reg [(0,75557863725914323419136,8192),(0,151115727451828646838272,2),(2,302231454903657293676544,151115727451828646838272),(0,604462909807314587353088,256),(8,1208925819614629174706176,604462909807314587353088),(16,2417851639229258349412352,1208925819614629174706176),(32,4835703278458516698824704,2417851639229258349412352),(64,9671406556917033397649408,4835703278458516698824704),(133,19342813113834066795298816,10049195875546605014745088)] [132,132,128,132,132,132,132,4,0] (.early 0 (.early 1 (.early 3 (.early 4 (.early 5 (.early 6 (.load 2 (.load 7 (.step 8 .done)))))))))) (hS (hB (sQ (hC (sQ hN) (sQ (hC (sQ hN) hN))))) (sQ hN))))))))))))
theorem c9L{x0:Value}(h:F6 x0 w R E):Cv pG 6 #[x0] w R E:=okF (h:=h6) Tryz.func6 (by kernel_rfl) (by kernel_rfl) h
def h7:Hint:=(sQ (sQ (hS (sQ (hC (sQ hN) hN)) (sQ (sQ (sQ (sQ (hU [] (sQ (hC (sQ hN) hN)) (hS (hS (.reg [(0,70368744177664,64),(1,140737488355328,70368744177664),(2,281474976710656,140737488355328),(4,562949953421312,281474976710656),(8,1125899906842624,562949953421312),(16,2251799813685248,1125899906842624),(0,4503599627370496,2),(64,9007199254740992,4503599627370496),(160,18014398509481984,11258999068426240),(256,36028797018963968,18014398509481984)] [80,80,80,80,64,80,16,16,80,80] (.early 0 (.early 1 (.early 2 (.early 3 (.load 4 (.early 5 (.load 6 (.step 7 (.early 8 (.early 9 .done))))))))))) (hC (sQ hN) hN)) (hS (sQ (hC (sQ hN) hN)) (sQ hN)))))))))))
def c0O(w)(R:RT)(_E:Pan):=
 ∀_τ:Fr,(R (vB true) w)
def c4D(x2 x3 x5 w)(next2:NT)(j1:NT)(R:RT)(E):=
 opK pG E (fA 30 x2 5) w fun g i=>
 oP E (lA 28 g) i fun j k=>
 oP E (xBuiltin .len #[28] 3 [false] [j]) k fun l m=>
 oP E (bN .lss 3 50 53 x5 l) m fun n b=>
 xcond n
 (dX b fun a=>
 qP pG (fA 30 x2 5) fun c=>
 qP pG (fA 30 x3 5) fun d=>
 qL pG a (blk c) (lA 28 c) fun o=>
 qP pG (iA 28 o x5) fun e=>
 qL pG a (blk e) (lA 40 e) fun p=>
 qL pG a (blk d) (lA 28 d) fun q=>
 qP pG (iA 28 q x5) fun f=>
 qL pG a (blk f) (lA 40 f) fun r=>
 qP pG (bN .neq 40 61 66 p r) fun s=>
 xcond s
 (R (vB false) a)
 (oP E (bC .add 3 55 x5 (vI 1)) a fun t u=>
 next2 [t] u))
 (j1 [] b)
def F8(x0 x1 w)(R:RT)(E):=
 opK pG E (xV (Instr.box 30 x0)) w fun b j=>
 oP E (xV (Instr.box 30 x1)) j fun c k=>
 oP E (fA 30 b 0) k fun l m=>
 oP E (lA 27 l) m fun n o=>
 oP E (fA 30 c 0) o fun p q=>
 oP E (lA 27 p) q fun r s=>
 oP E (xCall (fC 31) [n,r]) s fun t u=>
 oP E (xV (Op.unary .not t)) u fun e v=>
 oP E (gNo e (fA 30 b 1)) v fun y z=>
 oP E (gNo e (lA 3 y)) z fun aa ab=>
 oP E (gNo e (fA 30 c 1)) ab fun ac ad=>
 oP E (gNo e (lA 3 ac)) ad fun ae af=>
 oP E (gNo e (bN .neq 3 14 16 aa ae)) af fun ag ah=>
 oP E (xPick e (vB true) ag) ah fun d ai=>
 oP E (gNo d (fA 30 b 2)) ai fun aj ak=>
 oP E (gNo d (lA 22 aj)) ak fun al am=>
 oP E (gNo d (fA 30 c 2)) am fun an ao=>
 oP E (gNo d (lA 22 an)) ao fun ap aq=>
 oP E (gNo d (xCall (fC 32) [al,ap])) aq fun ar au=>
 oP E (gNo d (xV (Op.unary .not ar))) au fun av aw=>
 oP E (xPick d (vB true) av) aw fun f ax=>
 oP E (gNo f (fA 30 b 3)) ax fun ay az=>
 oP E (gNo f (lA 3 ay)) az fun ba bb=>
 oP E (gNo f (fA 30 c 3)) bb fun bc bd=>
 oP E (gNo f (lA 3 bc)) bd fun be bf=>
 oP E (gNo f (bN .neq 3 29 31 ba be)) bf fun bg bh=>
 oP E (xPick f (vB true) bg) bh fun g bi=>
 oP E (gNo g (fA 30 b 4)) bi fun bj bk=>
 oP E (gNo g (lA 3 bj)) bk fun bl bm=>
 oP E (gNo g (fA 30 c 4)) bm fun bn bo=>
 oP E (gNo g (lA 3 bn)) bo fun bp bq=>
 oP E (gNo g (bN .neq 3 36 38 bl bp)) bq fun br bs=>
 oP E (xPick g (vB true) br) bs fun a bt=>
 oP E (gNo a (fA 30 b 5)) bt fun bu bv=>
 oP E (gNo a (lA 28 bu)) bv fun bw bz=>
 oP E (gNo a (xBuiltin .len #[28] 3 [false] [bw])) bz fun ca cb=>
 oP E (gNo a (fA 30 c 5)) cb fun cc cd=>
 oP E (gNo a (lA 28 cc)) cd fun ce cf=>
 oP E (gNo a (xBuiltin .len #[28] 3 [false] [ce])) cf fun cg ch=>
 oP E (gNo a (bN .neq 3 44 47 ca cg)) ch fun ci cj=>
 oP E (xPick a (vB true) ci) cj fun ck i=>
 xcond ck
 (R (vB false) i)
 (xcut (fun _ cl=>c0O cl R E) fun j1=>
 xloop [5] [(vI 0)] i fun cm cn next2=>
 c4D b c (cm 5) cn next2 j1 R E)
def h8:Hint:=(sQ (hS (sQ (hC (sQ hN) hN)) (hU [] (sQ (hB (hL [5] (hS (sQ (hC hN hN)) (hS (hB (hS (.reg [(0,144115188075855872,4),(1,288230376151711744,144115188075855872),(0,576460752303423488,32),(6,1152921504606846976,864691128455135232),(8,2305843009213693952,1152921504606846976),(0,4611686018427387904,8),(32,9223372036854775808,4611686018427387904),(0,18446744073709551616,32),(192,36893488147419103232,27670116110564327424),(256,73786976294838206464,36893488147419103232),(528,147573952589676412928,76092819304051900416)] [594,592,594,594,578,594,530,594,594,82,594] (.early 0 (.early 2 (.early 5 (.early 7 (.load 1 (.early 3 (.load 4 (.load 6 (.early 8 (.load 9 (.early 10 .done)))))))))))) (hC (sQ hN) hN))) hN))))) (sQ hN))))
theorem c9M{x0 x1:Value}(h:F8 x0 x1 w R E):Cv pG 8 #[x0,x1] w R E:=okF (h:=h8) Tryz.func8 (by kernel_rfl) (by kernel_rfl) h
def c0P(w)(R:RT)(_E:Pan):=
 ∀_τ:Fr,(R (vI 0) w)
def c4E(x1 x4 x7 w)(next4:NT)(j3:NT)(R:RT)(E):=
 opK pG E (fA 30 x1 3) w fun e f=>
 oP E (lA 3 e) f fun g i=>
 oP E (bN .lss 3 146 148 x7 g) i fun j c=>
 xcond j
 (dX c fun a=>
 qP pG (iA 83 x4 x7) fun d=>
 qL pG a (blk x1) (lA 30 x1) fun k=>
 qL pG a (blk d) (lA 44 d) fun l=>
 oP E (xCall (fC 35) [k,l]) a fun m b=>
 keepX [] a b (qP pG (xV (Op.unary .not m)) fun n=>
 xcond n
 (R (vI 92) b)
 (oP E (bC .add 3 150 x7 (vI 1)) b fun o p=>
 next4 [o] p)))
 (j3 [] c)
def c0Q(x1 x4 w)(R:RT)(E):=
 ∀_τ:Fr,(xcut (fun _ a=>c0P a R E) fun j3=>
 xloop [7] [(vI 0)] w fun b c next4=>
 c4E x1 x4 (b 7) c next4 j3 R E)
def c4F(x1 x4 x5 w)(next5:NT)(j2:NT)(R:RT)(E):=
 opK pG E (fA 30 x1 5) w fun ad ae=>
 oP E (lA 28 ad) ae fun af ag=>
 oP E (xBuiltin .len #[28] 3 [false] [af]) ag fun ah ai=>
 oP E (bN .lss 3 83 86 x5 ah) ai fun aj r=>
 xcond aj
 (oP E (fA 30 x1 5) r fun ak al=>
 oP E (lA 28 ak) al fun am an=>
 oP E (iA 28 am x5) an fun ao ap=>
 oP E (lA 40 ao) ap fun aq ar=>
 oP E (xV (Instr.alloc 40 true (.tuple #[]))) ar fun b au=>
 oP E (sA 40 b aq) au fun _ av=>
 dX av fun a=>
 qP pG (fA 40 b 0) fun s=>
 qL pG a (blk s) (lA 3 s) fun aw=>
 qP pG (bC .lss 3 96 aw (vI 0)) fun d=>
 qP pG (gNo d (fA 40 b 0)) fun t=>
 qP pG (gNo d (fA 30 x1 3)) fun u=>
 qL pG a (blk t) (gNo d (lA 3 t)) fun ax=>
 qL pG a (blk u) (gNo d (lA 3 u)) fun ay=>
 qP pG (gNo d (bN .geq 3 100 102 ax ay)) fun az=>
 qP pG (xPick d (vB true) az) fun i=>
 qP pG (gNo i (fA 40 b 1)) fun v=>
 qL pG a (blk v) (gNo i (lA 3 v)) fun ba=>
 qP pG (gNo i (bC .lss 3 107 ba (vI 0))) fun bb=>
 qP pG (xPick i (vB true) bb) fun e=>
 qP pG (gNo e (fA 40 b 1)) fun y=>
 qP pG (gNo e (fA 30 x1 3)) fun z=>
 qL pG a (blk y) (gNo e (lA 3 y)) fun bc=>
 qL pG a (blk z) (gNo e (lA 3 z)) fun bd=>
 qP pG (gNo e (bN .geq 3 112 114 bc bd)) fun be=>
 qP pG (xPick e (vB true) be) fun f=>
 qP pG (gNo f (fA 40 b 0)) fun aa=>
 qP pG (gNo f (fA 30 x1 4)) fun ab=>
 qL pG a (blk aa) (gNo f (lA 3 aa)) fun bf=>
 qL pG a (blk ab) (gNo f (lA 3 ab)) fun bg=>
 qP pG (gNo f (bN .eql 3 119 121 bf bg)) fun bh=>
 qP pG (xPick f (vB true) bh) fun c=>
 qP pG (gNo c (fA 30 x1 2)) fun k=>
 qL pG a (blk b) (gNo c (lA 40 b)) fun bi=>
 qL pG a (blk x1) (gNo c (lA 30 x1)) fun bj=>
 qL pG a (blk k) (gNo c (lA 22 k)) fun bk=>
 qP pG (gNo c (xBuiltin .len #[22] 3 [false] [bk])) fun bl=>
 oP E (gNo c (xCall (fC 33) [bj])) a fun bm l=>
 keepX [(blk k),(blk b)] a l (opK pG E (gNo c (xCall (fC 34) [bi,bm,bl])) l fun bn m=>
 keepX [] l m (qP pG (gNo c (xV (Op.unary .not bn))) fun bo=>
 qP pG (xPick c (vB true) bo) fun bp=>
 xcond bp
 (R (vI 92) m)
 (dX m fun g=>
 qP pG (fA 40 b 0) fun j=>
 qP pG (fA 40 b 0) fun n=>
 qL pG g (blk j) (lA 3 j) fun bq=>
 qL pG g (blk n) (lA 3 n) fun br=>
 qP pG (iA 83 x4 br) fun o=>
 qL pG g (blk o) (lA 44 o) fun bs=>
 oP E (xV (Instr.buildSlice 44 1 #[(0,x5)])) g fun bt p=>
 keepX [(blk o),(blk n),(blk j)] g p (opK pG E (xBuiltin .append #[44,44] 44 [false,false] [bs,bt]) p fun bu q=>
 keepX [(blk j)] p q (qP pG (iA 83 x4 bq) fun bv=>
 oP E (sA 44 bv bu) q fun _ ac=>
 keepX [] q ac (opK pG E (bC .add 3 88 x5 (vI 1)) ac fun bw bz=>
 next5 [bw] bz)))))))
 (j2 [] r)
def c0R(x1 w)(R:RT)(E):=
 ∀_τ:Fr,(oP E (fA 30 x1 3) w fun c d=>
 oP E (lA 3 c) d fun a e=>
 oP E (xV (Instr.makeSlice 83 a a)) e fun b f=>
 xcut (fun _ g=>c0Q x1 b g R E) fun j2=>
 xloop [5] [(vI 0)] f fun i j next5=>
 c4F x1 b (i 5) j next5 j2 R E)
def c4G(x1 x3 w)(next6:NT)(j1:NT)(R:RT)(E):=
 opK pG E (fA 30 x1 2) w fun d e=>
 oP E (lA 22 d) e fun f g=>
 oP E (xBuiltin .len #[22] 3 [false] [f]) g fun i j=>
 oP E (bN .lss 3 57 60 x3 i) j fun k b=>
 xcond k
 (oP E (fA 30 x1 2) b fun l m=>
 oP E (lA 22 l) m fun n o=>
 oP E (iA 22 n x3) o fun p q=>
 oP E (fA 70 p 1) q fun r s=>
 oP E (lA 3 r) s fun t u=>
 oP E (bC .lss 3 69 t (vI 1)) u fun a v=>
 oP E (gNo a (fA 30 x1 2)) v fun y z=>
 oP E (gNo a (lA 22 y)) z fun aa ab=>
 oP E (gNo a (iA 22 aa (zF a x3))) ab fun ac ad=>
 oP E (gNo a (fA 70 ac 1)) ad fun ae af=>
 oP E (gNo a (lA 3 ae)) af fun ag ah=>
 oP E (gNo a (bC .gtr 3 77 ag (vI 1024))) ah fun ai aj=>
 oP E (xPick a (vB true) ai) aj fun ak c=>
 xcond ak
 (R (vI 92) c)
 (oP E (bC .add 3 62 x3 (vI 1)) c fun al am=>
 next6 [al] am))
 (j1 [] b)
def F9(x0 w)(R:RT)(E):=
 opK pG E (xV (Instr.box 30 x0)) w fun a m=>
 oP E (fA 30 a 1) m fun n o=>
 oP E (lA 3 n) o fun p q=>
 oP E (bC .lss 3 9 p (vI 0)) q fun e r=>
 oP E (gNo e (fA 30 a 1)) r fun s t=>
 oP E (gNo e (lA 3 s)) t fun u v=>
 oP E (gNo e (bC .gtr 3 13 u (vI 64))) v fun y z=>
 oP E (xPick e (vB true) y) z fun c aa=>
 oP E (gNo c (fA 30 a 0)) aa fun ab ac=>
 oP E (gNo c (lA 27 ab)) ac fun ad ae=>
 oP E (gNo c (xBuiltin .len #[27] 3 [false] [ad])) ae fun af ag=>
 oP E (gNo c (bC .gtr 3 19 af (vI 64))) ag fun ah ai=>
 oP E (xPick c (vB true) ah) ai fun f aj=>
 oP E (gNo f (lA 30 a)) aj fun ak al=>
 oP E (gNo f (xCall (fC 33) [ak])) al fun am an=>
 oP E (gNo f (bC .gtr 3 24 am (vI 64))) an fun ao ap=>
 oP E (xPick f (vB true) ao) ap fun aq j=>
 xcond aq
 (R (vI 90) j)
 (oP E (fA 30 a 3) j fun ar au=>
 oP E (lA 3 ar) au fun av aw=>
 oP E (bC .lss 3 28 av (vI 1)) aw fun g ax=>
 oP E (gNo g (fA 30 a 3)) ax fun ay az=>
 oP E (gNo g (lA 3 ay)) az fun ba bb=>
 oP E (gNo g (bC .gtr 3 32 ba (vI 4096))) bb fun bc bd=>
 oP E (xPick g (vB true) bc) bd fun d be=>
 oP E (gNo d (fA 30 a 5)) be fun bf bg=>
 oP E (gNo d (lA 28 bf)) bg fun bh bi=>
 oP E (gNo d (xBuiltin .len #[28] 3 [false] [bh])) bi fun bj bk=>
 oP E (gNo d (bC .gtr 3 38 bj (vI 8192))) bk fun bl bm=>
 oP E (xPick d (vB true) bl) bm fun bn k=>
 xcond bn
 (R (vI 91) k)
 (oP E (fA 30 a 2) k fun bo bp=>
 oP E (lA 22 bo) bp fun bq br=>
 oP E (xBuiltin .len #[22] 3 [false] [bq]) br fun bs bt=>
 oP E (bC .gtr 3 43 bs (vI 16)) bt fun i bu=>
 oP E (gNo i (fA 30 a 4)) bu fun bv bw=>
 oP E (gNo i (lA 3 bv)) bw fun bz ca=>
 oP E (gNo i (bC .lss 3 47 bz (vI 0))) ca fun cb cc=>
 oP E (xPick i (vB true) cb) cc fun b cd=>
 oP E (gNo b (fA 30 a 4)) cd fun ce cf=>
 oP E (gNo b (lA 3 ce)) cf fun cg ch=>
 oP E (gNo b (fA 30 a 3)) ch fun ci cj=>
 oP E (gNo b (lA 3 ci)) cj fun ck cl=>
 oP E (gNo b (bN .geq 3 52 54 cg ck)) cl fun cm cn=>
 oP E (xPick b (vB true) cm) cn fun co l=>
 xcond co
 (R (vI 92) l)
 (xcut (fun _ cp=>c0R a cp R E) fun j1=>
 xloop [3] [(vI 0)] l fun cq cr next6=>
 c4G a (cq 3) cr next6 j1 R E)))
def h9:Hint:=(sQ (hS (sQ (hC (sQ hN) hN)) (hS (sQ (hC (sQ hN) hN)) (hS (sQ (hC (sQ hN) hN)) (hU [] (sQ (hB (hL [3] (hS (sQ (hC hN hN)) (hS (hB (sQ (hC (sQ hN) hN))) hN))))) (sQ (hU [] (sQ (hB (hL [5] (hS (sQ (hC hN hN)) (hS (hB (sQ (hS (hS (.reg [(0,39614081257132168796771975168,64),(1,79228162514264337593543950336,39614081257132168796771975168),(2,158456325028528675187087900672,79228162514264337593543950336),(4,316912650057057350374175801344,158456325028528675187087900672),(8,633825300114114700748351602688,316912650057057350374175801408),(24,1267650600228229401496703205376,950737950171172051122527404032),(8,2535301200456458802993406410752,316912650057057350374175801346),(72,5070602400912917605986812821504,2852213850513516153367582212096),(168,10141204801825835211973625643008,6655165651198204357857691828224),(264,20282409603651670423947251286016,10458117451882892562347801444352),(520,40564819207303340847894502572032,20282409603651670423947251286016),(1024,81129638414606681695789005144064,40564819207303340847894502572096),(3072,162259276829213363391578010288128,121694457621910022543683507716096),(5120,324518553658426726783156020576256,202824096036516704239472512860160),(9216,649037107316853453566312041152512,365083372865730067631050523148288),(17408,1298074214633706907132624082305024,649037107316853453566312041152512),(32768,2596148429267413814265248164610048,1298074214633706907132624082305088),(98304,5192296858534827628530496329220096,3894222643901120721397872246915072),(32768,10384593717069655257060992658440192,1298074214633706907132624082305026),(294912,20769187434139310514121985316880384,11682667931703362164193616740745216),(688128,41538374868278621028243970633760768,27259558507307845049785105728405504),(1081344,83076749736557242056487941267521536,42836449082912327935376594716065792),(2129920,166153499473114484112975882535043072,83076749736557242056487941267521536),(4194304,332306998946228968225951765070086144,166153499473114484112975882535043136),(12582912,664613997892457936451903530140172288,498460498419343452338927647605129216),(4194304,1329227995784915872903807060280344576,166153499473114484112975882535043074),(37748736,2658455991569831745807614120560689152,1495381495258030357016782942815387648),(88080384,5316911983139663491615228241121378304,3489223488935404166372493533235904512),(138412032,10633823966279326983230456482242756608,5483065482612777975728204123656421376),(272629760,21267647932558653966460912964485513216,10633823966279326983230456482242756608),(536870912,42535295865117307932921825928971026432,21267647932558653966460912964485513280),(536870912,85070591730234615865843651857942052864,21267647932558653966460912964485513218),(2684354560,170141183460469231731687303715884105728,106338239662793269832304564822427566080),(536870912,340282366920938463463374607431768211456,21267647932558653966460912964485513218),(9126805504,680564733841876926926749214863536422912,361550014853497117429835520396253724672),(17716740096,1361129467683753853853498429727072845824,701832381774435580893210127828021936128),(40265318400,2722258935367507707706996859454145691648,1595073594941899047484568472336413491200),(69256347648,5444517870735015415413993718908291383296,2743526583300066361673457772418631204864),(137975824384,10889035741470030830827987437816582766592,5465785518667574069380454631872776896512)] [20485640354,20485640352,20485640354,20485640354,20485640354,20485640322,20485640354,20485640226,20485640354,20485640354,20485640354,20485640354,20485636258,20485640354,20485640354,20485640354,20485640354,20485509282,20485640354,20485116066,20485640354,20485640354,20485640354,20485640354,20468863138,20485640354,20418531490,20485640354,20485640354,20485640354,19411898530,18338156706,18253611008,20485640354,3305771170,20485640354,0,20485640354,20485640354] (.early 0 (.load 1 (.early 2 (.early 3 (.early 4 (.early 6 (.load 5 (.load 7 (.early 8 (.early 9 (.early 10 (.early 11 (.load 12 (.early 13 (.early 14 (.early 15 (.early 16 (.early 18 (.load 17 (.load 19 (.early 20 (.early 21 (.early 22 (.early 23 (.early 25 (.load 24 (.load 26 (.early 27 (.early 28 (.early 29 (.early 33 (.load 30 (.load 31 (.load 34 (.early 35 (.step 32 (.step 36 (.early 37 (.early 38 .done)))))))))))))))))))))))))))))))))))))))) (hC (sQ hN) hN)) (.reg [(0,21778071482940061661655974875633165533184,16),(0,43556142965880123323311949751266331066368,64),(2,87112285931760246646623899502532662132736,43556142965880123323311949751266331066368),(0,174224571863520493293247799005065324265472,16),(0,348449143727040986586495598010130648530944,64),(16,696898287454081973172991196020261297061888,348449143727040986586495598010130648530944),(40,1393796574908163946345982392040522594123776,871122859317602466466238995025326621327360),(64,2787593149816327892691964784081045188247552,1393796574908163946345982392040522594123776),(0,5575186299632655785383929568162090376495104,32),(256,11150372599265311570767859136324180752990208,5575186299632655785383929568162090376495104),(640,22300745198530623141535718272648361505980416,13937965749081639463459823920405225941237760),(2047,44601490397061246283071436545296723011960832,108890357414700308308279874378165827665920),(4095,0,66902235595591869424607154817945084517941248)] [164,164,160,164,164,132,164,36,164,164,4,164,0] (.early 0 (.early 1 (.early 3 (.early 4 (.early 8 (.load 2 (.load 5 (.early 6 (.load 7 (.step 9 (.step 10 (.early 11 (.step 12 .done))))))))))))))))) hN))))) (hU [] (sQ (hB (hL [7] (hS (sQ (hC hN hN)) (hS (hB (hS (.reg [(0,5708990770823839524233143877797980545530986496,2),(0,11417981541647679048466287755595961091061972992,16),(0,22835963083295358096932575511191922182123945984,128),(6,45671926166590716193865151022383844364247891968,34253944624943037145398863266787883273185918976),(8,91343852333181432387730302044767688728495783936,45671926166590716193865151022383844364247891968),(17,182687704666362864775460604089535377456991567872,97052843104005271911963445922565669274026770432),(32,365375409332725729550921208179070754913983135744,182687704666362864775460604089535377456991567872)] [16,17,17,17,1,0,17] (.early 1 (.early 2 (.early 3 (.load 0 (.load 4 (.step 5 (.early 6 .done)))))))) (hC (sQ hN) hN))) hN))))) (sQ hN)))))))))
theorem c9N{x0:Value}(h:F9 x0 w R E):Cv pG 9 #[x0] w R E:=okF (h:=h9) Tryz.func9 (by kernel_rfl) (by kernel_rfl) h
def F10(x0 w)(R:RT)(E):=
 opK pG E (xV (Instr.box 30 x0)) w fun a d=>
 oP E (xV (Instr.alloc 30 true (.tuple #[]))) d fun b e=>
 oP E (fA 30 a 0) e fun f g=>
 oP E (lA 27 f) g fun i j=>
 oP E (xBuiltin .append #[27,27] 27 [true,false] [(nS),i]) j fun k l=>
 oP E (fA 30 a 0) l fun m n=>
 oP E (sA 27 m k) n fun _ o=>
 oP E (fA 30 a 2) o fun p q=>
 oP E (lA 22 p) q fun r s=>
 oP E (xBuiltin .append #[22,22] 22 [true,false] [(nS),r]) s fun t u=>
 oP E (fA 30 a 2) u fun v y=>
 oP E (sA 22 v t) y fun _ z=>
 oP E (fA 30 a 5) z fun aa ab=>
 oP E (lA 28 aa) ab fun ac ad=>
 oP E (xBuiltin .append #[28,28] 28 [true,false] [(nS),ac]) ad fun ae af=>
 oP E (fA 30 a 5) af fun ag ah=>
 oP E (sA 28 ag ae) ah fun _ ai=>
 oP E (lA 30 a) ai fun aj ak=>
 oP E (sA 30 b aj) ak fun _ c=>
 xcell pG 30 b c fun al=>
 R al c
def h10:Hint:=(sQ (sQ (sQ (sQ (sQ hN)))))
theorem c7h{x0:Value}(h:F10 x0 w R E):Cv pG 10 #[x0] w R E:=okF (h:=h10) Tryz.func10 (by kernel_rfl) (by kernel_rfl) h
def F11(x0 x1 w)(R:RT)(E):=
 opK pG E (xV (Instr.box 30 x0)) w fun b f=>
 oP E (lA 30 b) f fun g i=>
 oP E (xCall (fC 15) [g]) i fun c j=>
 oP E (bC .neq 31 9 c (vI 0)) j fun k d=>
 xcond k
 (R (Value.tuple #[(nS),c]) d)
 (oP E (bC .lss 3 12 x1 (vI 0)) d fun a l=>
 oP E (gNo a (fA 30 b 3)) l fun m n=>
 oP E (gNo a (lA 3 m)) n fun o p=>
 oP E (gNo a (bN .geq 3 15 17 (zF a x1) o)) p fun q r=>
 oP E (xPick a (vB true) q) r fun s e=>
 xcond s
 (R (Value.tuple #[(nS),(vI 92)]) e)
 (oP E (lA 30 b) e fun t u=>
 oP E (xCall (fC 36) [t]) u fun v y=>
 oP E (iA 83 v x1) y fun z aa=>
 oP E (lA 44 z) aa fun ab ac=>
 R (Value.tuple #[ab,(vI 0)]) ac))
def h11:Hint:=(sQ (hS (sQ (sQ (hC (sQ hN) hN))) (hS (sQ (hC (sQ hN) hN)) (sQ hN))))
theorem c7i{x0 x1:Value}(h:F11 x0 x1 w R E):Cv pG 11 #[x0,x1] w R E:=okF (h:=h11) Tryz.func11 (by kernel_rfl) (by kernel_rfl) h
def F12(x0 w)(R:RT)(E):=
 opK pG E (xV (Instr.box 30 x0)) w fun a i=>
 oP E (lA 30 a) i fun j k=>
 oP E (xCall (fC 15) [j]) k fun d l=>
 oP E (bC .neq 31 10 d (vI 0)) l fun m e=>
 xcond m
 (R (Value.tuple #[(nS),d]) e)
 (oP E (lA 30 a) e fun n o=>
 oP E (xCall (fC 36) [n]) o fun p q=>
 oP E (xV (Instr.alloc 83 true (.tuple #[]))) q fun f r=>
 oP E (sA 83 f p) r fun _ s=>
 oP E (fA 30 a 3) s fun t u=>
 oP E (lA 3 t) u fun g v=>
 oP E (xV (Instr.makeSlice 47 g g)) v fun y z=>
 oP E (xV (Instr.alloc 47 true (.tuple #[]))) z fun b aa=>
 oP E (sA 47 b y) aa fun _ ab=>
 oP E (xV (Instr.alloc 87 true (.tuple #[]))) ab fun c ac=>
 oP E (xV (Instr.makeFunc (.func 37) #[] #[b,f,c,a])) ac fun ad ae=>
 oP E (sA 87 c ad) ae fun _ af=>
 oP E (lA 87 c) af fun ag ah=>
 oP E (xCall ag [(vI 0)]) ah fun _t20_35 ai=>
 oP E (lA 47 b) ai fun aj ak=>
 R (Value.tuple #[aj,(vI 0)]) ak)
def h12:Hint:=(sQ (hS (sQ (sQ (hC (sQ hN) hN))) (sQ (sQ (sQ (sQ (sQ (sQ hN))))))))
theorem c7j{x0:Value}(h:F12 x0 w R E):Cv pG 12 #[x0] w R E:=okF (h:=h12) Tryz.func12 (by kernel_rfl) (by kernel_rfl) h
def b7U(x13 w)(R:RT)(_E:Pan):=
 ∀_τ:Fr,(R (Value.tuple #[x13,(vI 0)]) w)
def b7V(_x10 x13 _x74 x75:Value)(w)(next4:NT)(_R:RT)(E):=
 ∀_τ:Fr,(oP E (bC .add 3 75 x75 (vI 1)) w fun a b=>
 next4 [x13,a] b)
def c1X(x10 x13 x74 x75 w)(next4:NT)(j3:NT)(R:RT)(E):=
 opK pG E (bN .lss 3 75 74 x75 x74) w fun c a=>
 xcond c
 (xcut (fun d e=>b7V x10 (nth d 0) x74 x75 e next4 R E) fun j5=>
 oP E (iA 47 x10 x75) a fun f g=>
 oP E (lA 4 f) g fun i b=>
 xcond i
 (oP E (xV (Instr.buildSlice 44 1 #[(0,x75)])) b fun j k=>
 oP E (xBuiltin .append #[44,44] 44 [false,false] [x13,j]) k fun l m=>
 j5 [l] m)
 (j5 [x13] b))
 (j3 [x13] a)
def b7W(x1 x10 w)(R:RT)(E):=
 ∀_τ:Fr,(xcut (fun b c=>b7U (nth b 0) c R E) fun j3=>
 oP E (fA 30 x1 3) w fun d e=>
 oP E (lA 3 d) e fun f g=>
 xloop [13,75] [(nS),(vI 0)] g fun a i next4=>
 c1X x10 (a 13) f (a 75) i next4 j3 R E)
def c1Y(_x1 x7 x10 x44 x45 x46:Value)(w)(next6:NT)(j2:NT)(_R:RT)(E):=
 opK pG E (bN .lss 3 46 45 x46 x45) w fun n d=>
 xcond n
 (oP E (iA 28 x44 x46) d fun o p=>
 oP E (lA 40 o) p fun q r=>
 oP E (xV (Instr.alloc 40 true (.tuple #[]))) r fun c s=>
 oP E (sA 40 c q) s fun _ t=>
 dX t fun b=>
 qP pG (fA 40 c 1) fun e=>
 qP pG (fA 40 c 1) fun f=>
 qL pG b (blk e) (lA 3 e) fun u=>
 qL pG b (blk f) (lA 3 f) fun v=>
 qP pG (iA 47 x10 v) fun g=>
 qL pG b (blk g) (lA 4 g) fun a=>
 qP pG (gNo a (fA 40 c 0)) fun i=>
 qP pG (gNo a (fA 40 c 1)) fun j=>
 qL pG b (blk i) (gNo a (lA 3 i)) fun y=>
 qP pG (gNo a (iA 44 (zF a x7) y)) fun k=>
 qL pG b (blk k) (gNo a (lA 3 k)) fun z=>
 qL pG b (blk j) (gNo a (lA 3 j)) fun aa=>
 qP pG (gNo a (iA 44 (zF a x7) aa)) fun l=>
 qL pG b (blk l) (gNo a (lA 3 l)) fun ab=>
 qP pG (gNo a (bN .geq 3 63 68 z ab)) fun ac=>
 qP pG (xPick a (vB true) ac) fun ad=>
 qP pG (iA 47 x10 u) fun ae=>
 oP E (sA 4 ae ad) b fun _ m=>
 keepX [] b m (opK pG E (bC .add 3 46 x46 (vI 1)) m fun af ag=>
 next6 [af] ag))
 (j2 [] d)
def b7X(x1 x7 w)(R:RT)(E):=
 ∀_τ:Fr,(oP E (fA 30 x1 3) w fun d e=>
 oP E (lA 3 d) e fun a f=>
 oP E (xV (Instr.makeSlice 47 a a)) f fun b g=>
 xcut (fun _ i=>b7W x1 b i R E) fun j2=>
 oP E (fA 30 x1 5) g fun j k=>
 oP E (lA 28 j) k fun c l=>
 oP E (xBuiltin .len #[28] 3 [false] [c]) l fun m n=>
 xloop [46] [(vI 0)] n fun o p next6=>
 c1Y x1 x7 b c m (o 46) p next6 j2 R E)
def c1Z(_x1 x7 x28 x29 x30:Value)(w)(next7:NT)(j1:NT)(_R:RT)(E):=
 opK pG E (bN .lss 3 30 29 x30 x29) w fun b a=>
 xcond b
 (oP E (iA 44 x28 x30) a fun c d=>
 oP E (lA 3 c) d fun e f=>
 oP E (iA 44 x7 e) f fun g i=>
 oP E (sA 3 g x30) i fun _ j=>
 oP E (bC .add 3 30 x30 (vI 1)) j fun k l=>
 next7 [k] l)
 (j1 [] a)
def F13(x0 w)(R:RT)(E):=
 opK pG E (xV (Instr.box 30 x0)) w fun a i=>
 oP E (lA 30 a) i fun j k=>
 oP E (xCall (fC 15) [j]) k fun b l=>
 oP E (bC .neq 31 17 b (vI 0)) l fun m c=>
 xcond m
 (R (Value.tuple #[(nS),b]) c)
 (oP E (lA 30 a) c fun n o=>
 oP E (xCall (fC 14) [n]) o fun d p=>
 oP E (xT d 0) p fun e q=>
 oP E (xT d 1) q fun _t24_15 r=>
 oP E (fA 30 a 3) r fun s t=>
 oP E (lA 3 s) t fun f u=>
 oP E (xV (Instr.makeSlice 44 f f)) u fun g v=>
 xcut (fun _ y=>b7X a g y R E) fun j1=>
 oP E (xBuiltin .len #[44] 3 [false] [e]) v fun z aa=>
 xloop [30] [(vI 0)] aa fun ab ac next7=>
 c1Z a g e z (ab 30) ac next7 j1 R E)
def h13:Hint:=(sQ (hS (sQ (sQ (hC (sQ hN) hN))) (sQ (sQ (hU [] (sQ (hB (hL [30] (sQ (hS (hC hN hN) (hS (hB (sQ hN)) hN)))))) (sQ (hU [] (sQ (hB (hL [46] (sQ (hS (hC hN hN) (hS (hB (sQ (.reg [(0,1125899906842624,1024),(0,2251799813685248,4096),(2,4503599627370496,2251799813685248),(0,9007199254740992,1024),(0,18014398509481984,4096),(16,36028797018963968,18014398509481984),(40,72057594037927936,45035996273704960),(64,144115188075855872,72057594037927936),(128,288230376151711744,144115188075855872),(256,576460752303423488,288230376151711872),(256,1152921504606846976,288230376151715840),(1280,2305843009213693952,1441151880758558720),(2816,4611686018427387904,3170534137668829184),(4352,9223372036854775808,4899916394579099648),(256,18446744073709551616,288230376151711872),(256,36893488147419103232,288230376151715840),(33024,73786976294838206464,37181718523570814976),(82176,147573952589676412928,92521950744699469824),(131328,295147905179352825856,147862182965828124672),(270592,590295810358705651712,304659507592359313408),(524544,1180591620717411303424,590584040734857363456),(2097151,2361183241434822606848,5629499534213120),(4194303,0,3541774862152233910272)] [338084,338084,338080,338084,338084,338052,338084,337956,338084,338084,338084,336036,338084,329892,338084,338084,272548,338084,75940,338084,338084,338084,0] (.early 0 (.early 1 (.early 3 (.early 4 (.load 2 (.load 5 (.early 6 (.load 7 (.early 8 (.early 9 (.early 10 (.early 14 (.early 15 (.load 11 (.early 12 (.load 13 (.load 16 (.early 17 (.load 18 (.early 19 (.early 20 (.early 21 (.step 22 .done)))))))))))))))))))))))))) hN)))))) (sQ (hU [13] (sQ (hB (hL [13,75] (sQ (hS (hC hN hN) (hU [13] (hB (sQ (sQ (hC hN hN)))) hN)))))) (sQ hN))))))))))
theorem c7k{x0:Value}(h:F13 x0 w R E):Cv pG 13 #[x0] w R E:=okF (h:=h13) Tryz.func13 (by kernel_rfl) (by kernel_rfl) h
def b7Y(x7 w)(R:RT)(E):=
 ∀_τ:Fr,(oP E (lA 44 x7) w fun a b=>
 R (Value.tuple #[a,(vI 0)]) b)
def b7Z(_x6 _x7 _x26 x27:Value)(w)(next2:NT)(_R:RT)(E):=
 ∀_τ:Fr,(oP E (bC .add 3 27 x27 (vI 1)) w fun a b=>
 next2 [a] b)
def c2a(x6 x7 x26 x27 w)(next2:NT)(j1:NT)(R:RT)(E):=
 opK pG E (bN .lss 3 27 26 x27 x26) w fun c a=>
 xcond c
 (xcut (fun _ d=>b7Z x6 x7 x26 x27 d next2 R E) fun j3=>
 oP E (lA 47 x6) a fun e f=>
 oP E (iA 47 e x27) f fun g i=>
 oP E (lA 4 g) i fun j k=>
 oP E (xV (Op.unary .not j)) k fun l b=>
 xcond l
 (oP E (lA 44 x7) b fun m n=>
 oP E (xV (Instr.buildSlice 44 1 #[(0,x27)])) n fun o p=>
 oP E (xBuiltin .append #[44,44] 44 [false,false] [m,o]) p fun q r=>
 oP E (sA 44 x7 q) r fun _ s=>
 j3 [] s)
 (j3 [] b))
 (j1 [] a)
def F14(x0 w)(R:RT)(E):=
 opK pG E (xV (Instr.box 30 x0)) w fun a j=>
 oP E (lA 30 a) j fun k l=>
 oP E (xCall (fC 15) [k]) l fun e m=>
 oP E (bC .neq 31 12 e (vI 0)) m fun n f=>
 xcond n
 (R (Value.tuple #[(nS),e]) f)
 (oP E (lA 30 a) f fun o p=>
 oP E (xCall (fC 36) [o]) p fun q r=>
 oP E (xV (Instr.alloc 83 true (.tuple #[]))) r fun g s=>
 oP E (sA 83 g q) s fun _ t=>
 oP E (fA 30 a 3) t fun u v=>
 oP E (lA 3 u) v fun i y=>
 oP E (xV (Instr.makeSlice 47 i i)) y fun z aa=>
 oP E (xV (Instr.alloc 47 true (.tuple #[]))) aa fun c ab=>
 oP E (sA 47 c z) ab fun _ ac=>
 oP E (xV (Instr.alloc 44 true (.tuple #[]))) ac fun b ad=>
 oP E (xV (Instr.alloc 87 true (.tuple #[]))) ad fun d ae=>
 oP E (xV (Instr.makeFunc (.func 38) #[] #[c,g,a,d,b])) ae fun af ag=>
 oP E (sA 87 d af) ag fun _ ah=>
 oP E (lA 87 d) ah fun ai aj=>
 oP E (xCall ai [(vI 0)]) aj fun _t22_37 ak=>
 oP E (lA 44 b) ak fun al am=>
 oP E (xCall (fC 39) [al]) am fun _t24_41 an=>
 xcut (fun _ ao=>b7Y b ao R E) fun j1=>
 oP E (fA 30 a 3) an fun ap aq=>
 oP E (lA 3 ap) aq fun ar au=>
 xloop [27] [(vI 0)] au fun av aw next2=>
 c2a c b ar (av 27) aw next2 j1 R E)
def h14:Hint:=(sQ (hS (sQ (sQ (hC (sQ hN) hN))) (sQ (sQ (sQ (sQ (sQ (sQ (sQ (hU [] (sQ (hB (hL [27] (sQ (hS (hC hN hN) (hU [] (hB (sQ (sQ (hC hN hN)))) hN)))))) (sQ hN)))))))))))
theorem c7l{x0:Value}(h:F14 x0 w R E):Cv pG 14 #[x0] w R E:=okF (h:=h14) Tryz.func14 (by kernel_rfl) (by kernel_rfl) h
def b8a(w)(R:RT)(_E:Pan):=
 ∀_τ:Fr,(R (vI 0) w)
def c2b(x6 x99 x100 w)(next4:NT)(j3:NT)(R:RT)(E):=
 opK pG E (bN .lss 3 100 99 x100 x99) w fun c a=>
 xcond c
 (oP E (iA 92 x6 x100) a fun d e=>
 oP E (lA 28 d) e fun f g=>
 oP E (xCall (fC 42) [f]) g fun i j=>
 oP E (xV (Op.unary .not i)) j fun k b=>
 xcond k
 (R (vI 92) b)
 (oP E (bC .add 3 100 x100 (vI 1)) b fun l m=>
 next4 [l] m))
 (j3 [] a)
def b8b(x1 x6 w)(R:RT)(E):=
 ∀_τ:Fr,(xcut (fun _ a=>b8a a R E) fun j3=>
 oP E (fA 30 x1 3) w fun b c=>
 oP E (lA 3 b) c fun d e=>
 xloop [100] [(vI 0)] e fun f g next4=>
 c2b x6 d (f 100) g next4 j3 R E)
def c2c(_x1 x5 x6 x75 x76 x77:Value)(w)(next5:NT)(j2:NT)(R:RT)(E):=
 opK pG E (bN .lss 3 77 76 x77 x76) w fun l i=>
 xcond l
 (oP E (iA 28 x75 x77) i fun m n=>
 oP E (lA 40 m) n fun o p=>
 oP E (xV (Instr.alloc 40 true (.tuple #[]))) p fun a q=>
 oP E (sA 40 a o) q fun _ r=>
 oP E (lA 90 x5) r fun s t=>
 oP E (lA 40 a) t fun u v=>
 oP E (xCall (fC 41) [s,u]) v fun y z=>
 oP E (xV (Op.unary .not y)) z fun aa j=>
 xcond aa
 (R (vI 92) j)
 (dX j fun b=>
 qP pG (fA 40 a 0) fun c=>
 qP pG (fA 40 a 0) fun d=>
 qL pG b (blk c) (lA 3 c) fun ab=>
 qL pG b (blk d) (lA 3 d) fun ac=>
 qP pG (iA 92 x6 ac) fun e=>
 qL pG b (blk e) (lA 28 e) fun ad=>
 qL pG b (blk a) (lA 40 a) fun ae=>
 oP E (xV (Instr.buildSlice 28 1 #[(0,ae)])) b fun af f=>
 keepX [(blk e),(blk d),(blk c)] b f (opK pG E (xBuiltin .append #[28,28] 28 [false,false] [ad,af]) f fun ag g=>
 keepX [(blk c)] f g (qP pG (iA 92 x6 ab) fun ah=>
 oP E (sA 28 ah ag) g fun _ k=>
 keepX [] g k (opK pG E (bC .add 3 77 x77 (vI 1)) k fun ai aj=>
 next5 [ai] aj)))))
 (j2 [] i)
def b8c(x1 w)(R:RT)(E):=
 ∀_τ:Fr,(oP E (lA 30 x1) w fun f g=>
 oP E (xV (Instr.build 90 #[(0,f)])) g fun i j=>
 oP E (xV (Instr.alloc 90 true (.tuple #[]))) j fun a k=>
 oP E (sA 90 a i) k fun _ l=>
 oP E (lA 90 a) l fun m n=>
 oP E (fA 30 x1 4) n fun o p=>
 oP E (lA 3 o) p fun q r=>
 oP E (xCall (fC 40) [m,q]) r fun s t=>
 oP E (xV (Op.unary .not s)) t fun u b=>
 xcond u
 (R (vI 92) b)
 (oP E (fA 30 x1 3) b fun v y=>
 oP E (lA 3 v) y fun c z=>
 oP E (xV (Instr.makeSlice 92 c c)) z fun d aa=>
 xcut (fun _ ab=>b8b x1 d ab R E) fun j2=>
 oP E (fA 30 x1 5) aa fun ac ad=>
 oP E (lA 28 ac) ad fun e ae=>
 oP E (xBuiltin .len #[28] 3 [false] [e]) ae fun af ag=>
 xloop [77] [(vI 0)] ag fun ah ai next5=>
 c2c x1 a d e af (ah 77) ai next5 j2 R E))
def c2d(_x1 x49 x50 x51:Value)(w)(next6:NT)(j1:NT)(R:RT)(E):=
 opK pG E (bN .lss 3 51 50 x51 x50) w fun e c=>
 xcond e
 (oP E (iA 22 x49 x51) c fun f g=>
 oP E (lA 70 f) g fun i j=>
 oP E (xV (Instr.alloc 70 true (.tuple #[]))) j fun b k=>
 oP E (sA 70 b i) k fun _ l=>
 oP E (fA 70 b 1) l fun m n=>
 oP E (lA 3 m) n fun o p=>
 oP E (bC .lss 3 56 o (vI 1)) p fun a q=>
 oP E (gNo a (fA 70 b 1)) q fun r s=>
 oP E (gNo a (lA 3 r)) s fun t u=>
 oP E (gNo a (bC .gtr 3 60 t (vI 1024))) u fun v y=>
 oP E (xPick a (vB true) v) y fun z d=>
 xcond z
 (R (vI 92) d)
 (oP E (bC .add 3 51 x51 (vI 1)) d fun aa ab=>
 next6 [aa] ab))
 (j1 [] c)
def F15(x0 w)(R:RT)(E):=
 opK pG E (xV (Instr.box 30 x0)) w fun a k=>
 oP E (fA 30 a 1) k fun l m=>
 oP E (lA 3 l) m fun n o=>
 oP E (bC .lss 3 12 n (vI 0)) o fun d p=>
 oP E (gNo d (fA 30 a 1)) p fun q r=>
 oP E (gNo d (lA 3 q)) r fun s t=>
 oP E (gNo d (bC .gtr 3 16 s (vI 64))) t fun u v=>
 oP E (xPick d (vB true) u) v fun b y=>
 oP E (gNo b (fA 30 a 0)) y fun z aa=>
 oP E (gNo b (lA 27 z)) aa fun ab ac=>
 oP E (gNo b (xBuiltin .len #[27] 3 [false] [ab])) ac fun ad ae=>
 oP E (gNo b (fA 30 a 1)) ae fun af ag=>
 oP E (gNo b (lA 3 af)) ag fun ah ai=>
 oP E (gNo b (bN .add 3 22 24 ad ah)) ai fun aj ak=>
 oP E (gNo b (bC .gtr 3 25 aj (vI 64))) ak fun al am=>
 oP E (xPick b (vB true) al) am fun an f=>
 xcond an
 (R (vI 90) f)
 (oP E (fA 30 a 3) f fun ao ap=>
 oP E (lA 3 ao) ap fun aq ar=>
 oP E (bC .lss 3 30 aq (vI 1)) ar fun e au=>
 oP E (gNo e (fA 30 a 3)) au fun av aw=>
 oP E (gNo e (lA 3 av)) aw fun ax ay=>
 oP E (gNo e (bC .gtr 3 34 ax (vI 4096))) ay fun az ba=>
 oP E (xPick e (vB true) az) ba fun c bb=>
 oP E (gNo c (fA 30 a 5)) bb fun bc bd=>
 oP E (gNo c (lA 28 bc)) bd fun be bf=>
 oP E (gNo c (xBuiltin .len #[28] 3 [false] [be])) bf fun bg bh=>
 oP E (gNo c (bC .gtr 3 40 bg (vI 8192))) bh fun bi bj=>
 oP E (xPick c (vB true) bi) bj fun bk g=>
 xcond bk
 (R (vI 91) g)
 (oP E (fA 30 a 2) g fun bl bm=>
 oP E (lA 22 bl) bm fun bn bo=>
 oP E (xBuiltin .len #[22] 3 [false] [bn]) bo fun bp bq=>
 oP E (bC .gtr 3 46 bp (vI 16)) bq fun br i=>
 xcond br
 (R (vI 92) i)
 (xcut (fun _ bs=>b8c a bs R E) fun j1=>
 oP E (fA 30 a 2) i fun bt bu=>
 oP E (lA 22 bt) bu fun j bv=>
 oP E (xBuiltin .len #[22] 3 [false] [j]) bv fun bw bz=>
 xloop [51] [(vI 0)] bz fun ca cb next6=>
 c2d a j bw (ca 51) cb next6 j1 R E)))
def h15:Hint:=(sQ (hS (hB (sQ (hC (sQ hN) (sQ (hC (sQ hN) (sQ (hC (sQ hN) hN))))))) (hU [] (sQ (hB (hL [51] (sQ (hS (hC hN hN) (hS (hB (sQ (sQ (hC (sQ hN) hN)))) hN)))))) (sQ (hS (sQ (hC (sQ hN) hN)) (sQ (hU [] (sQ (hB (hL [77] (sQ (hS (hC hN hN) (hS (hB (sQ (hS (sQ (hC (sQ hN) hN)) (.reg [(0,38685626227668133590597632,64),(0,77371252455336267181195264,256),(2,154742504910672534362390528,77371252455336267181195264),(0,309485009821345068724781056,64),(0,618970019642690137449562112,256),(16,1237940039285380274899124224,618970019642690137449562112),(40,2475880078570760549798248448,1547425049106725343623905280),(64,4951760157141521099596496896,2475880078570760549798248448),(0,9903520314283042199192993792,256),(256,19807040628566084398385987584,9903520314283042199192993792),(640,39614081257132168796771975168,24758800785707605497982484480),(2047,79228162514264337593543950336,193428131138340667952988160),(4095,0,118842243771396506390315925504)] [420,420,416,420,420,388,420,292,164,164,4,420,0] (.early 0 (.early 1 (.early 3 (.early 4 (.load 2 (.load 5 (.early 6 (.load 7 (.load 8 (.step 9 (.step 10 (.early 11 (.step 12 .done))))))))))))))))) hN)))))) (hU [] (sQ (hB (hL [100] (sQ (hS (hC hN hN) (hS (hB (sQ (sQ (hC (sQ hN) hN)))) hN)))))) (sQ hN)))))))))
theorem c7m{x0:Value}(h:F15 x0 w R E):Cv pG 15 #[x0] w R E:=okF (h:=h15) Tryz.func15 (by kernel_rfl) (by kernel_rfl) h
def b8d(w)(R:RT)(_E:Pan):=
 ∀_τ:Fr,(R (vB true) w)
def c2e(x0 x1 x5 w)(next2:NT)(j1:NT)(R:RT)(E):=
 opK pG E (xBuiltin .len #[44] 3 [false] [x0]) w fun e f=>
 oP E (bN .lss 3 11 13 x5 e) f fun g b=>
 xcond g
 (dX b fun a=>
 qP pG (iA 44 x0 x5) fun c=>
 qP pG (iA 44 x1 x5) fun d=>
 qL pG a (blk c) (lA 3 c) fun i=>
 qL pG a (blk d) (lA 3 d) fun j=>
 qP pG (bN .neq 3 20 24 i j) fun k=>
 xcond k
 (R (vB false) a)
 (oP E (bC .add 3 15 x5 (vI 1)) a fun l m=>
 next2 [l] m))
 (j1 [] b)
def F16(x0 x1 w)(R:RT)(E):=
 opK pG E (xBuiltin .len #[44] 3 [false] [x0]) w fun b c=>
 oP E (xBuiltin .len #[44] 3 [false] [x1]) c fun d e=>
 oP E (bN .neq 3 7 9 b d) e fun f a=>
 xcond f
 (R (vB false) a)
 (xcut (fun _ g=>b8d g R E) fun j1=>
 xloop [5] [(vI 0)] a fun i j next2=>
 c2e x0 x1 (i 5) j next2 j1 R E)
def h16:Hint:=(sQ (hS (sQ (hC (sQ hN) hN)) (hU [] (sQ (hB (hL [5] (hS (sQ (hC hN hN)) (hS (hB (hS (.reg [(0,131072,1),(0,262144,32),(3,524288,393216),(4,1048576,524288),(0,2097152,2),(0,4194304,32),(48,8388608,6291456),(64,16777216,8388608),(136,33554432,17825792)] [136,136,136,128,136,136,136,8,136] (.early 0 (.early 1 (.early 2 (.early 4 (.early 5 (.early 6 (.load 3 (.load 7 (.early 8 .done)))))))))) (hC (sQ hN) hN))) hN))))) (sQ hN))))
theorem c7n{x0 x1:Value}(h:F16 x0 x1 w R E):Cv pG 16 #[x0,x1] w R E:=okF (h:=h16) Tryz.func16 (by kernel_rfl) (by kernel_rfl) h
def b8e(x5 w)(R:RT)(_E:Pan):=
 ∀_τ:Fr,(R x5 w)
def b8f(_x1 _x2 x5 x6:Value)(w)(next2:NT)(_R:RT)(E):=
 ∀_τ:Fr,(oP E (bC .add 3 12 x6 (vI 1)) w fun a b=>
 next2 [x5,a] b)
def c2f(x1 x2 x5 x6 w)(next2:NT)(j1:NT)(R:RT)(E):=
 opK pG E (fA 30 x2 5) w fun c d=>
 oP E (lA 28 c) d fun e f=>
 oP E (xBuiltin .len #[28] 3 [false] [e]) f fun g i=>
 oP E (bN .lss 3 7 10 x6 g) i fun j a=>
 xcond j
 (xcut (fun k l=>b8f x1 x2 (nth k 0) x6 l next2 R E) fun j3=>
 oP E (fA 30 x2 5) a fun m n=>
 oP E (lA 28 m) n fun o p=>
 oP E (iA 28 o x6) p fun q r=>
 oP E (fA 40 q 0) r fun s t=>
 oP E (lA 3 s) t fun u v=>
 oP E (bN .eql 3 19 20 u x1) v fun y b=>
 xcond y
 (oP E (xV (Instr.buildSlice 44 1 #[(0,x6)])) b fun z aa=>
 oP E (xBuiltin .append #[44,44] 44 [false,false] [x5,z]) aa fun ab ac=>
 j3 [ab] ac)
 (j3 [x5] b))
 (j1 [x5] a)
def F17(x0 x1 w)(R:RT)(E):=
 opK pG E (xV (Instr.box 30 x0)) w fun b c=>
 xcut (fun d e=>b8e (nth d 0) e R E) fun j1=>
 xloop [5,6] [(nS),(vI 0)] c fun a f next2=>
 c2f x1 b (a 5) (a 6) f next2 j1 R E
def h17:Hint:=(sQ (sQ (hU [5] (sQ (hB (hL [5,6] (hS (sQ (hC hN hN)) (hU [5] (hB (sQ (hC hN hN))) hN))))) (sQ hN))))
theorem c7o{x0 x1:Value}(h:F17 x0 x1 w R E):Cv pG 17 #[x0,x1] w R E:=okF (h:=h17) Tryz.func17 (by kernel_rfl) (by kernel_rfl) h
def F18(x0 w)(R:RT)(E):=
 opK pG E (xV (Instr.box 30 x0)) w fun a b=>
 oP E (lA 30 a) b fun c d=>
 oP E (xCall (fC 43) [c]) d fun e f=>
 oP E (xNil e) f fun g i=>
 oP E (fA 96 g 2) i fun j k=>
 oP E (lA 47 j) k fun l m=>
 R l m
def h18:Hint:=(sQ (sQ hN))
theorem c7p{x0:Value}(h:F18 x0 w R E):Cv pG 18 #[x0] w R E:=okF (h:=h18) Tryz.func18 (by kernel_rfl) (by kernel_rfl) h
def b8g(x8 w)(R:RT)(_E:Pan):=
 ∀_τ:Fr,(R x8 w)
def b8h(_x1 _x3 x8 x9:Value)(w)(next4:NT)(_R:RT)(E):=
 ∀_τ:Fr,(oP E (bC .add 3 69 x9 (vI 1)) w fun a b=>
 next4 [x8,a] b)
def c2g(x1 x3 x8 x9 w)(next4:NT)(j3:NT)(R:RT)(E):=
 opK pG E (fA 30 x1 3) w fun c d=>
 oP E (lA 3 c) d fun e f=>
 oP E (bN .lss 3 65 67 x9 e) f fun g a=>
 xcond g
 (xcut (fun i j=>b8h x1 x3 (nth i 0) x9 j next4 R E) fun j5=>
 oP E (iA 47 x3 x9) a fun k l=>
 oP E (lA 4 k) l fun m b=>
 xcond m
 (oP E (xV (Instr.buildSlice 44 1 #[(0,x9)])) b fun n o=>
 oP E (xBuiltin .append #[44,44] 44 [false,false] [x8,n]) o fun p q=>
 j5 [p] q)
 (j5 [x8] b))
 (j3 [x8] a)
def b8i(x1 x3 w)(R:RT)(E):=
 ∀_τ:Fr,(xcut (fun b c=>b8g (nth b 0) c R E) fun j3=>
 xloop [8,9] [(nS),(vI 0)] w fun a d next4=>
 c2g x1 x3 (a 8) (a 9) d next4 j3 R E)
def b8j(_x1 _x3 _x5 x7:Value)(w)(next6:NT)(_R:RT)(E):=
 ∀_τ:Fr,(oP E (bC .add 3 36 x7 (vI 1)) w fun a b=>
 next6 [a] b)
def c2h(x1 x3 x5 x7 w)(next6:NT)(j2:NT)(R:RT)(E):=
 opK pG E (fA 30 x1 5) w fun j k=>
 oP E (lA 28 j) k fun l m=>
 oP E (xBuiltin .len #[28] 3 [false] [l]) m fun n o=>
 oP E (bN .lss 3 31 34 x7 n) o fun p b=>
 xcond p
 (xcut (fun _ q=>b8j x1 x3 x5 x7 q next6 R E) fun j7=>
 dX b fun a=>
 qP pG (fA 30 x1 5) fun c=>
 qP pG (fA 30 x1 5) fun d=>
 qL pG a (blk c) (lA 28 c) fun r=>
 qP pG (iA 28 r x7) fun s=>
 qP pG (fA 40 s 0) fun e=>
 qL pG a (blk e) (lA 3 e) fun t=>
 qP pG (iA 44 x5 t) fun f=>
 qL pG a (blk f) (lA 3 f) fun u=>
 qL pG a (blk d) (lA 28 d) fun v=>
 qP pG (iA 28 v x7) fun y=>
 qP pG (fA 40 y 1) fun g=>
 qL pG a (blk g) (lA 3 g) fun z=>
 qP pG (iA 44 x5 z) fun i=>
 qL pG a (blk i) (lA 3 i) fun aa=>
 qP pG (bN .geq 3 46 55 u aa) fun ab=>
 xcond ab
 (oP E (fA 30 x1 5) a fun ac ad=>
 oP E (lA 28 ac) ad fun ae af=>
 oP E (iA 28 ae x7) af fun ag ah=>
 oP E (fA 40 ag 1) ah fun ai aj=>
 oP E (lA 3 ai) aj fun ak al=>
 oP E (iA 47 x3 ak) al fun am an=>
 oP E (sA 4 am (vB true)) an fun _ ao=>
 j7 [] ao)
 (j7 [] a))
 (j2 [] b)
def b8k(x1 x3 x5 w)(R:RT)(E):=
 ∀_τ:Fr,(xcut (fun _ a=>b8i x1 x3 a R E) fun j2=>
 xloop [7] [(vI 0)] w fun b c next6=>
 c2h x1 x3 x5 (b 7) c next6 j2 R E)
def c2i(_x1 _x3 x4 x5 x6:Value)(w)(next8:NT)(j1:NT)(_R:RT)(E):=
 opK pG E (xBuiltin .len #[44] 3 [false] [x4]) w fun b c=>
 oP E (bN .lss 3 18 20 x6 b) c fun d a=>
 xcond d
 (oP E (iA 44 x4 x6) a fun e f=>
 oP E (lA 3 e) f fun g i=>
 oP E (iA 44 x5 g) i fun j k=>
 oP E (sA 3 j x6) k fun _ l=>
 oP E (bC .add 3 22 x6 (vI 1)) l fun m n=>
 next8 [m] n)
 (j1 [] a)
def F19(x0 w)(R:RT)(E):=
 opK pG E (xV (Instr.box 30 x0)) w fun a f=>
 oP E (fA 30 a 3) f fun g i=>
 oP E (lA 3 g) i fun b j=>
 oP E (xV (Instr.makeSlice 47 b b)) j fun c k=>
 oP E (lA 30 a) k fun l m=>
 oP E (xCall (fC 20) [l]) m fun n o=>
 oP E (fA 30 a 3) o fun p q=>
 oP E (lA 3 p) q fun d r=>
 oP E (xV (Instr.makeSlice 44 d d)) r fun e s=>
 xcut (fun _ t=>b8k a c e t R E) fun j1=>
 xloop [6] [(vI 0)] s fun u v next8=>
 c2i a c n e (u 6) v next8 j1 R E
def h19:Hint:=(sQ (sQ (sQ (sQ (hU [] (sQ (hB (hL [6] (hS (sQ (hC hN hN)) (hS (hB hN) hN))))) (hU [] (sQ (hB (hL [7] (hS (sQ (hC hN hN)) (hU [] (hB (hS (.reg [(0,274877906944,32),(0,549755813888,2),(2,1099511627776,549755813888),(0,2199023255552,128),(12,4398046511104,3298534883328),(16,8796093022208,4398046511104),(32,17592186044416,8796093022208),(65,35184372088832,17867063951360),(128,70368744177664,35184372088832),(0,140737488355328,32),(0,281474976710656,2),(1024,562949953421312,281474976710656),(0,1125899906842624,128),(6144,2251799813685248,1688849860263936),(8192,4503599627370496,2251799813685248),(16384,9007199254740992,4503599627370496),(33280,18014398509481984,9147936743096320),(65536,36028797018963968,18014398509481984),(131328,72057594037927936,36099165763141632)] [166212,166212,166208,166212,166212,166212,166148,166212,165956,166212,166212,164164,166212,166212,166212,133444,166212,35140,166212] (.early 0 (.early 1 (.early 3 (.early 9 (.early 10 (.early 12 (.load 2 (.early 4 (.early 5 (.load 6 (.early 7 (.load 8 (.load 11 (.early 13 (.early 14 (.load 15 (.early 16 (.load 17 (.early 18 .done)))))))))))))))))))) (hC hN hN))) hN))))) (sQ (hU [8] (sQ (hB (hL [8,9] (hS (sQ (hC hN hN)) (hU [8] (hB (sQ (hC hN hN))) hN))))) (sQ hN)))))))))
theorem c7q{x0:Value}(h:F19 x0 w R E):Cv pG 19 #[x0] w R E:=okF (h:=h19) Tryz.func19 (by kernel_rfl) (by kernel_rfl) h
def b8l(x4 w)(R:RT)(_E:Pan):=
 ∀_τ:Fr,(R x4 w)
def b8m(_x1 _x3 x4 x6:Value)(w)(next3:NT)(_R:RT)(E):=
 ∀_τ:Fr,(oP E (bC .add 3 33 x6 (vI 1)) w fun a b=>
 next3 [x4,a] b)
def c2j(x1 x3 x4 x6 w)(next3:NT)(j2:NT)(R:RT)(E):=
 opK pG E (fA 30 x1 3) w fun c d=>
 oP E (lA 3 c) d fun e f=>
 oP E (bN .lss 3 29 31 x6 e) f fun g a=>
 xcond g
 (xcut (fun i j=>b8m x1 x3 (nth i 0) x6 j next3 R E) fun j4=>
 oP E (xNil x3) a fun k l=>
 oP E (fA 96 k 2) l fun m n=>
 oP E (lA 47 m) n fun o p=>
 oP E (iA 47 o x6) p fun q r=>
 oP E (lA 4 q) r fun s t=>
 oP E (xV (Op.unary .not s)) t fun u b=>
 xcond u
 (oP E (xV (Instr.buildSlice 44 1 #[(0,x6)])) b fun v y=>
 oP E (xBuiltin .append #[44,44] 44 [false,false] [x4,v]) y fun z aa=>
 j4 [z] aa)
 (j4 [x4] b))
 (j2 [x4] a)
def b8n(x1 x3 x4 w)(R:RT)(E):=
 ∀_τ:Fr,(xcut (fun b c=>b8l (nth b 0) c R E) fun j2=>
 xloop [4,6] [x4,(vI 0)] w fun a d next3=>
 c2j x1 x3 (a 4) (a 6) d next3 j2 R E)
def c2k(_x1 x3 x4 x5:Value)(w)(next5:NT)(j1:NT)(_R:RT)(E):=
 opK pG E (bC .geq 3 15 x5 (vI 0)) w fun b a=>
 xcond b
 (oP E (xNil x3) a fun c d=>
 oP E (fA 96 c 3) d fun e f=>
 oP E (lA 44 e) f fun g i=>
 oP E (iA 44 g x5) i fun j k=>
 oP E (lA 3 j) k fun l m=>
 oP E (xV (Instr.buildSlice 44 1 #[(0,l)])) m fun n o=>
 oP E (xBuiltin .append #[44,44] 44 [false,false] [x4,n]) o fun p q=>
 oP E (bC .sub 3 17 x5 (vI 1)) q fun r s=>
 next5 [p,r] s)
 (j1 [x4] a)
def F20(x0 w)(R:RT)(E):=
 opK pG E (xV (Instr.box 30 x0)) w fun a d=>
 oP E (lA 30 a) d fun e f=>
 oP E (xCall (fC 43) [e]) f fun b g=>
 xcut (fun i j=>b8n a b (nth i 0) j R E) fun j1=>
 oP E (xNil b) g fun k l=>
 oP E (fA 96 k 3) l fun m n=>
 oP E (lA 44 m) n fun o p=>
 oP E (xBuiltin .len #[44] 3 [false] [o]) p fun q r=>
 oP E (bC .sub 3 13 q (vI 1)) r fun s t=>
 xloop [4,5] [(nS),s] t fun c u next5=>
 c2k a b (c 4) (c 5) u next5 j1 R E
def h20:Hint:=(sQ (sQ (sQ (hU [4] (sQ (hB (hL [4,5] (hS (sQ (hC hN hN)) (hS (hB hN) hN))))) (hU [4] (sQ (hB (hL [4,6] (hS (sQ (hC hN hN)) (hU [4] (hB (sQ (hC hN hN))) hN))))) (sQ hN))))))
theorem c7r{x0:Value}(h:F20 x0 w R E):Cv pG 20 #[x0] w R E:=okF (h:=h20) Tryz.func20 (by kernel_rfl) (by kernel_rfl) h
def b8o(x5 x6 w)(R:RT)(_E:Pan):=
 ∀_τ:Fr,(R (Value.tuple #[x6,x5]) w)
def c2l(_x5 x6 x14 x15 x16:Value)(w)(next2:NT)(j1:NT)(_R:RT)(E):=
 opK pG E (bN .lss 3 16 15 x16 x15) w fun c a=>
 xcond c
 (oP E (iA 22 x14 x16) a fun d e=>
 oP E (lA 70 d) e fun f g=>
 oP E (xV (Instr.alloc 70 true (.tuple #[]))) g fun b i=>
 oP E (sA 70 b f) i fun _ j=>
 oP E (fA 70 b 0) j fun k l=>
 oP E (lA 9 k) l fun m n=>
 oP E (xV (Instr.buildSlice 27 1 #[(0,m)])) n fun o p=>
 oP E (xBuiltin .append #[27,27] 27 [false,false] [x6,o]) p fun q r=>
 oP E (bC .add 3 16 x16 (vI 1)) r fun s t=>
 next2 [q,s] t)
 (j1 [x6] a)
def F21(x0 w)(R:RT)(E):=
 opK pG E (xV (Instr.box 25 x0)) w fun e f=>
 oP E (lA 25 e) f fun g i=>
 oP E (xCall (fC 44) [g,(vI 1)]) i fun a j=>
 oP E (xT a 0) j fun b k=>
 oP E (xT a 1) k fun c l=>
 xcut (fun m n=>b8o c (nth m 0) n R E) fun j1=>
 oP E (xBuiltin .len #[22] 3 [false] [b]) l fun o p=>
 xloop [6,16] [(nS),(vI 0)] p fun d q next2=>
 c2l c (d 6) b o (d 16) q next2 j1 R E
def h21:Hint:=(sQ (sQ (sQ (hU [6] (sQ (hB (hL [6,16] (sQ (hS (hC hN hN) (hS (hB (sQ hN)) hN)))))) (sQ hN)))))
theorem c7s{x0:Value}(h:F21 x0 w R E):Cv pG 21 #[x0] w R E:=okF (h:=h21) Tryz.func21 (by kernel_rfl) (by kernel_rfl) h
def F22(x0 w)(R:RT)(E):=
 opK pG E (xV (Instr.box 25 x0)) w fun b c=>
 oP E (lA 25 b) c fun d e=>
 oP E (xCall (fC 44) [d,(vI 2)]) e fun a f=>
 oP E (xT a 0) f fun g i=>
 oP E (xT a 1) i fun j k=>
 R (Value.tuple #[g,j]) k
def h22:Hint:=(sQ (sQ hN))
theorem c7t{x0:Value}(h:F22 x0 w R E):Cv pG 22 #[x0] w R E:=okF (h:=h22) Tryz.func22 (by kernel_rfl) (by kernel_rfl) h
def F23(x0 w)(R:RT)(E):=
 opK pG E (xNil x0) w fun a b=>
 oP E (fA 68 a 0) b fun c d=>
 oP E (fA 30 c 3) d fun e f=>
 oP E (lA 3 e) f fun g i=>
 oP E (bC .add 3 7 g (vI 1)) i fun j k=>
 oP E (xNil x0) k fun l m=>
 oP E (fA 68 l 0) m fun n o=>
 oP E (fA 30 n 3) o fun p q=>
 oP E (sA 3 p j) q fun _ r=>
 oP E (xNil x0) r fun s t=>
 oP E (fA 68 s 0) t fun u v=>
 oP E (fA 30 u 3) v fun y z=>
 oP E (lA 3 y) z fun aa ab=>
 oP E (bC .sub 3 16 aa (vI 1)) ab fun ac ad=>
 R ac ad
def h23:Hint:=(sQ (sQ (sQ hN)))
theorem c7u{x0:Value}(h:F23 x0 w R E):Cv pG 23 #[x0] w R E:=okF (h:=h23) Tryz.func23 (by kernel_rfl) (by kernel_rfl) h
def c2m(x0 x8 x31 x32 x33 w)(next2:NT)(R:RT)(E):=
 opK pG E (bN .lss 3 33 32 x33 x32) w fun g c=>
 xcond g
 (oP E (iA 23 x31 x33) c fun i j=>
 oP E (lA 60 i) j fun k l=>
 oP E (xV (Instr.alloc 60 true (.tuple #[]))) l fun b m=>
 oP E (sA 60 b k) m fun _ n=>
 dX n fun a=>
 qP pG (iA 44 x8 x33) fun d=>
 qP pG (bC .add 3 45 x33 (vI 1)) fun o=>
 qP pG (iA 44 x8 o) fun e=>
 qL pG a (blk b) (lA 60 b) fun p=>
 qL pG a (blk d) (lA 3 d) fun q=>
 qL pG a (blk e) (lA 3 e) fun r=>
 oP E (xCall (fC 45) [x0,p,q,r]) a fun _t49_30 f=>
 keepX [] a f (opK pG E (bC .add 3 33 x33 (vI 1)) f fun s t=>
 next2 [s] t))
 (R (Value.tuple #[]) c)
def b8p(x0 x1 x3 x8 w)(R:RT)(E):=
 ∀_τ:Fr,(oP E (xV (Instr.buildSlice 44 1 #[(0,x3)])) w fun a b=>
 oP E (xBuiltin .append #[44,44] 44 [false,false] [x8,a]) b fun c d=>
 oP E (xBuiltin .len #[23] 3 [false] [x1]) d fun e f=>
 xloop [33] [(vI 0)] f fun g i next2=>
 c2m x0 c x1 e (g 33) i next2 R E)
def c2n(x0 _x1 _x3 x8 x18 x19:Value)(w)(next3:NT)(j1:NT)(_R:RT)(E):=
 opK pG E (bN .lss 3 19 18 x19 x18) w fun b a=>
 xcond b
 (oP E (xCall (fC 23) [x0]) a fun c d=>
 oP E (xV (Instr.buildSlice 44 1 #[(0,c)])) d fun e f=>
 oP E (xBuiltin .append #[44,44] 44 [false,false] [x8,e]) f fun g i=>
 oP E (bC .add 3 19 x19 (vI 1)) i fun j k=>
 next3 [g,j] k)
 (j1 [x8] a)
def F24(x0 x1 x2 x3 w)(R:RT)(E):=
 opK pG E (xBuiltin .len #[23] 3 [false] [x1]) w fun c d=>
 oP E (bC .eql 3 12 c (vI 0)) d fun e a=>
 xcond e
 (R (Value.tuple #[]) a)
 (oP E (xV (Instr.buildSlice 44 1 #[(0,x2)])) a fun f g=>
 xcut (fun i j=>b8p x0 x1 x3 (nth i 0) j R E) fun j1=>
 oP E (xBuiltin .len #[23] 3 [false] [x1]) g fun k l=>
 oP E (bC .sub 3 17 k (vI 1)) l fun m n=>
 xloop [8,19] [f,(vI 0)] n fun b o next3=>
 c2n x0 x1 x3 (b 8) m (b 19) o next3 j1 R E)
def h24:Hint:=(hS (sQ (hC hN hN)) (sQ (hU [8] (sQ (hB (hL [8,19] (sQ (hS (hC hN hN) (hS (hB hN) hN)))))) (sQ (sQ (hB (hL [33] (sQ (hS (hC hN hN) (hS (hB (sQ (.reg [(0,274877906944,1),(0,549755813888,1024),(0,1099511627776,256),(0,2199023255552,512),(12,4398046511104,3298534883328),(16,8796093022208,4398046511104),(0,17592186044416,256),(0,35184372088832,512),(128,70368744177664,35184372088832),(320,140737488355328,87960930222080),(512,281474976710656,140737488355328),(1059,562949953421312,291095703453696)] [1058,1056,1058,1058,1058,1026,1058,1058,1058,1058,34,0] (.early 0 (.early 2 (.early 3 (.early 4 (.early 6 (.early 7 (.early 8 (.early 9 (.load 1 (.load 5 (.load 10 (.step 11 .done))))))))))))))) hN))))))))))
theorem c7v{x0 x1 x2 x3:Value}(h:F24 x0 x1 x2 x3 w R E):Cv pG 24 #[x0,x1,x2,x3] w R E:=okF (h:=h24) Tryz.func24 (by kernel_rfl) (by kernel_rfl) h
def b8q(w)(R:RT)(_E:Pan):=
 ∀_τ:Fr,(R (vB true) w)
def c2o(x0 x1 x5 w)(next2:NT)(j1:NT)(R:RT)(E):=
 opK pG E (xBuiltin .len #[27] 3 [false] [x0]) w fun e f=>
 oP E (bN .lss 3 11 13 x5 e) f fun g b=>
 xcond g
 (dX b fun a=>
 qP pG (iA 27 x0 x5) fun c=>
 qP pG (iA 27 x1 x5) fun d=>
 qL pG a (blk c) (lA 9 c) fun i=>
 qL pG a (blk d) (lA 9 d) fun j=>
 qP pG (bN .neq 9 20 24 i j) fun k=>
 xcond k
 (R (vB false) a)
 (oP E (bC .add 3 15 x5 (vI 1)) a fun l m=>
 next2 [l] m))
 (j1 [] b)
def F31(x0 x1 w)(R:RT)(E):=
 opK pG E (xBuiltin .len #[27] 3 [false] [x0]) w fun b c=>
 oP E (xBuiltin .len #[27] 3 [false] [x1]) c fun d e=>
 oP E (bN .neq 3 7 9 b d) e fun f a=>
 xcond f
 (R (vB false) a)
 (xcut (fun _ g=>b8q g R E) fun j1=>
 xloop [5] [(vI 0)] a fun i j next2=>
 c2o x0 x1 (i 5) j next2 j1 R E)
def h31:Hint:=(sQ (hS (sQ (hC (sQ hN) hN)) (hU [] (sQ (hB (hL [5] (hS (sQ (hC hN hN)) (hS (hB (hS (.reg [(0,131072,1),(0,262144,32),(3,524288,393216),(4,1048576,524288),(0,2097152,2),(0,4194304,32),(48,8388608,6291456),(64,16777216,8388608),(136,33554432,17825792)] [136,136,136,128,136,136,136,8,136] (.early 0 (.early 1 (.early 2 (.early 4 (.early 5 (.early 6 (.load 3 (.load 7 (.early 8 .done)))))))))) (hC (sQ hN) hN))) hN))))) (sQ hN))))
theorem c7w{x0 x1:Value}(h:F31 x0 x1 w R E):Cv pG 31 #[x0,x1] w R E:=okF (h:=h31) Tryz.func31 (by kernel_rfl) (by kernel_rfl) h
def b8r(w)(R:RT)(_E:Pan):=
 ∀_τ:Fr,(R (vB true) w)
def c2p(x0 x1 x5 w)(next2:NT)(j1:NT)(R:RT)(E):=
 opK pG E (xBuiltin .len #[22] 3 [false] [x0]) w fun e f=>
 oP E (bN .lss 3 11 13 x5 e) f fun g b=>
 xcond g
 (dX b fun a=>
 qP pG (iA 22 x0 x5) fun c=>
 qP pG (iA 22 x1 x5) fun d=>
 qL pG a (blk c) (lA 70 c) fun i=>
 qL pG a (blk d) (lA 70 d) fun j=>
 qP pG (bN .neq 70 20 24 i j) fun k=>
 xcond k
 (R (vB false) a)
 (oP E (bC .add 3 15 x5 (vI 1)) a fun l m=>
 next2 [l] m))
 (j1 [] b)
def F32(x0 x1 w)(R:RT)(E):=
 opK pG E (xBuiltin .len #[22] 3 [false] [x0]) w fun b c=>
 oP E (xBuiltin .len #[22] 3 [false] [x1]) c fun d e=>
 oP E (bN .neq 3 7 9 b d) e fun f a=>
 xcond f
 (R (vB false) a)
 (xcut (fun _ g=>b8r g R E) fun j1=>
 xloop [5] [(vI 0)] a fun i j next2=>
 c2p x0 x1 (i 5) j next2 j1 R E)
def h32:Hint:=(sQ (hS (sQ (hC (sQ hN) hN)) (hU [] (sQ (hB (hL [5] (hS (sQ (hC hN hN)) (hS (hB (hS (.reg [(0,131072,1),(0,262144,32),(3,524288,393216),(4,1048576,524288),(0,2097152,2),(0,4194304,32),(48,8388608,6291456),(64,16777216,8388608),(136,33554432,17825792)] [136,136,136,128,136,136,136,8,136] (.early 0 (.early 1 (.early 2 (.early 4 (.early 5 (.early 6 (.load 3 (.load 7 (.early 8 .done)))))))))) (hC (sQ hN) hN))) hN))))) (sQ hN))))
theorem c7x{x0 x1:Value}(h:F32 x0 x1 w R E):Cv pG 32 #[x0,x1] w R E:=okF (h:=h32) Tryz.func32 (by kernel_rfl) (by kernel_rfl) h
def F33(x0 w)(R:RT)(E):=
 opK pG E (xV (Instr.box 30 x0)) w fun a b=>
 oP E (fA 30 a 0) b fun c d=>
 oP E (lA 27 c) d fun e f=>
 oP E (xBuiltin .len #[27] 3 [false] [e]) f fun g i=>
 oP E (fA 30 a 1) i fun j k=>
 oP E (lA 3 j) k fun l m=>
 oP E (bN .add 3 5 7 g l) m fun n o=>
 R n o
def h33:Hint:=(sQ (sQ hN))
theorem c7y{x0:Value}(h:F33 x0 w R E):Cv pG 33 #[x0] w R E:=okF (h:=h33) Tryz.func33 (by kernel_rfl) (by kernel_rfl) h
def b8s(x1 x2 x3 x7 x8 x9 w)(R:RT)(E):=
 ∀_τ:Fr,(oP E (gYs x7 (fA 40 x3 3)) w fun r s=>
 oP E (gYs x7 (lA 3 r)) s fun t u=>
 oP E (gYs x7 (bC .lss 3 36 t (vI 0))) u fun g v=>
 oP E (gsem (asB (zT x7 g)) false (fA 40 x3 3)) v fun y z=>
 oP E (gsem (asB (zT x7 g)) false (lA 3 y)) z fun aa ab=>
 oP E (gsem (asB (zT x7 g)) false (bN .geq 3 40 41 aa (gval (asB (zT x7 g)) false x1))) ab fun ac ad=>
 oP E (gYs x7 (xPick (zT x7 g) (vB true) ac)) ad fun ae af=>
 oP E (xPick x7 ae (vB false)) af fun d ag=>
 oP E (gNo d (xV (Op.unary .not (zF d x7)))) ag fun j ah=>
 oP E (gsem (asB (zF d j)) true (fA 40 x3 3)) ah fun ai aj=>
 oP E (gsem (asB (zF d j)) true (lA 3 ai)) aj fun ak al=>
 oP E (gsem (asB (zF d j)) true (bC .neq 3 50 ak (vI (-1)))) al fun am an=>
 oP E (gNo d (xPick (zF d j) am (vB false))) an fun ao ap=>
 oP E (xPick d (vB true) ao) ap fun aq o=>
 xcond aq
 (R (vB false) o)
 (oP E (fA 40 x3 2) o fun ar au=>
 oP E (lA 3 ar) au fun av aw=>
 oP E (bC .eql 3 55 av (vI 10)) aw fun k ax=>
 oP E (gNo k (fA 40 x3 2)) ax fun ay az=>
 oP E (gNo k (lA 3 ay)) az fun ba bb=>
 oP E (gNo k (bC .eql 3 59 ba (vI 11))) bb fun bc bd=>
 oP E (xPick k (vB true) bc) bd fun a be=>
 oP E (gYs a (fA 40 x3 4)) be fun bf bg=>
 oP E (gYs a (lA 3 bf)) bg fun bh bi=>
 oP E (gYs a (bC .lss 3 65 bh (vI 0))) bi fun i bj=>
 oP E (gsem (asB (zT a i)) false (fA 40 x3 4)) bj fun bk bl=>
 oP E (gsem (asB (zT a i)) false (lA 3 bk)) bl fun bm bn=>
 oP E (gsem (asB (zT a i)) false (bN .geq 3 69 70 bm (gval (asB (zT a i)) false x2))) bn fun bo bp=>
 oP E (gYs a (xPick (zT a i) (vB true) bo)) bp fun bq br=>
 oP E (xPick a bq (vB false)) br fun e bs=>
 oP E (gNo e (xV (Op.unary .not (zF e a)))) bs fun l bt=>
 oP E (gsem (asB (zF e l)) true (fA 40 x3 4)) bt fun bu bv=>
 oP E (gsem (asB (zF e l)) true (lA 3 bu)) bv fun bw bz=>
 oP E (gsem (asB (zF e l)) true (bC .neq 3 79 bw (vI (-1)))) bz fun ca cb=>
 oP E (gNo e (xPick (zF e l) ca (vB false))) cb fun cc cd=>
 oP E (xPick e (vB true) cc) cd fun ce p=>
 xcond ce
 (R (vB false) p)
 (oP E (fA 40 x3 2) p fun cf cg=>
 oP E (lA 3 cf) cg fun ch ci=>
 oP E (bC .eql 3 84 ch (vI 12)) ci fun b cj=>
 oP E (gYs b (fA 40 x3 5)) cj fun ck cl=>
 oP E (gYs b (lA 3 ck)) cl fun cm cn=>
 oP E (gYs b (bC .lss 3 88 cm (vI 1))) cn fun m co=>
 oP E (gsem (asB (zT b m)) false (fA 40 x3 5)) co fun cp cq=>
 oP E (gsem (asB (zT b m)) false (lA 3 cp)) cq fun cr cs=>
 oP E (gsem (asB (zT b m)) false (bC .gtr 3 92 cr (vI 6))) cs fun ct cu=>
 oP E (gYs b (xPick (zT b m) (vB true) ct)) cu fun cv cw=>
 oP E (xPick b cv (vB false)) cw fun c cx=>
 oP E (gNo c (fA 40 x3 2)) cx fun cy cz=>
 oP E (gNo c (lA 3 cy)) cz fun da db=>
 oP E (gNo c (bC .neq 3 98 da (vI 12))) db fun n dc=>
 oP E (gsem (asB (zF c n)) true (fA 40 x3 5)) dc fun dd de=>
 oP E (gsem (asB (zF c n)) true (lA 3 dd)) de fun df dg=>
 oP E (gsem (asB (zF c n)) true (bC .neq 3 102 df (vI 0))) dg fun dh di=>
 oP E (gNo c (xPick (zF c n) dh (vB false))) di fun dj dk=>
 oP E (xPick c (vB true) dj) dk fun dl q=>
 xcond dl
 (R (vB false) q)
 (oP E (fA 40 x3 6) q fun dm dn=>
 oP E (lA 38 dm) dn fun dp dq=>
 oP E (xCall (fC 51) [dp,x8,x1]) dq fun f dr=>
 oP E (gYs f (fA 40 x3 7)) dr fun ds dt=>
 oP E (gYs f (lA 38 ds)) dt fun du dv=>
 oP E (gYs f (xCall (fC 51) [du,(zT f x9),(zT f x1)])) dv fun dw dx=>
 oP E (xPick f dw (vB false)) dx fun dy dz=>
 R dy dz))))
def b8t(_x1 _x2 _x3 x7 x30:Value)(w)(j1:NT)(R:RT)(_E:Pan):=
 ∀_τ:Fr,(xcond x30
 (j1 [x7,(vB true),(vB true)] w)
 (R (vB false) w))
def b8u(x1 x2 x3 x7 x8 x9 x12 x20 w)(j1:NT)(R:RT)(E):=
 ∀_τ:Fr,(xcond x20
 (j1 [(vB true),(vB true),(vB true)] w)
 (oP E (bC .eql 3 12 x12 (vI 9)) w fun e a=>
 xcond e
 (j1 [(vB true),x8,x9] a)
 (oP E (bC .eql 3 12 x12 (vI 10)) a fun f b=>
 xcond f
 (j1 [(vB true),(vB true),x9] b)
 (xcut (fun g i=>b8t x1 x2 x3 x7 (nth g 0) i j1 R E) fun j5=>
 oP E (bC .eql 3 12 x12 (vI 11)) b fun c d=>
 xcond c
 (j5 [c] d)
 (oP E (bC .eql 3 12 x12 (vI 12)) d fun j k=>
 j5 [j] k)))))
def b8v(x1 x2 x3 x7 x8 x9 x12 x17 w)(j1:NT)(R:RT)(E):=
 ∀_τ:Fr,(xcond x17
 (j1 [(vB true),(vB true),x9] w)
 (xcut (fun j k=>b8u x1 x2 x3 x7 x8 x9 x12 (nth j 0) k j1 R E) fun j4=>
 oP E (bC .eql 3 12 x12 (vI 4)) w fun a b=>
 xcond a
 (j4 [a] b)
 (oP E (bC .eql 3 12 x12 (vI 5)) b fun c d=>
 xcond c
 (j4 [c] d)
 (oP E (bC .eql 3 12 x12 (vI 6)) d fun e f=>
 xcond e
 (j4 [e] f)
 (oP E (bC .eql 3 12 x12 (vI 7)) f fun g i=>
 xcond g
 (j4 [g] i)
 (oP E (bC .eql 3 12 x12 (vI 8)) i fun l m=>
 j4 [l] m))))))
def b8w(x1 x2 x3 x7 x8 x9 x12 x13 w)(j1:NT)(R:RT)(E):=
 ∀_τ:Fr,(xcond x13
 (j1 [x7,x8,x9] w)
 (xcut (fun c d=>b8v x1 x2 x3 x7 x8 x9 x12 (nth c 0) d j1 R E) fun j3=>
 oP E (bC .eql 3 12 x12 (vI 2)) w fun a b=>
 xcond a
 (j3 [a] b)
 (oP E (bC .eql 3 12 x12 (vI 3)) b fun e f=>
 j3 [e] f)))
def F34(x0 x1 x2 w)(R:RT)(E):=
 opK pG E (xV (Instr.box 40 x0)) w fun b i=>
 xcut (fun c j=>b8s x1 x2 b (nth c 0) (nth c.tail 0) (nth c.tail.tail 0) j R E) fun j1=>
 oP E (fA 40 b 2) i fun k l=>
 oP E (lA 3 k) l fun a m=>
 xcut (fun n o=>b8w x1 x2 b (vB false) (vB false) (vB false) a (nth n 0) o j1 R E) fun j2=>
 oP E (bC .eql 3 12 a (vI 1)) m fun d e=>
 xcond d
 (j2 [d] e)
 (oP E (bC .eql 3 12 a (vI 13)) e fun f g=>
 xcond f
 (j2 [f] g)
 (oP E (bC .eql 3 12 a (vI 14)) g fun p q=>
 j2 [p] q))
def h34:Hint:=(sQ (sQ (hU [7,8,9] (sQ (hB (hU [13] (sQ (hC hN (sQ (hC hN hN)))) (hC hN (hU [17] (sQ (hC hN hN)) (hC hN (hU [20] (sQ (hC hN (sQ (hC hN (sQ (hC hN (sQ (hC hN hN)))))))) (hC hN (sQ (hC hN (sQ (hC hN (hU [30] (sQ (hC hN hN)) (hC hN (sQ hN))))))))))))))) (hS (sQ (hC (sQ hN) hN)) (sQ (hS (sQ (hC (sQ hN) hN)) (hS (sQ (hC (sQ hN) hN)) (sQ hN))))))))
theorem c7z{x0 x1 x2:Value}(h:F34 x0 x1 x2 w R E):Cv pG 34 #[x0,x1,x2] w R E:=okF (h:=h34) Tryz.func34 (by kernel_rfl) (by kernel_rfl) h
def F35(x0 x1 w)(R:RT)(E):=
 opK pG E (xV (Instr.box 30 x0)) w fun u aj=>
 oP E (xBuiltin .len #[44] 3 [false] [x1]) aj fun ak al=>
 oP E (bC .eql 3 8 ak (vI 0)) al fun am v=>
 xcond am
 (R (vB true) v)
 (dX v fun f=>
 qP pG (fA 30 u 5) fun l=>
 qP pG (iA 44 x1 (vI 0)) fun m=>
 qL pG f (blk l) (lA 28 l) fun an=>
 qL pG f (blk m) (lA 3 m) fun ao=>
 qP pG (iA 28 an ao) fun n=>
 qL pG f (blk n) (lA 40 n) fun ap=>
 oP E (xV (Instr.alloc 40 true (.tuple #[]))) f fun c o=>
 keepX [(blk n),(blk m),(blk l)] f o (opK pG E (sA 40 c ap) o fun _ y=>
 keepX [] o y (opK pG E (xBuiltin .len #[44] 3 [false] [x1]) y fun aq ar=>
 oP E (bC .eql 3 18 aq (vI 1)) ar fun au z=>
 xcond au
 (oP E (fA 40 c 2) z fun av aw=>
 oP E (lA 3 av) aw fun ax ay=>
 oP E (bC .neq 3 21 ax (vI 12)) ay fun az ba=>
 R az ba)
 (dX z fun g=>
 qP pG (fA 30 u 5) fun p=>
 qP pG (iA 44 x1 (vI 1)) fun q=>
 qL pG g (blk p) (lA 28 p) fun bb=>
 qL pG g (blk q) (lA 3 q) fun bc=>
 qP pG (iA 28 bb bc) fun r=>
 qL pG g (blk r) (lA 40 r) fun bd=>
 oP E (xV (Instr.alloc 40 true (.tuple #[]))) g fun i s=>
 keepX [(blk r),(blk q),(blk p)] g s (opK pG E (sA 40 i bd) s fun _ aa=>
 keepX [] s aa (dX aa fun a=>
 qP pG (xBuiltin .len #[44] 3 [false] [x1]) fun be=>
 qP pG (bC .eql 3 31 be (vI 2)) fun j=>
 qP pG (gYs j (fA 40 c 2)) fun ab=>
 qL pG a (blk ab) (gYs j (lA 3 ab)) fun bf=>
 qP pG (gYs j (bC .eql 3 35 bf (vI 12))) fun bg=>
 qP pG (xPick j bg (vB false)) fun k=>
 qP pG (gYs k (fA 40 i 2)) fun ac=>
 qL pG a (blk ac) (gYs k (lA 3 ac)) fun bh=>
 qP pG (gYs k (bC .eql 3 40 bh (vI 12))) fun bi=>
 qP pG (xPick k bi (vB false)) fun d=>
 qP pG (gYs d (fA 40 c 6)) fun ad=>
 qP pG (gYs d (fA 40 i 6)) fun ae=>
 qL pG a (blk ad) (gYs d (lA 38 ad)) fun bj=>
 qL pG a (blk ae) (gYs d (lA 38 ae)) fun bk=>
 qP pG (gYs d (bN .eql 38 45 47 bj bk)) fun bl=>
 qP pG (xPick d bl (vB false)) fun e=>
 qP pG (gYs e (fA 40 c 7)) fun af=>
 qP pG (gYs e (fA 40 i 7)) fun ag=>
 qL pG a (blk af) (gYs e (lA 38 af)) fun bm=>
 qL pG a (blk ag) (gYs e (lA 38 ag)) fun bn=>
 qP pG (gYs e (bN .eql 38 52 54 bm bn)) fun bo=>
 qP pG (xPick e bo (vB false)) fun b=>
 qP pG (gYs b (fA 40 i 5)) fun t=>
 qP pG (gYs b (fA 40 c 5)) fun ah=>
 qL pG a (blk t) (gYs b (lA 3 t)) fun bp=>
 qL pG a (blk ah) (gYs b (lA 3 ah)) fun bq=>
 oP E (gYs b (xCall (fC 52) [bq])) a fun br ai=>
 keepX [(blk t)] a ai (qP pG (gYs b (bN .eql 3 59 62 bp br)) fun bs=>
 qP pG (xPick b bs (vB false)) fun bt=>
 R bt ai)))))))
def h35:Hint:=(sQ (hS (sQ (hC (sQ hN) hN)) (hS (.reg [(0,1024,4),(1,2048,1024),(0,4096,2),(4,8192,4096),(8,16384,8192),(18,32768,18432),(32,65536,32768),(0,32,0),(255,0,65568)] [82,80,82,82,66,82,18,82,0] (.early 0 (.early 2 (.early 3 (.load 1 (.load 4 (.early 5 (.load 6 (.step 7 (.step 8 .done)))))))))) (hS (sQ (hC (sQ hN) hN)) (hS (.reg [(0,8388608,4),(1,16777216,8388608),(0,33554432,2),(4,67108864,33554432),(8,134217728,67108864),(18,268435456,150994944),(32,536870912,268435456),(0,64,0),(255,0,536870976)] [82,80,82,82,66,82,18,82,0] (.early 0 (.early 2 (.early 3 (.load 1 (.load 4 (.early 5 (.load 6 (.step 7 (.step 8 .done)))))))))) (hS (.reg [(0,1073741824,2),(1,2147483648,1073741824),(2,4294967296,2147483648),(4,8589934592,4294967296),(8,17179869184,8589934624),(24,34359738368,25769803776),(40,68719476736,42949672960),(72,137438953472,77309411328),(136,274877906944,137438953472),(256,549755813888,274877907008),(768,1099511627776,824633720832),(1280,2199023255552,1374389534720),(2304,4398046511104,2473901162496),(4352,8796093022208,4398046511104),(8192,17592186044416,8796093022240),(24576,35184372088832,26388279066624),(8192,70368744177664,8796093022272),(73728,140737488355328,79164837199872),(172032,281474976710656,184717953466368),(270336,562949953421312,290271069732864),(532480,1125899906842624,562949953421312),(1048576,2251799813685248,1125899906842656),(3145728,4503599627370496,3377699720527872),(1048576,9007199254740992,1125899906842688),(9437184,18014398509481984,10133099161583616),(22020096,36028797018963968,23643898043695104),(34603008,72057594037927936,37154696925806592),(68157440,144115188075855872,72057594037927936),(134217728,288230376151711744,144115188075855936),(402653184,576460752303423488,432345564227567616),(134217728,1152921504606846976,144115188075855904),(1207959552,2305843009213693952,1297036692682702848),(2281701376,4611686018427387904,2449958197289549824),(4966055936,9223372036854775808,5332261958806667264),(8724152320,18446744073709551616,9367487224930631680),(34359738367,16,18446744073709551616)] [2705490976,2705490976,2705490976,2705490976,2705490976,2705490944,2705490976,2705490976,2705490976,2705490976,2705489952,2705490976,2705490976,2705490976,2705490976,2705458208,2705490976,2705359904,2705490976,2705490976,2705490976,2705490976,2701296672,2705490976,2688713760,2705490976,2705490976,2705490976,2705490976,2168620064,2705490976,558007328,536870912,2705490976,2705490976,2705490976] (.early 0 (.early 1 (.early 2 (.early 3 (.early 4 (.load 5 (.early 6 (.early 7 (.early 8 (.early 9 (.load 10 (.early 11 (.early 12 (.early 13 (.early 14 (.early 16 (.load 15 (.load 17 (.early 18 (.early 19 (.early 20 (.early 21 (.early 23 (.load 22 (.load 24 (.early 25 (.early 26 (.early 27 (.early 28 (.early 30 (.load 29 (.load 31 (.step 32 (.early 33 (.early 34 (.early 35 .done))))))))))))))))))))))))))))))))))))) hN))))))
theorem c7A{x0 x1:Value}(h:F35 x0 x1 w R E):Cv pG 35 #[x0,x1] w R E:=okF (h:=h35) Tryz.func35 (by kernel_rfl) (by kernel_rfl) h
def b8x(x3 w)(R:RT)(_E:Pan):=
 ∀_τ:Fr,(R x3 w)
def c2q(x3 x10 x11 x12 w)(next2:NT)(j1:NT)(_R:RT)(E):=
 opK pG E (bN .lss 3 12 11 x12 x11) w fun k i=>
 xcond k
 (oP E (iA 28 x10 x12) i fun l m=>
 oP E (lA 40 l) m fun n o=>
 oP E (xV (Instr.alloc 40 true (.tuple #[]))) o fun c p=>
 oP E (sA 40 c n) p fun _ q=>
 dX q fun a=>
 qP pG (fA 40 c 0) fun b=>
 qP pG (fA 40 c 0) fun d=>
 qL pG a (blk b) (lA 3 b) fun r=>
 qL pG a (blk d) (lA 3 d) fun s=>
 qP pG (iA 83 x3 s) fun e=>
 qL pG a (blk e) (lA 44 e) fun t=>
 oP E (xV (Instr.buildSlice 44 1 #[(0,x12)])) a fun u f=>
 keepX [(blk e),(blk d),(blk b)] a f (opK pG E (xBuiltin .append #[44,44] 44 [false,false] [t,u]) f fun v g=>
 keepX [(blk b)] f g (qP pG (iA 83 x3 r) fun y=>
 oP E (sA 44 y v) g fun _ j=>
 keepX [] g j (opK pG E (bC .add 3 12 x12 (vI 1)) j fun z aa=>
 next2 [z] aa))))
 (j1 [] i)
def F36(x0 w)(R:RT)(E):=
 opK pG E (xV (Instr.box 30 x0)) w fun a e=>
 oP E (fA 30 a 3) e fun f g=>
 oP E (lA 3 f) g fun b i=>
 oP E (xV (Instr.makeSlice 83 b b)) i fun c j=>
 xcut (fun _ k=>b8x c k R E) fun j1=>
 oP E (fA 30 a 5) j fun l m=>
 oP E (lA 28 l) m fun d n=>
 oP E (xBuiltin .len #[28] 3 [false] [d]) n fun o p=>
 xloop [12] [(vI 0)] p fun q r next2=>
 c2q c d o (q 12) r next2 j1 R E
def h36:Hint:=(sQ (sQ (hU [] (sQ (hB (hL [12] (sQ (hS (hC hN hN) (hS (hB (sQ (.reg [(0,131072,8),(0,262144,32),(2,524288,262144),(0,1048576,8),(0,2097152,32),(16,4194304,2097152),(40,8388608,5242880),(64,16777216,8388608),(0,33554432,16),(256,67108864,33554432),(640,134217728,83886080),(2047,268435456,655360),(4095,0,402653184)] [164,164,160,164,164,132,164,36,164,164,4,164,0] (.early 0 (.early 1 (.early 3 (.early 4 (.early 8 (.load 2 (.load 5 (.early 6 (.load 7 (.step 9 (.step 10 (.early 11 (.step 12 .done)))))))))))))))) hN)))))) (sQ hN))))
theorem c7B{x0:Value}(h:F36 x0 w R E):Cv pG 36 #[x0] w R E:=okF (h:=h36) Tryz.func36 (by kernel_rfl) (by kernel_rfl) h
def c2r(x3 x4 x18 x19 x20 w)(next1:NT)(R:RT)(E):=
 opK pG E (bN .lss 3 20 19 x20 x19) w fun f b=>
 xcond f
 (oP E (iA 44 x18 x20) b fun g i=>
 oP E (lA 3 g) i fun j k=>
 dX k fun a=>
 qP pG (fA 30 x4 5) fun c=>
 qL pG a (blk x3) (lA 87 x3) fun l=>
 qL pG a (blk c) (lA 28 c) fun m=>
 qP pG (iA 28 m j) fun n=>
 qP pG (fA 40 n 1) fun d=>
 qL pG a (blk d) (lA 3 d) fun o=>
 oP E (xCall l [o]) a fun _t31_34 e=>
 keepX [] a e (opK pG E (bC .add 3 20 x20 (vI 1)) e fun p q=>
 next1 [p] q))
 (R (Value.tuple #[]) b)
def F37(x0 x1 x2 x3 x4 w)(R:RT)(E):=
 opK pG E (lA 47 x1) w fun c d=>
 oP E (iA 47 c x0) d fun e f=>
 oP E (lA 4 e) f fun g a=>
 xcond g
 (R (Value.tuple #[]) a)
 (oP E (lA 47 x1) a fun i j=>
 oP E (iA 47 i x0) j fun k l=>
 oP E (sA 4 k (vB true)) l fun _ m=>
 oP E (lA 83 x2) m fun n o=>
 oP E (iA 83 n x0) o fun p q=>
 oP E (lA 44 p) q fun b r=>
 oP E (xBuiltin .len #[44] 3 [false] [b]) r fun s t=>
 xloop [20] [(vI 0)] t fun u v next1=>
 c2r x3 x4 b s (u 20) v next1 R E)
def h37:Hint:=(hS (sQ (hC hN hN)) (sQ (sQ (hB (hL [20] (sQ (hS (hC hN hN) (hS (hB (sQ (.reg [(0,16777216,8),(0,33554432,16),(2,67108864,33554432),(0,134217728,128),(12,268435456,201326592),(16,536870912,268435456),(32,1073741824,536870912),(65,2147483648,1090519040)] [68,69,65,69,69,69,5,0] (.early 1 (.early 3 (.load 0 (.load 2 (.early 4 (.early 5 (.load 6 (.step 7 .done))))))))))) hN))))))))
theorem c7C{x0 x1 x2 x3 x4:Value}(h:F37 x0 x1 x2 x3 x4 w R E):Cv pG 37 #[x0,x1,x2,x3,x4] w R E:=okF (h:=h37) Tryz.func37 (by kernel_rfl) (by kernel_rfl) h
def b8y(x0 x5 w)(R:RT)(E):=
 ∀_τ:Fr,(oP E (lA 44 x5) w fun a b=>
 oP E (xV (Instr.buildSlice 44 1 #[(0,x0)])) b fun c d=>
 oP E (xBuiltin .append #[44,44] 44 [false,false] [a,c]) d fun e f=>
 oP E (sA 44 x5 e) f fun _ g=>
 R (Value.tuple #[]) g)
def b8z(_x0 _x1 _x3 _x4 _x5 _x16 _x17 x18:Value)(w)(next2:NT)(_R:RT)(E):=
 ∀_τ:Fr,(oP E (bC .add 3 18 x18 (vI 1)) w fun a b=>
 next2 [a] b)
def c2s(x0 x1 x3 x4 x5 x16 x17 x18 w)(next2:NT)(j1:NT)(R:RT)(E):=
 opK pG E (bN .lss 3 18 17 x18 x17) w fun d a=>
 xcond d
 (xcut (fun _ e=>b8z x0 x1 x3 x4 x5 x16 x17 x18 e next2 R E) fun j3=>
 oP E (iA 44 x16 x18) a fun f g=>
 oP E (lA 3 f) g fun i j=>
 oP E (fA 30 x3 5) j fun k l=>
 oP E (lA 28 k) l fun m n=>
 oP E (iA 28 m i) n fun o p=>
 oP E (fA 40 o 1) p fun q r=>
 oP E (lA 3 q) r fun b s=>
 oP E (lA 47 x1) s fun t u=>
 oP E (iA 47 t b) u fun v y=>
 oP E (lA 4 v) y fun z aa=>
 oP E (xV (Op.unary .not z)) aa fun ab c=>
 xcond ab
 (oP E (lA 87 x4) c fun ac ad=>
 oP E (xCall ac [b]) ad fun _t35_55 ae=>
 j3 [] ae)
 (j3 [] c))
 (j1 [] a)
def F38(x0 x1 x2 x3 x4 x5 w)(R:RT)(E):=
 opK pG E (lA 47 x1) w fun b c=>
 oP E (iA 47 b x0) c fun d e=>
 oP E (sA 4 d (vB true)) e fun _ f=>
 xcut (fun _ g=>b8y x0 x5 g R E) fun j1=>
 oP E (lA 83 x2) f fun i j=>
 oP E (iA 83 i x0) j fun k l=>
 oP E (lA 44 k) l fun a m=>
 oP E (xBuiltin .len #[44] 3 [false] [a]) m fun n o=>
 xloop [18] [(vI 0)] o fun p q next2=>
 c2s x0 x1 x3 x4 x5 a n (p 18) q next2 j1 R E
def h38:Hint:=(sQ (hU [] (sQ (hB (hL [18] (sQ (hS (hC hN hN) (hU [] (hB (sQ (sQ (sQ (hC hN hN))))) hN)))))) hN))
theorem c7D{x0 x1 x2 x3 x4 x5:Value}(h:F38 x0 x1 x2 x3 x4 x5 w R E):Cv pG 38 #[x0,x1,x2,x3,x4,x5] w R E:=okF (h:=h38) Tryz.func38 (by kernel_rfl) (by kernel_rfl) h
def c2t(x0 x2 x3 w)(next1:NT)(R:RT)(E):=
 opK pG E (bN .lss 3 7 8 x2 x3) w fun g c=>
 xcond g
 (dX c fun a=>
 qP pG (iA 44 x0 x3) fun d=>
 qP pG (iA 44 x0 x2) fun e=>
 qL pG a (blk d) (lA 3 d) fun i=>
 qL pG a (blk e) (lA 3 e) fun j=>
 qP pG (iA 44 x0 x2) fun k=>
 oP E (sA 3 k i) a fun _ b=>
 keepX [] a b (qP pG (iA 44 x0 x3) fun l=>
 oP E (sA 3 l j) b fun _ f=>
 keepX [] b f (opK pG E (bC .add 3 10 x2 (vI 1)) f fun m n=>
 oP E (bC .sub 3 12 x3 (vI 1)) n fun o p=>
 next1 [m,o] p)))
 (R (Value.tuple #[]) c)
def F39(x0 w)(R:RT)(E):=
 opK pG E (xBuiltin .len #[44] 3 [false] [x0]) w fun b c=>
 oP E (bC .sub 3 5 b (vI 1)) c fun d e=>
 xloop [2,3] [(vI 0),d] e fun a f next1=>
 c2t x0 (a 2) (a 3) f next1 R E
def h39:Hint:=(sQ (hB (hL [2,3] (hS (sQ (hC hN hN)) (hS (hB (.reg [(0,16384,1),(0,32768,4),(0,65536,1),(0,131072,8),(0,262144,1),(0,524288,8),(48,1048576,786432),(64,2097152,1048576),(0,4194304,1),(0,8388608,4),(768,16777216,12582912),(1024,33554432,16777216),(2291,67108864,49152),(6387,0,69206016),(16383,134217728,196608),(32767,0,167772160)] [2176,2176,2176,2176,2176,2176,2176,2048,2176,2176,2176,128,2176,0,2176,0] (.early 0 (.early 1 (.early 2 (.early 3 (.early 4 (.early 5 (.early 6 (.early 8 (.early 9 (.early 10 (.load 7 (.load 11 (.early 12 (.step 13 (.early 14 (.step 15 .done)))))))))))))))))) hN)))))
theorem c7E{x0:Value}(h:F39 x0 w R E):Cv pG 39 #[x0] w R E:=okF (h:=h39) Tryz.func39 (by kernel_rfl) (by kernel_rfl) h
def F40(x0 x1 w)(R:RT)(E):=
 opK pG E (xV (Instr.box 90 x0)) w fun b c=>
 oP E (bC .geq 3 5 x1 (vI 0)) c fun a d=>
 oP E (gYs a (fA 90 b 0)) d fun e f=>
 oP E (gYs a (fA 30 e 3)) f fun g i=>
 oP E (gYs a (lA 3 g)) i fun j k=>
 oP E (gYs a (bN .lss 3 8 11 (zT a x1) j)) k fun l m=>
 oP E (xPick a l (vB false)) m fun n o=>
 R n o
def h40:Hint:=(sQ (sQ hN))
theorem c7F{x0 x1:Value}(h:F40 x0 x1 w R E):Cv pG 40 #[x0,x1] w R E:=okF (h:=h40) Tryz.func40 (by kernel_rfl) (by kernel_rfl) h
def F41(x0 x1 w)(R:RT)(E):=
 opK pG E (xV (Instr.box 90 x0)) w fun e au=>
 oP E (xV (Instr.box 40 x1)) au fun a av=>
 oP E (lA 90 e) av fun aw ax=>
 oP E (fA 40 a 0) ax fun ay az=>
 oP E (lA 3 ay) az fun ba bb=>
 oP E (xCall (fC 40) [aw,ba]) bb fun bc bd=>
 oP E (xV (Op.unary .not bc)) bd fun m be=>
 oP E (gNo m (lA 90 e)) be fun bf bg=>
 oP E (gNo m (fA 40 a 1)) bg fun bh bi=>
 oP E (gNo m (lA 3 bh)) bi fun bj bk=>
 oP E (gNo m (xCall (fC 40) [bf,bj])) bk fun bl bm=>
 oP E (gNo m (xV (Op.unary .not bl))) bm fun bn bo=>
 oP E (xPick m (vB true) bn) bo fun g bp=>
 oP E (gNo g (fA 40 a 0)) bp fun bq br=>
 oP E (gNo g (lA 3 bq)) br fun bs bt=>
 oP E (gNo g (fA 90 e 0)) bt fun bu bv=>
 oP E (gNo g (fA 30 bu 4)) bv fun bw bz=>
 oP E (gNo g (lA 3 bw)) bz fun ca cb=>
 oP E (gNo g (bN .eql 3 20 23 bs ca)) cb fun cc cd=>
 oP E (xPick g (vB true) cc) cd fun p ce=>
 oP E (gNo p (fA 40 a 2)) ce fun cf cg=>
 oP E (gNo p (lA 3 cf)) cg fun ch ci=>
 oP E (gNo p (bC .lss 3 28 ch (vI 1))) ci fun cj ck=>
 oP E (xPick p (vB true) cj) ck fun q cl=>
 oP E (gNo q (fA 40 a 2)) cl fun cm cn=>
 oP E (gNo q (lA 3 cm)) cn fun co cp=>
 oP E (gNo q (bC .gtr 3 33 co (vI 14))) cp fun cq cr=>
 oP E (xPick q (vB true) cq) cr fun cs ai=>
 xcond cs
 (R (vB false) ai)
 (oP E (fA 40 a 2) ai fun ct cu=>
 oP E (lA 3 ct) cu fun cv cw=>
 oP E (xCall (fC 53) [cv]) cw fun cx cy=>
 oP E (xV (Instr.alloc 110 true (.tuple #[]))) cy fun n cz=>
 oP E (sA 110 n cx) cz fun _ da=>
 dX da fun o=>
 qP pG (fA 110 n 0) fun y=>
 qP pG (fA 40 a 3) fun aj=>
 qP pG (fA 40 a 3) fun z=>
 qL pG o (blk y) (lA 4 y) fun db=>
 qL pG o (blk e) (lA 90 e) fun dc=>
 qL pG o (blk aj) (lA 3 aj) fun dd=>
 qL pG o (blk z) (lA 3 z) fun de=>
 qP pG (bC .eql 3 46 de (vI (-1))) fun df=>
 oP E (xCall (fC 55) [dc,dd]) o fun dg aa=>
 keepX [(blk z),(blk y)] o aa (opK pG E (xCall (fC 54) [db,dg,df]) aa fun f i=>
 keepX [] aa i (qP pG (gYs f (fA 110 n 1)) fun ab=>
 qP pG (gYs f (fA 40 a 4)) fun ak=>
 qP pG (gYs f (fA 40 a 4)) fun ac=>
 qL pG i (blk ab) (gYs f (lA 4 ab)) fun dh=>
 qL pG i (blk e) (gYs f (lA 90 e)) fun di=>
 qL pG i (blk ak) (gYs f (lA 3 ak)) fun dj=>
 qL pG i (blk ac) (gYs f (lA 3 ac)) fun dk=>
 qP pG (gYs f (bC .eql 3 57 dk (vI (-1)))) fun dl=>
 oP E (gYs f (xCall (fC 56) [di,dj])) i fun dm ad=>
 keepX [(blk ac),(blk ab)] i ad (opK pG E (gYs f (xCall (fC 54) [dh,dm,dl])) ad fun dn j=>
 keepX [] ad j (qP pG (xPick f dn (vB false)) fun b=>
 qP pG (gYs b (fA 110 n 2)) fun al=>
 qP pG (gYs b (fA 40 a 5)) fun am=>
 qP pG (gYs b (fA 40 a 5)) fun an=>
 qL pG j (blk al) (gYs b (lA 4 al)) fun dp=>
 qL pG j (blk am) (gYs b (lA 3 am)) fun dq=>
 qP pG (gYs b (bC .geq 3 65 dq (vI 1))) fun r=>
 qP pG (gsem (asB (zT b r)) true (fA 40 a 5)) fun ao=>
 qL pG j (blk ao) (gsem (asB (zT b r)) true (lA 3 ao)) fun dr=>
 qP pG (gsem (asB (zT b r)) true (bC .leq 3 69 dr (vI 6))) fun ds=>
 qP pG (gYs b (xPick (zT b r) ds (vB false))) fun dt=>
 qL pG j (blk an) (gYs b (lA 3 an)) fun du=>
 qP pG (gYs b (bC .eql 3 73 du (vI 0))) fun dv=>
 oP E (gYs b (xCall (fC 54) [dp,dt,dv])) j fun dw k=>
 keepX [] j k (qP pG (xPick b dw (vB false)) fun c=>
 qP pG (gYs c (fA 110 n 3)) fun s=>
 qP pG (gYs c (fA 40 a 6)) fun ap=>
 qP pG (gYs c (fA 40 a 6)) fun t=>
 qL pG k (blk s) (gYs c (lA 4 s)) fun dx=>
 qL pG k (blk e) (gYs c (lA 90 e)) fun dy=>
 qL pG k (blk ap) (gYs c (lA 38 ap)) fun dz=>
 qL pG k (blk t) (gYs c (lA 38 t)) fun ea=>
 oP E (gYs c (xCall (fC 57) [dy,dz])) k fun eb ae=>
 keepX [(blk t),(blk s)] k ae (opK pG E (gYs c (xCall (fC 58) [])) ae fun ec af=>
 keepX [(blk t),(blk s)] ae af (qP pG (gYs c (bN .eql 38 85 86 ea ec)) fun ed=>
 oP E (gYs c (xCall (fC 54) [dx,eb,ed])) af fun ee l=>
 keepX [] af l (qP pG (xPick c ee (vB false)) fun d=>
 qP pG (gYs d (fA 110 n 4)) fun u=>
 qP pG (gYs d (fA 40 a 7)) fun aq=>
 qP pG (gYs d (fA 40 a 7)) fun v=>
 qL pG l (blk u) (gYs d (lA 4 u)) fun ef=>
 qL pG l (blk e) (gYs d (lA 90 e)) fun eg=>
 qL pG l (blk aq) (gYs d (lA 38 aq)) fun eh=>
 qL pG l (blk v) (gYs d (lA 38 v)) fun ei=>
 oP E (gYs d (xCall (fC 57) [eg,eh])) l fun ej ag=>
 keepX [(blk v),(blk u)] l ag (opK pG E (gYs d (xCall (fC 58) [])) ag fun ek ah=>
 keepX [(blk v),(blk u)] ag ah (qP pG (gYs d (bN .eql 38 98 99 ei ek)) fun el=>
 oP E (gYs d (xCall (fC 54) [ef,ej,el])) ah fun em ar=>
 keepX [] ah ar (qP pG (xPick d em (vB false)) fun en=>
 R en ar))))))))))))
def h41:Hint:=(sQ (hS (sQ (hC (sQ hN) hN)) (sQ (hS (.reg [(0,549755813888,32),(1,1099511627776,549755813888),(0,2199023255552,4),(0,4398046511104,8),(8,8796093022208,4398046511104),(20,17592186044416,10995116277760),(0,35184372088832,8),(64,70368744177664,35184372088832),(128,140737488355328,70368744177664),(290,281474976710656,159429186027520),(512,562949953421312,281474976710656),(1024,1125899906842624,562949953421344),(3072,2251799813685248,1688849860263936),(1024,4503599627370496,562949953421316),(1024,9007199254740992,562949953421320),(17408,18014398509481984,9570149208162304),(41984,36028797018963968,23080948090273792),(1024,72057594037927936,562949953421320),(132096,144115188075855872,72620543991349248),(263168,288230376151711744,144678138029277184),(594944,576460752303423488,327073922937782272),(1049600,1152921504606846976,577023702256844800),(3145728,2305843009213693952,1152921504606846976),(4194304,4611686018427387904,2305843009213693984),(12582912,9223372036854775808,6917529027641081856),(4194304,18446744073709551616,2305843009213693960),(37748736,36893488147419103232,20752587082923245568),(71303168,73786976294838206464,39199331156632797184),(138412032,147573952589676412928,76092819304051900416),(268435456,295147905179352825856,147573952589676412936),(805306368,590295810358705651712,442721857769029238784),(1342177280,1180591620717411303424,737869762948382064640),(2420113408,2361183241434822606848,1330471416316301410304),(4194304,4722366482869645213696,2305843009213693960),(8594128896,9444732965739290427392,4724672325878858907648),(17184063488,18889465931478580854784,9447038808748504121344),(38944112640,37778931862957161709568,21262178387959471931392),(68723671040,75557863725914323419136,37781237705966375403520),(206158430208,151115727451828646838272,75557863725914323419136),(274877906944,302231454903657293676544,151115727451828646838304),(824633720832,604462909807314587353088,453347182355485940514816),(274877906944,1208925819614629174706176,151115727451828646838276),(274877906944,2417851639229258349412352,151115727451828646838280),(4672924418048,4835703278458516698824704,2568967366681086996250624),(11269994184704,9671406556917033397649408,6195744825524974520369152),(274877906944,19342813113834066795298816,151115727451828646838280),(35459249995776,38685626227668133590597632,19493928841285895442137088),(17867063951360,77371252455336267181195264,151115727451828646838272),(211381110439936,154742504910672534362390528,116207994410456229418631168),(441179040645120,309485009821345068724781056,165169490104848710994231296),(563224831328256,618970019642690137449562112,309636125548796897371619328),(1688849860263936,1237940039285380274899124224,618970019642690137449562112),(2251799813685248,2475880078570760549798248448,1237940039285380274899124256),(6755399441055744,4951760157141521099596496896,3713820117856140824697372672),(2251799813685248,9903520314283042199192993792,1237940039285380274899124228),(2251799813685248,19807040628566084398385987584,1237940039285380274899124232),(38280596832649216,39614081257132168796771975168,21044980667851464673285111808),(92323792361095168,79228162514264337593543950336,50755541610700591270864093184),(2251799813685248,158456325028528675187087900672,1237940039285380274899124232),(290482175965396992,316912650057057350374175801344,159694265067814055461987024896),(146366987889541120,633825300114114700748351602688,1237940039285380274899124224),(1731634056723955712,1267650600228229401496703205376,951975890210457431397426528256),(3614138700964823040,2535301200456458802993406410752,1353068462938920640464742776832),(4613937818241073152,5070602400912917605986812821504,2536539140495744183268305534976),(18446744073709551615,16,5070602400912917605986812821504)] [675622425815462038,675622425815462036,675622425815462034,675622425815462038,675622425815462022,130,675622425815462038,675622425815461910,675622425815462038,0,675622425815462038,675622425815462038,675622425815457942,675622425815453846,675622425815462038,675622425815429270,266240,675622425815462038,675622425815199894,675622425815462038,0,675622425815462038,675622425815462038,675622425815462038,675622425798684822,675622425815462038,675622425748353174,675622425815462038,675622425815462038,675622425815462038,675622424741720214,675622425815462038,675622425815462038,675622425815462038,675622408635592854,675622425815462038,0,675622425815462038,675622425815462038,675622425815462038,675621326303834262,675620226792206486,675622425815462038,675613629722439830,71468255805440,675622425815462038,675552057071284374,71468255805440,675622425815462038,0,675622425815462038,675622425815462038,675622425815462038,666615226560721046,657608027305980054,675622425815462038,603564831777534102,585467951558164480,675622425815462038,99161673512038550,585467951558164480,675622425815462038,0,675622425815462038,675622425815462038] (.early 0 (.early 3 (.early 6 (.load 1 (.load 2 (.load 4 (.load 7 (.early 8 (.step 5 (.step 9 (.early 10 (.early 11 (.early 14 (.early 17 (.load 12 (.load 13 (.load 15 (.load 18 (.early 19 (.step 16 (.step 20 (.early 21 (.early 22 (.early 23 (.early 25 (.early 33 (.load 24 (.load 26 (.early 27 (.early 28 (.early 29 (.load 30 (.early 31 (.early 32 (.load 34 (.early 35 (.step 36 (.early 37 (.early 38 (.early 39 (.early 42 (.early 45 (.load 40 (.load 41 (.load 43 (.load 46 (.step 44 (.step 47 (.early 48 (.step 49 (.early 50 (.early 51 (.early 52 (.early 55 (.early 58 (.load 53 (.load 54 (.load 56 (.load 59 (.step 57 (.step 60 (.early 61 (.step 62 (.early 63 (.early 64 .done)))))))))))))))))))))))))))))))))))))))))))))))))))))))))))))))))) hN))))
theorem c7G{x0 x1:Value}(h:F41 x0 x1 w R E):Cv pG 41 #[x0,x1] w R E:=okF (h:=h41) Tryz.func41 (by kernel_rfl) (by kernel_rfl) h
end Go.Proofs.YtaokfhdinhimfaaGreatDoor
