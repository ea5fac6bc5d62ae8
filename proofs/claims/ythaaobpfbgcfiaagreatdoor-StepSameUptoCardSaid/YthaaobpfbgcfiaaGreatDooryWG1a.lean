/- The second reading of some of the program's functions, printed by gen2.py off the code; each is held against the code by the kernel. -/
import Derived.KernelRfl
import Derived.Test.YthaaobpfbgcfiaaGreatDooryWGz
namespace Go.Proofs.YthaaobpfbgcfiaaGreatDoor
open Go.RowKit
set_option maxRecDepth 100000
variable {w:World}{R:RT}{E:Pan}
def F3(x0 x1 x2 w)(R:RT)(E):=
 opK pG E (xV (Instr.box 25 x0)) w fun c m=>
 oP E (xCall (fC 4) []) m fun n o=>
 oP E (xV (Op.unary .not n)) o fun p d=>
 xcond p
 (R (vB false) d)
 (oP E (xCall (fC 5) [x1,x2]) d fun q r=>
 oP E (xV (Op.unary .not q)) r fun s e=>
 xcond s
 (R (vB true) e)
 (oP E (lA 25 c) e fun t u=>
 oP E (xCall (fC 6) [t,x1,x2]) u fun f v=>
 oP E (xT f 0) v fun y z=>
 oP E (xT f 1) z fun aa ab=>
 oP E (xV (Instr.alloc 32 true (.tuple #[]))) ab fun g ac=>
 oP E (sA 32 g y) ac fun _ ad=>
 oP E (lA 25 c) ad fun ae af=>
 oP E (xCall (fC 7) [ae]) af fun i ag=>
 oP E (xT i 0) ag fun ah ai=>
 oP E (xT i 1) ai fun aj ak=>
 oP E (xV (Instr.alloc 39 true (.tuple #[]))) ak fun j al=>
 oP E (sA 39 j ah) al fun _ am=>
 oP E (bC .neq 33 32 aj (vI 0)) am fun an k=>
 xcond an
 (R (vB true) k)
 (oP E (lA 39 j) k fun ao ap=>
 oP E (xCall (fC 8) [ao,x1,x2]) ap fun b aq=>
 oP E (xT b 0) aq fun ar au=>
 oP E (xT b 1) au fun _t40_43 av=>
 oP E (xT b 2) av fun aw ax=>
 oP E (xV (Instr.alloc 32 true (.tuple #[]))) ax fun l ay=>
 oP E (sA 32 l ar) ay fun _ az=>
 oP E (bN .eql 33 42 43 aa aw) az fun a ba=>
 oP E (gYs a (lA 32 g)) ba fun bb bc=>
 oP E (gYs a (lA 32 l)) bc fun bd be=>
 oP E (gYs a (xCall (fC 9) [bb,bd])) be fun bf bg=>
 oP E (xPick a bf (vB false)) bg fun bh bi=>
 R bh bi)))
def h3:Hint:=(sQ (hS (sQ (hC (sQ hN) hN)) (hS (sQ (hC (sQ hN) hN)) (sQ (sQ (hS (sQ (hC (sQ hN) hN)) (sQ (sQ hN))))))))
theorem d2I{x0 x1 x2:Value}(h:F3 x0 x1 x2 w R E):Cv pG 3 #[x0,x1,x2] w R E:=okF (h:=h3) Tryz.func3 (by kernel_rfl) (by kernel_rfl) h
def F4(w)(R:RT)(E):=
 opK pG E (xV (Instr.buildSlice 36 1 #[(0,(Value.string ⟨#[120]⟩))])) w fun j k=>
 oP E (xV (Instr.build 47 #[(0,(vI (-1))),(1,(vI 4))])) k fun l m=>
 oP E (xV (Instr.build 47 #[(0,(vI (-1)))])) m fun n o=>
 oP E (xV (Instr.build 49 #[(1,(vI 1)),(2,(vI 2)),(4,(vI (-1))),(6,l),(7,n)])) o fun p q=>
 oP E (xV (Instr.buildSlice 37 1 #[(0,p)])) q fun r s=>
 oP E (xV (Instr.build 39 #[(0,j),(3,(vI 2)),(4,(vI 1)),(5,r)])) s fun t u=>
 oP E (xV (Instr.alloc 39 true (.tuple #[]))) u fun i v=>
 oP E (sA 39 i t) v fun _ y=>
 oP E (lA 39 i) y fun z aa=>
 oP E (xCall (fC 8) [z,(nS),(vI 5)]) aa fun f ab=>
 oP E (xT f 0) ab fun ac ad=>
 oP E (xT f 1) ad fun ae af=>
 oP E (xT f 2) af fun ag ah=>
 oP E (xV (Instr.alloc 32 true (.tuple #[]))) ah fun b ai=>
 oP E (sA 32 b ac) ai fun _ aj=>
 oP E (bC .eql 33 17 ag (vI 0)) aj fun g ak=>
 oP E (gYs g (bC .eql 3 20 (gval (asB g) true ae) (vI 1))) ak fun al am=>
 oP E (xPick g al (vB false)) am fun d an=>
 oP E (gYs d (fA 32 b 0)) an fun ao ap=>
 oP E (gYs d (lA 3 ao)) ap fun aq ar=>
 oP E (gYs d (bC .eql 3 25 aq (vI 2))) ar fun au av=>
 oP E (xPick d au (vB false)) av fun e aw=>
 oP E (gYs e (fA 32 b 2)) aw fun ax ay=>
 oP E (gYs e (lA 3 ax)) ay fun az ba=>
 oP E (gYs e (bC .eql 3 30 az (vI 1))) ba fun bb bc=>
 oP E (xPick e bb (vB false)) bc fun c bd=>
 oP E (gYs c (fA 32 b 4)) bd fun be bf=>
 oP E (gYs c (lA 26 be)) bf fun bg bh=>
 oP E (gYs c (xBuiltin .len #[26] 3 [false] [bg])) bh fun bi bj=>
 oP E (gYs c (bC .eql 3 36 bi (vI 1))) bj fun bk bl=>
 oP E (xPick c bk (vB false)) bl fun a bm=>
 oP E (gYs a (fA 32 b 4)) bm fun bn bo=>
 oP E (gYs a (lA 26 bn)) bo fun bp bq=>
 oP E (gYs a (iA 26 bp (vI 0))) bq fun br bs=>
 oP E (gYs a (lA 2 br)) bs fun bt bu=>
 oP E (gYs a (bC .eql 2 43 bt (vI 4))) bu fun bv bw=>
 oP E (xPick a bv (vB false)) bw fun bz ca=>
 R bz ca
def h4:Hint:=(sQ (sQ (sQ (sQ hN))))
theorem d2J(h:F4  w R E):Cv pG 4 #[] w R E:=okF (h:=h4) Tryz.func4 (by kernel_rfl) (by kernel_rfl) h
def F5(x0 x1 w)(R:RT)(E):=
 opK pG E (xBuiltin .len #[26] 3 [false] [x0]) w fun c d=>
 oP E (bC .leq 3 6 c (vI 3000)) d fun a e=>
 oP E (gYs a (bC .leq 3 9 (gval (asB a) true x1) (vI 3000))) e fun b f=>
 oP E (gsem (asB (gval (asB a) true b)) false (xBin .gtr 3 (.tmp 12) (.const (vI 65536)) (gval (asB (gval (asB a) true b)) false x1) (vI 65536))) f fun g i=>
 oP E (gYs a (xPick (gval (asB a) true b) (vB true) g)) i fun j k=>
 oP E (xPick a j (vB false)) k fun l m=>
 R l m
def h5:Hint:=(sQ (sQ hN))
theorem d2K{x0 x1:Value}(h:F5 x0 x1 w R E):Cv pG 5 #[x0,x1] w R E:=okF (h:=h5) Tryz.func5 (by kernel_rfl) (by kernel_rfl) h
def c1x(x6 x14 w)(R:RT)(E):=
 ∀_τ:Fr,(oP E (lA 32 x14) w fun b c=>
 oP E (sA 32 x6 b) c fun _ a=>
 xcell pG 32 x6 a fun d=>
 R (Value.tuple #[d,(vI 0)]) a)
def c6e(_x6 _x10 _x14 _x89 _x90 x91:Value)(w)(next3:NT)(_R:RT)(E):=
 ∀_τ:Fr,(oP E (bC .add 3 91 x91 (vI 1)) w fun a b=>
 next3 [a] b)
def c1y(x6 x10 x14 x89 x90 x91 w)(next3:NT)(j2:NT)(R:RT)(E):=
 opK pG E (bN .lss 3 91 90 x91 x90) w fun v k=>
 xcond v
 (xcut (fun _ y=>c6e x6 x10 x14 x89 x90 x91 y next3 R E) fun j4=>
 oP E (iA 22 x89 x91) k fun z aa=>
 oP E (lA 58 z) aa fun ab ac=>
 oP E (xV (Instr.alloc 58 true (.tuple #[]))) ac fun c ad=>
 oP E (sA 58 c ab) ad fun _ ae=>
 oP E (fA 58 c 1) ae fun af ag=>
 oP E (lA 3 af) ag fun ah ai=>
 oP E (bC .gtr 3 96 ah (vI 0)) ai fun aj l=>
 xcond aj
 (dX l fun b=>
 qP pG (fA 32 x14 5) fun d=>
 qP pG (xNil x10) fun ak=>
 qP pG (fA 56 ak 5) fun m=>
 qP pG (fA 58 c 0) fun n=>
 qL pG b (blk d) (lA 30 d) fun al=>
 qL pG b (blk m) (lA 54 m) fun o=>
 qL pG b (blk n) (lA 9 n) fun am=>
 qL pG b (blk o) (xV (Instr.lookup 54 o am false)) fun an=>
 oP E (xV (Instr.buildSlice 30 1 #[(0,an)])) b fun ao e=>
 keepX [(blk d)] b e (opK pG E (xBuiltin .append #[30,30] 30 [false,false] [al,ao]) e fun ap f=>
 keepX [] e f (qP pG (fA 32 x14 5) fun aq=>
 oP E (sA 30 aq ap) f fun _ p=>
 keepX [] f p (j4 [] p))))
 (dX l fun a=>
 qP pG (fA 32 x14 4) fun g=>
 qP pG (xNil x10) fun ar=>
 qP pG (fA 56 ar 4) fun q=>
 qP pG (fA 58 c 0) fun r=>
 qL pG a (blk g) (lA 26 g) fun au=>
 qL pG a (blk q) (lA 53 q) fun s=>
 qL pG a (blk r) (lA 9 r) fun av=>
 qL pG a (blk s) (xV (Instr.lookup 53 s av false)) fun aw=>
 qP pG (xNil aw) fun t=>
 qL pG a (blk t) (lA 2 t) fun ax=>
 oP E (xV (Instr.buildSlice 26 1 #[(0,ax)])) a fun ay i=>
 keepX [(blk g)] a i (opK pG E (xBuiltin .append #[26,26] 26 [false,false] [au,ay]) i fun az j=>
 keepX [] i j (qP pG (fA 32 x14 4) fun ba=>
 oP E (sA 26 ba az) j fun _ u=>
 keepX [] j u (j4 [] u)))))
 (j2 [] k)
def c6f(x3 x6 x10 w)(R:RT)(E):=
 ∀_τ:Fr,(oP E (fA 25 x3 1) w fun l m=>
 oP E (lA 23 l) m fun n o=>
 oP E (xCall (fC 11) [x10,n]) o fun p q=>
 oP E (xV (Instr.alloc 61 true (.tuple #[]))) q fun b r=>
 oP E (sA 61 b p) r fun _ s=>
 dX s fun a=>
 qP pG (fA 61 b 0) fun c=>
 qP pG (fA 61 b 1) fun d=>
 qP pG (xNil x10) fun t=>
 qP pG (fA 56 t 1) fun e=>
 qP pG (xNil x10) fun u=>
 qP pG (fA 56 u 3) fun f=>
 qL pG a (blk c) (lA 3 c) fun v=>
 qL pG a (blk d) (lA 3 d) fun y=>
 qL pG a (blk e) (lA 3 e) fun z=>
 qL pG a (blk f) (lA 29 f) fun aa=>
 qP pG (xV (Instr.build 32 #[(0,v),(1,y),(2,z),(3,aa)])) fun ab=>
 oP E (xV (Instr.alloc 32 true (.tuple #[]))) a fun g i=>
 keepX [(blk f),(blk e),(blk d),(blk c)] a i (opK pG E (sA 32 g ab) i fun _ j=>
 keepX [] i j (xcut (fun _ ac=>c1x x6 g ac R E) fun j2=>
 oP E (fA 25 x3 0) j fun ad ae=>
 oP E (lA 22 ad) ae fun k af=>
 oP E (xBuiltin .len #[22] 3 [false] [k]) af fun ag ah=>
 xloop [91] [(vI 0)] ah fun ai aj next3=>
 c1y x6 x10 g k ag (ai 91) aj next3 j2 R E)))
def c6g(_x3 _x6 _x10 _x45 _x46 x47:Value)(w)(next5:NT)(_R:RT)(E):=
 ∀_τ:Fr,(oP E (bC .add 3 47 x47 (vI 1)) w fun a b=>
 next5 [a] b)
def c6h(x3 x6 x10 x45 x46 x47 w)(next5:NT)(j1:NT)(R:RT)(E):=
 opK pG E (bN .lss 3 47 46 x47 x46) w fun q k=>
 xcond q
 (xcut (fun _ r=>c6g x3 x6 x10 x45 x46 x47 r next5 R E) fun j6=>
 oP E (iA 22 x45 x47) k fun s t=>
 oP E (lA 58 s) t fun u v=>
 oP E (xV (Instr.alloc 58 true (.tuple #[]))) v fun a y=>
 oP E (sA 58 a u) y fun _ z=>
 oP E (fA 58 a 1) z fun aa ab=>
 oP E (lA 3 aa) ab fun ac ad=>
 oP E (bC .gtr 3 52 ac (vI 0)) ad fun ae l=>
 xcond ae
 (dX l fun b=>
 qP pG (xNil x10) fun af=>
 qP pG (fA 56 af 5) fun d=>
 qP pG (fA 58 a 0) fun e=>
 qP pG (fA 58 a 1) fun m=>
 qL pG b (blk d) (lA 54 d) fun ag=>
 qL pG b (blk e) (lA 9 e) fun ah=>
 qL pG b (blk m) (lA 3 m) fun n=>
 oP E (xV (Instr.makeSlice 26 n n)) b fun ai f=>
 keepX [(blk e),(blk d)] b f (opK pG E (xU (Instr.mapUpdate 54 ag ah ai)) f fun _ o=>
 keepX [] f o (j6 [] o)))
 (dX l fun c=>
 qP pG (xNil x10) fun aj=>
 qP pG (fA 56 aj 4) fun g=>
 qP pG (fA 58 a 0) fun i=>
 qL pG c (blk g) (lA 53 g) fun ak=>
 qL pG c (blk i) (lA 9 i) fun al=>
 oP E (xV (Instr.alloc 2 true (.tuple #[]))) c fun am j=>
 keepX [(blk i),(blk g)] c j (opK pG E (xU (Instr.mapUpdate 53 ak al am)) j fun _ p=>
 keepX [] j p (j6 [] p))))
 (j1 [] k)
def F6(x0 x1 x2 w)(R:RT)(E):=
 opK pG E (xV (Instr.box 25 x0)) w fun b n=>
 oP E (xV (Instr.alloc 32 true (.tuple #[]))) n fun a o=>
 oP E (lA 25 b) o fun p q=>
 oP E (xCall (fC 10) [p]) q fun e r=>
 oP E (xT e 0) r fun _t20_9 s=>
 oP E (xT e 1) s fun f t=>
 oP E (bC .neq 33 22 f (vI 0)) t fun u g=>
 xcond u
 (oP E (xV (Instr.build 32 #[])) g fun v y=>
 oP E (sA 32 a v) y fun _ i=>
 xcell pG 32 a i fun z=>
 R (Value.tuple #[z,f]) i)
 (oP E (bC .lss 3 26 x2 (vI 0)) g fun d aa=>
 oP E (gNo d (bC .gtr 3 29 (gval (asB d) false x2) (vI 65536))) aa fun ab ac=>
 oP E (xPick d (vB true) ab) ac fun c ad=>
 oP E (gNo c (xBuiltin .len #[26] 3 [false] [(gval (asB c) false x1)])) ad fun ae af=>
 oP E (gNo c (bC .gtr 3 34 ae (vI 65536))) af fun ag ah=>
 oP E (xPick c (vB true) ag) ah fun ai j=>
 xcond ai
 (oP E (xV (Instr.build 32 #[])) j fun aj ak=>
 oP E (sA 32 a aj) ak fun _ k=>
 xcell pG 32 a k fun al=>
 R (Value.tuple #[al,(vI 80)]) k)
 (oP E (xV (Instr.makeMap 53 none)) j fun am an=>
 oP E (xV (Instr.makeMap 54 none)) an fun ao ap=>
 oP E (xV (Instr.build 56 #[(0,x2),(2,x1),(4,am),(5,ao)])) ap fun aq ar=>
 oP E (xV (Instr.box 56 aq)) ar fun l au=>
 xcut (fun _ av=>c6f b a l av R E) fun j1=>
 oP E (fA 25 b 0) au fun aw ax=>
 oP E (lA 22 aw) ax fun m ay=>
 oP E (xBuiltin .len #[22] 3 [false] [m]) ay fun az ba=>
 xloop [47] [(vI 0)] ba fun bb bc next5=>
 c6h b a l m az (bb 47) bc next5 j1 R E))
def h6:Hint:=(sQ (hS (sQ (sQ (hC (sQ hN) hN))) (hS (sQ (hC (sQ hN) hN)) (sQ (hU [] (sQ (hB (hL [47] (sQ (hS (hC hN hN) (hU [] (hB (sQ (sQ (hC (.reg [(0,18014398509481984,1024),(1,36028797018963968,18014398509481984),(2,72057594037927936,36028797018963968),(4,144115188075855872,72057594037927936),(0,288230376151711744,4096),(16,576460752303423488,288230376151711744),(0,1152921504606846976,4096),(64,2305843009213693952,1152921504606846976),(128,4611686018427387904,2305843009213693952),(511,0,5332261958806667264)] [168,168,168,160,168,136,168,40,40,0] (.early 0 (.early 1 (.early 2 (.early 4 (.early 6 (.load 3 (.load 5 (.load 7 (.step 8 (.step 9 .done))))))))))) (.reg [(0,9223372036854775808,1024),(1,18446744073709551616,9223372036854775808),(2,36893488147419103232,18446744073709551616),(4,73786976294838206464,36893488147419103232),(0,147573952589676412928,4096),(16,295147905179352825856,147573952589676412928),(0,590295810358705651712,0),(127,0,959230691832896684032)] [40,40,40,32,40,8,40,0] (.early 0 (.early 1 (.early 2 (.early 4 (.load 3 (.load 5 (.step 6 (.step 7 .done))))))))))))) hN)))))) (sQ (hS (.reg [(0,37778931862957161709568,8192),(1,75557863725914323419136,37778931862957161709568),(0,151115727451828646838272,8192),(4,302231454903657293676544,151115727451828646838272),(0,604462909807314587353088,1024),(16,1208925819614629174706176,604462909807314587353088),(32,2417851639229258349412352,1208925819614629174706176),(64,4835703278458516698824704,2417851639229258349412352),(0,9671406556917033397649408,1024),(256,19342813113834066795298816,9671406556917033397649408),(512,38685626227668133590597632,19342813113834066795298816),(1024,77371252455336267181195264,38685626227668133590597632),(2186,154742504910672534362390528,82584745052424355497115648),(0,16384,0),(16383,0,154742504910672534362406912)] [2186,2184,2186,2178,2186,2186,2186,2058,2186,2186,2186,138,2186,2186,0] (.early 0 (.early 2 (.early 4 (.early 5 (.early 6 (.early 8 (.early 9 (.early 10 (.load 1 (.load 3 (.load 7 (.load 11 (.early 12 (.step 13 (.step 14 .done)))))))))))))))) (hU [] (sQ (hB (hL [91] (sQ (hS (hC hN hN) (hU [] (hB (sQ (sQ (hC (.reg [(0,316912650057057350374175801344,16384),(1,633825300114114700748351602688,316912650057057350374175801344),(0,1267650600228229401496703205376,1024),(4,2535301200456458802993406410752,1267650600228229401496703205376),(8,5070602400912917605986812821504,2535301200456458802993406410752),(16,10141204801825835211973625643008,5070602400912917605986812821504),(0,20282409603651670423947251286016,65536),(64,40564819207303340847894502572032,20282409603651670423947251286016),(160,81129638414606681695789005144064,50706024009129176059868128215040),(256,162259276829213363391578010288128,81129638414606681695789005144064),(514,324518553658426726783156020576256,162893102129327478092326361890816),(2047,649037107316853453566312041152512,16384),(4095,0,973555660975280180349468061728768)] [418,416,418,418,418,386,418,290,162,2,0,418,0] (.early 0 (.early 2 (.early 3 (.early 4 (.early 6 (.load 1 (.load 5 (.load 7 (.load 8 (.step 9 (.step 10 (.early 11 (.step 12 .done)))))))))))))) (.reg [(0,1298074214633706907132624082305024,16384),(1,2596148429267413814265248164610048,1298074214633706907132624082305024),(0,5192296858534827628530496329220096,1024),(4,10384593717069655257060992658440192,5192296858534827628530496329220096),(8,20769187434139310514121985316880384,10384593717069655257060992658440192),(16,41538374868278621028243970633760768,20769187434139310514121985316880384),(0,83076749736557242056487941267521536,65536),(64,166153499473114484112975882535043072,83076749736557242056487941267521536),(160,332306998946228968225951765070086144,207691874341393105141219853168803840),(256,664613997892457936451903530140172288,332306998946228968225951765070086144),(512,1329227995784915872903807060280344576,664613997892457936451903530140172288),(1024,2658455991569831745807614120560689152,1329227995784915872903807060280344576),(2050,5316911983139663491615228241121378304,2661052139999099159621879368725299200),(8191,10633823966279326983230456482242756608,16384),(16383,0,15950735949418990474845684723364134912)] [1442,1440,1442,1442,1442,1410,1442,1314,1186,1442,418,2,0,1442,0] (.early 0 (.early 2 (.early 3 (.early 4 (.early 6 (.load 1 (.load 5 (.load 7 (.load 8 (.early 9 (.load 10 (.step 11 (.step 12 (.early 13 (.step 14 .done)))))))))))))))))))) hN)))))) (sQ hN)))))))))
theorem d2L{x0 x1 x2:Value}(h:F6 x0 x1 x2 w R E):Cv pG 6 #[x0,x1,x2] w R E:=okF (h:=h6) Tryz.func6 (by kernel_rfl) (by kernel_rfl) h
def c1z(x1 x2 x4 x8 w)(R:RT)(E):=
 ∀_τ:Fr,(oP E (xV (Instr.makeFunc (.func 15) #[x8] #[])) w fun l m=>
 dX m fun b=>
 qP pG (fA 25 x1 1) fun c=>
 qP pG (xNil x8) fun n=>
 qP pG (fA 70 n 0) fun o=>
 qP pG (fA 39 o 4) fun d=>
 qL pG b (blk c) (lA 23 c) fun p=>
 qL pG b (blk d) (lA 3 d) fun q=>
 oP E (xCall l [p,(vI 0),q]) b fun _t84_47 e=>
 keepX [] b e (opK pG E (xBuiltin .len #[36] 3 [false] [x4]) e fun r s=>
 oP E (xNil x8) s fun t u=>
 oP E (fA 70 t 0) u fun v y=>
 oP E (fA 39 v 1) y fun z aa=>
 oP E (lA 3 z) aa fun ab ac=>
 oP E (bN .add 3 87 92 r ab) ac fun ad ae=>
 oP E (bC .gtr 3 93 ad (vI 64)) ae fun af f=>
 xcond af
 (oP E (xV (Instr.build 39 #[])) f fun ag ah=>
 oP E (sA 39 x2 ag) ah fun _ g=>
 xcell pG 39 x2 g fun ai=>
 R (Value.tuple #[ai,(vI 90)]) g)
 (oP E (xNil x8) f fun aj ak=>
 oP E (fA 70 aj 0) ak fun al am=>
 oP E (fA 39 al 3) am fun an ao=>
 oP E (lA 3 an) ao fun ap aq=>
 oP E (bC .gtr 3 101 ap (vI 4096)) aq fun a ar=>
 oP E (gNo a (xNil (gval (asB a) false x8))) ar fun au av=>
 oP E (gNo a (fA 70 au 0)) av fun aw ax=>
 oP E (gNo a (fA 39 aw 5)) ax fun ay az=>
 oP E (gNo a (lA 37 ay)) az fun ba bb=>
 oP E (gNo a (xBuiltin .len #[37] 3 [false] [ba])) bb fun bc bd=>
 oP E (gNo a (bC .gtr 3 109 bc (vI 8192))) bd fun be bf=>
 oP E (xPick a (vB true) be) bf fun bg i=>
 xcond bg
 (oP E (xV (Instr.build 39 #[])) i fun bh bi=>
 oP E (sA 39 x2 bh) bi fun _ j=>
 xcell pG 39 x2 j fun bj=>
 R (Value.tuple #[bj,(vI 91)]) j)
 (oP E (xNil x8) i fun bk bl=>
 oP E (fA 70 bk 0) bl fun bm bn=>
 oP E (lA 39 bm) bn fun bo bp=>
 oP E (sA 39 x2 bo) bp fun _ k=>
 xcell pG 39 x2 k fun bq=>
 R (Value.tuple #[bq,(vI 0)]) k))))
def c1A(x1 x2 x4 x8 w)(R:RT)(E):=
 ∀_τ:Fr,(xcut (fun _ b=>c1z x1 x2 x4 x8 b R E) fun j3=>
 oP E (fA 25 x1 1) w fun c d=>
 oP E (lA 23 c) d fun e f=>
 oP E (xBuiltin .len #[23] 3 [false] [e]) f fun g i=>
 oP E (bC .gtr 3 66 g (vI 0)) i fun j a=>
 xcond j
 (oP E (xCall (fC 14) [x8]) a fun k l=>
 oP E (xNil x8) l fun m n=>
 oP E (fA 70 m 0) n fun o p=>
 oP E (fA 39 o 4) p fun q r=>
 oP E (sA 3 q k) r fun _ s=>
 j3 [] s)
 (j3 [] a))
def c6i(_x1 _x2 _x4 x8 x49 x50 x51:Value)(w)(next4:NT)(j2:NT)(_R:RT)(E):=
 opK pG E (bN .lss 3 51 50 x51 x50) w fun g b=>
 xcond g
 (oP E (iA 22 x49 x51) b fun i j=>
 oP E (lA 58 i) j fun k l=>
 oP E (xV (Instr.alloc 58 true (.tuple #[]))) l fun c m=>
 oP E (sA 58 c k) m fun _ n=>
 dX n fun a=>
 qP pG (xNil x8) fun o=>
 qP pG (fA 70 o 2) fun d=>
 qP pG (fA 58 c 0) fun e=>
 qL pG a (blk d) (lA 68 d) fun p=>
 qL pG a (blk e) (lA 9 e) fun q=>
 oP E (xU (Instr.mapUpdate 68 p q x51)) a fun _ f=>
 keepX [] a f (opK pG E (bC .add 3 51 x51 (vI 1)) f fun r s=>
 next4 [r] s))
 (j2 [] b)
def c1B(x1 x2 x4 x6 x8 w)(R:RT)(E):=
 ∀_τ:Fr,(xcut (fun _ a=>c1A x1 x2 x4 x8 a R E) fun j2=>
 oP E (xBuiltin .len #[22] 3 [false] [x6]) w fun b c=>
 xloop [51] [(vI 0)] c fun d e next4=>
 c6i x1 x2 x4 x8 x6 b (d 51) e next4 j2 R E)
def c6j(_x1 _x2 _x4 _x6 x8 x35 x36 x37:Value)(w)(next5:NT)(j1:NT)(_R:RT)(E):=
 opK pG E (bN .lss 3 37 36 x37 x36) w fun b a=>
 xcond b
 (oP E (iA 36 x35 x37) a fun c d=>
 oP E (lA 9 c) d fun e f=>
 oP E (xNil x8) f fun g i=>
 oP E (fA 70 g 1) i fun j k=>
 oP E (lA 68 j) k fun l m=>
 oP E (xU (Instr.mapUpdate 68 l e x37)) m fun _ n=>
 oP E (bC .add 3 37 x37 (vI 1)) n fun o p=>
 next5 [o] p)
 (j1 [] a)
def F7(x0 w)(R:RT)(E):=
 opK pG E (xV (Instr.box 25 x0)) w fun b l=>
 oP E (xV (Instr.alloc 39 true (.tuple #[]))) l fun c m=>
 oP E (lA 25 b) m fun n o=>
 oP E (xCall (fC 12) [n]) o fun e p=>
 oP E (xT e 0) p fun a q=>
 oP E (xT e 1) q fun f r=>
 oP E (bC .neq 33 19 f (vI 0)) r fun s g=>
 xcond s
 (oP E (xV (Instr.build 39 #[])) g fun t u=>
 oP E (sA 39 c t) u fun _ i=>
 xcell pG 39 c i fun v=>
 R (Value.tuple #[v,f]) i)
 (oP E (lA 25 b) g fun y z=>
 oP E (xCall (fC 13) [y]) z fun j aa=>
 oP E (xT j 0) aa fun d ab=>
 oP E (xT j 1) ab fun _t27_26 ac=>
 oP E (xV (Instr.build 39 #[(0,a),(2,d),(3,(vI 1))])) ac fun ad ae=>
 oP E (xV (Instr.makeMap 68 none)) ae fun af ag=>
 oP E (xV (Instr.makeMap 68 none)) ag fun ah ai=>
 oP E (xV (Instr.build 70 #[(0,ad),(1,af),(2,ah)])) ai fun aj ak=>
 oP E (xV (Instr.box 70 aj)) ak fun k al=>
 xcut (fun _ am=>c1B b c a d k am R E) fun j1=>
 oP E (xBuiltin .len #[36] 3 [false] [a]) al fun an ao=>
 xloop [37] [(vI 0)] ao fun ap aq next5=>
 c6j b c a d k a an (ap 37) aq next5 j1 R E)
def h7:Hint:=(sQ (sQ (hS (sQ (hC (sQ hN) hN)) (sQ (sQ (hU [] (sQ (hB (hL [37] (sQ (hS (hC hN hN) (hS (hB (sQ hN)) hN)))))) (hU [] (sQ (hB (hL [51] (sQ (hS (hC hN hN) (hS (hB (sQ (.reg [(0,72057594037927936,256),(1,144115188075855872,72057594037927936),(2,288230376151711744,144115188075855872),(4,576460752303423488,288230376151711744),(0,1152921504606846976,4096),(16,2305843009213693952,1152921504606846976),(0,4611686018427387904,2048),(127,0,7493989779944505344)] [40,40,40,32,40,8,40,0] (.early 0 (.early 1 (.early 2 (.early 4 (.early 6 (.load 3 (.load 5 (.step 7 .done))))))))))) hN)))))) (hU [] (sQ (hC hN hN)) (sQ (hS (.reg [(0,75557863725914323419136,8192),(0,151115727451828646838272,2),(2,302231454903657293676544,151115727451828646838272),(0,604462909807314587353088,256),(8,1208925819614629174706176,604462909807314587353088),(16,2417851639229258349412352,1208925819614629174706176),(32,4835703278458516698824704,2417851639229258349412352),(64,9671406556917033397649408,4835703278458516698824704),(133,19342813113834066795298816,10049195875546605014745088)] [132,132,128,132,132,132,132,4,0] (.early 0 (.early 1 (.early 3 (.early 4 (.early 5 (.early 6 (.load 2 (.load 7 (.step 8 .done)))))))))) (hS (hB (sQ (hC (sQ hN) (sQ (hC (sQ hN) hN))))) (sQ hN))))))))))))
theorem d2M{x0:Value}(h:F7 x0 w R E):Cv pG 7 #[x0] w R E:=okF (h:=h7) Tryz.func7 (by kernel_rfl) (by kernel_rfl) h
def c6k(x3 x6 x10 x13 w)(R:RT)(E):=
 ∀_τ:Fr,(dX w fun a=>
 qP pG (xNil x10) fun n=>
 qP pG (fA 78 n 6) fun l=>
 qP pG (xNil x10) fun o=>
 qP pG (fA 78 o 3) fun d=>
 qP pG (fA 39 x3 0) fun e=>
 qP pG (fA 39 x3 0) fun f=>
 qP pG (xNil x10) fun p=>
 qP pG (fA 78 p 4) fun b=>
 qL pG a (blk l) (lA 29 l) fun q=>
 qP pG (fA 32 x13 3) fun r=>
 qL pG a (blk d) (lA 26 d) fun s=>
 qL pG a (blk e) (lA 36 e) fun t=>
 qP pG (xBuiltin .len #[36] 3 [false] [t]) fun u=>
 qL pG a (blk f) (lA 36 f) fun v=>
 qP pG (xBuiltin .len #[36] 3 [false] [v]) fun y=>
 qP pG (xV (Instr.sliceAt 26 s none (some u) (some y))) fun z=>
 qL pG a (blk b) (lA 30 b) fun aa=>
 oP E (sA 29 r q) a fun _ g=>
 keepX [(blk b),(blk f),(blk e),(blk d)] a g (qP pG (fA 32 x13 4) fun ab=>
 oP E (sA 26 ab z) g fun _ i=>
 keepX [(blk b)] g i (qP pG (fA 32 x13 5) fun ac=>
 oP E (sA 30 ac aa) i fun _ m=>
 keepX [] i m (dX m fun c=>
 qP pG (xNil x10) fun ad=>
 qP pG (fA 78 ad 2) fun j=>
 qL pG c (blk x13) (lA 32 x13) fun ae=>
 qL pG c (blk j) (lA 3 j) fun af=>
 oP E (sA 32 x6 ae) c fun _ k=>
 keepX [(blk j)] c k (xcell pG 32 x6 k fun ag=>
 R (Value.tuple #[ag,af,(vI 0)]) k)))))
def d2N(x2 x3 _x6 x10 x13 x14:Value)(w)(j3:NT)(next4:NT)(_R:RT)(E):=
 opK pG E (fA 32 x13 0) w fun p q=>
 oP E (lA 3 p) q fun r s=>
 oP E (bC .eql 3 72 r (vI 1)) s fun t f=>
 xcond t
 (oP E (xCall (fC 19) [x10]) f fun g u=>
 oP E (xT g 0) u fun i v=>
 oP E (xT g 1) v fun y z=>
 oP E (xV (Op.unary .not y)) z fun a aa=>
 oP E (gNo a (fA 39 x3 5)) aa fun ab ac=>
 oP E (gNo a (lA 37 ab)) ac fun ad ae=>
 oP E (gNo a (iA 37 ad (gval (asB a) false i))) ae fun af ag=>
 oP E (gNo a (fA 49 af 2)) ag fun ah ai=>
 oP E (gNo a (lA 3 ah)) ai fun aj ak=>
 oP E (gNo a (bC .eql 3 87 aj (vI 9))) ak fun b al=>
 oP E (gsem (asB (gval (asB a) false b)) true (xNil (gval (asB (gval (asB a) false b)) true x10))) al fun am an=>
 oP E (gsem (asB (gval (asB a) false b)) true (fA 78 am 5)) an fun ao ap=>
 oP E (gsem (asB (gval (asB a) false b)) true (lA 26 ao)) ap fun aq ar=>
 oP E (gsem (asB (gval (asB a) false b)) true (xBuiltin .len #[26] 3 [false] [aq])) ar fun au av=>
 oP E (gsem (asB (gval (asB a) false b)) true (bC .eql 3 94 au (vI 0))) av fun aw ax=>
 oP E (gNo a (xPick (gval (asB a) false b) aw (vB false))) ax fun ay az=>
 oP E (xPick a (vB true) ay) az fun ba j=>
 xcond ba
 (oP E (fA 32 x13 0) j fun bb bc=>
 oP E (sA 3 bb (vI 2)) bc fun _ bd=>
 j3 [] bd)
 (oP E (fA 32 x13 2) j fun be bf=>
 oP E (lA 3 be) bf fun bg bh=>
 oP E (bN .eql 3 100 101 bg x2) bh fun bi k=>
 xcond bi
 (j3 [] k)
 (oP E (fA 32 x13 2) k fun bj bk=>
 oP E (lA 3 bj) bk fun bl bm=>
 oP E (bC .add 3 104 bl (vI 1)) bm fun bn bo=>
 oP E (fA 32 x13 2) bo fun bp bq=>
 oP E (sA 3 bp bn) bq fun _ br=>
 oP E (fA 39 x3 5) br fun bs bt=>
 oP E (lA 37 bs) bt fun bu bv=>
 oP E (iA 37 bu i) bv fun bw bz=>
 oP E (lA 49 bw) bz fun ca cb=>
 oP E (xV (Instr.alloc 49 true (.tuple #[]))) cb fun c cc=>
 oP E (sA 49 c ca) cc fun _ cd=>
 dX cd fun d=>
 qP pG (fA 49 c 2) fun l=>
 qL pG d (blk l) (lA 3 l) fun ce=>
 qP pG (iA 81 x14 ce) fun m=>
 qL pG d (blk m) (lA 80 m) fun cf=>
 qL pG d (blk c) (lA 49 c) fun cg=>
 oP E (xCall cf [x10,cg]) d fun ch e=>
 keepX [] d e (qP pG (fA 32 x13 1) fun ci=>
 oP E (sA 3 ci ch) e fun _ n=>
 keepX [] e n (opK pG E (fA 32 x13 1) n fun cj ck=>
 oP E (lA 3 cj) ck fun cl cm=>
 oP E (bC .neq 3 121 cl (vI 0)) cm fun cn o=>
 xcond cn
 (oP E (fA 32 x13 0) o fun co cp=>
 oP E (sA 3 co (vI 3)) cp fun _ cq=>
 j3 [] cq)
 (oP E (fA 49 c 1) o fun cr cs=>
 oP E (lA 3 cr) cs fun ct cu=>
 oP E (xNil x10) cu fun cv cw=>
 oP E (fA 78 cv 2) cw fun cx cy=>
 oP E (sA 3 cx ct) cy fun _ cz=>
 next4 [] cz))))))
 (j3 [] f)
def c6l(x2 x3 x6 x10 w)(R:RT)(E):=
 ∀_τ:Fr,(oP E (xV (Instr.build 32 #[(0,(vI 1))])) w fun c d=>
 oP E (xV (Instr.alloc 32 true (.tuple #[]))) d fun a e=>
 oP E (sA 32 a c) e fun _ f=>
 oP E (xCall (fC 18) []) f fun g i=>
 oP E (xV (Instr.alloc 81 true (.tuple #[]))) i fun b j=>
 oP E (sA 81 b g) j fun _ k=>
 xcut (fun _ l=>c6k x3 x6 x10 a l R E) fun j3=>
 xloop [] [] k fun _ m next4=>
 d2N x2 x3 x6 x10 a b m j3 next4 R E)
def d2O(_x2 _x3 _x6 x10 x50 x51 x52:Value)(w)(next5:NT)(j2:NT)(_R:RT)(E):=
 opK pG E (bN .lss 3 52 51 x52 x51) w fun l f=>
 xcond l
 (oP E (iA 22 x50 x52) f fun m n=>
 oP E (lA 58 m) n fun o p=>
 oP E (xV (Instr.alloc 58 true (.tuple #[]))) p fun g q=>
 oP E (sA 58 g o) q fun _ r=>
 dX r fun a=>
 qP pG (xNil x10) fun s=>
 qP pG (fA 78 s 4) fun b=>
 qP pG (fA 58 g 1) fun i=>
 qL pG a (blk b) (lA 30 b) fun t=>
 qL pG a (blk i) (lA 3 i) fun j=>
 oP E (xV (Instr.makeSlice 26 j j)) a fun u c=>
 keepX [(blk b)] a c (opK pG E (xV (Instr.buildSlice 30 1 #[(0,u)])) c fun v d=>
 keepX [(blk b)] c d (opK pG E (xBuiltin .append #[30,30] 30 [false,false] [t,v]) d fun y e=>
 keepX [] d e (qP pG (xNil x10) fun z=>
 qP pG (fA 78 z 4) fun aa=>
 oP E (sA 30 aa y) e fun _ k=>
 keepX [] e k (opK pG E (bC .add 3 52 x52 (vI 1)) k fun ab ac=>
 next5 [ab] ac)))))
 (j2 [] f)
def c6m(x2 x3 x6 x10 w)(R:RT)(E):=
 ∀_τ:Fr,(xcut (fun _ b=>c6l x2 x3 x6 x10 b R E) fun j2=>
 oP E (fA 39 x3 2) w fun c d=>
 oP E (lA 22 c) d fun a e=>
 oP E (xBuiltin .len #[22] 3 [false] [a]) e fun f g=>
 xloop [52] [(vI 0)] g fun i j next5=>
 d2O x2 x3 x6 x10 a f (i 52) j next5 j2 R E)
def F8(x0 x1 x2 w)(R:RT)(E):=
 opK pG E (xV (Instr.box 39 x0)) w fun a y=>
 oP E (xV (Instr.alloc 32 true (.tuple #[]))) y fun c z=>
 oP E (lA 39 a) z fun aa ab=>
 oP E (xCall (fC 16) [aa]) ab fun n ac=>
 oP E (bC .neq 33 20 n (vI 0)) ac fun ad o=>
 xcond ad
 (oP E (xV (Instr.build 32 #[])) o fun ae af=>
 oP E (sA 32 c ae) af fun _ p=>
 xcell pG 32 c p fun ag=>
 R (Value.tuple #[ag,(vI 0),n]) p)
 (oP E (bC .lss 3 24 x2 (vI 0)) o fun i ah=>
 oP E (gNo i (bC .gtr 3 27 (gval (asB i) false x2) (vI 65536))) ah fun ai aj=>
 oP E (xPick i (vB true) ai) aj fun d ak=>
 oP E (gNo d (xBuiltin .len #[26] 3 [false] [(gval (asB d) false x1)])) ak fun al am=>
 oP E (gNo d (bC .gtr 3 32 al (vI 65536))) am fun an ao=>
 oP E (xPick d (vB true) an) ao fun ap q=>
 xcond ap
 (oP E (xV (Instr.build 32 #[])) q fun aq ar=>
 oP E (sA 32 c aq) ar fun _ r=>
 xcell pG 32 c r fun au=>
 R (Value.tuple #[au,(vI 0),(vI 80)]) r)
 (xcut (fun av aw=>c6m x2 a c (nth av 0) aw R E) fun j1=>
 dX q fun b=>
 qP pG (fA 39 a 0) fun e=>
 qP pG (fA 39 a 1) fun f=>
 qL pG b (blk a) (lA 39 a) fun s=>
 qL pG b (blk a) (lA 39 a) fun t=>
 qL pG b (blk e) (lA 36 e) fun ax=>
 qP pG (xBuiltin .len #[36] 3 [false] [ax]) fun ay=>
 qL pG b (blk f) (lA 3 f) fun az=>
 qP pG (bN .add 3 41 43 ay az) fun g=>
 (oP E (xCall (fC 17) [t]) b fun ba j=>
 keepX [(blk f),(blk e),(blk a)] b j (opK pG E (xV (Instr.makeSlice 26 g g)) j fun bb k=>
 keepX [(blk a),(blk a)] j k (qP pG (xV (Instr.build 78 #[(0,s),(1,ba),(3,bb),(5,x1)])) fun bc=>
 oP E (xV (Instr.box 78 bc)) k fun bd u=>
 keepX [] k u (j1 [bd] u))))∧
 (oP E (xV (Instr.makeSlice 26 g g)) b fun be l=>
 keepX [(blk a),(blk a)] b l (opK pG E (xCall (fC 17) [t]) l fun bf m=>
 keepX [(blk f),(blk e),(blk a)] l m (qP pG (xV (Instr.build 78 #[(0,s),(1,bf),(3,be),(5,x1)])) fun bg=>
 oP E (xV (Instr.box 78 bg)) m fun bh v=>
 keepX [] m v (j1 [bh] v))))))
def h8:Hint:=(sQ (hS (sQ (sQ (hC (sQ hN) hN))) (hS (sQ (hC (sQ hN) hN)) (hU [10] (.reg [(0,68719476736,8),(0,137438953472,8),(2,274877906944,137438953472),(0,549755813888,8),(8,1099511627776,549755813888),(16,2199023255552,1099511627776),(0,4398046511104,8),(64,8796093022208,4398046511104),(160,17592186044416,10995116277760),(256,35184372088832,17592186044416),(0,70368744177664,2),(1541,140737488355328,105896713650176),(2048,281474976710656,140737488355328),(8191,1024,281474976710656)] [146,145,145,147,131,147,147,19,147,3,147,147,0,147] (.early 3 (.early 6 (.early 10 (.load 0 (.load 1 (.load 4 (.early 5 (.load 7 (.early 8 (.alt 2 (.step 9 (.early 11 (.step 12 (.early 13 .done)))) (.step 9 (.step 2 (.early 11 (.step 12 (.early 13 .done)))))))))))))))) (hU [] (sQ (hB (hL [52] (sQ (hS (hC hN hN) (hS (hB (sQ (.reg [(0,72057594037927936,1024),(0,144115188075855872,1024),(2,288230376151711744,144115188075855872),(4,576460752303423488,288230376151711744),(8,1152921504606846976,576460752303423488),(0,2305843009213693952,4096),(32,4611686018427387904,2305843009213693952),(64,9223372036854775808,4611686018427387904),(128,18446744073709551616,9223372036854775808),(272,36893488147419103232,19599665578316398592),(1023,73786976294838206464,72057594037927936),(2047,147573952589676412928,73786976294838206464),(3071,0,184467440737095516160)] [80,80,80,80,64,80,16,16,16,0,80,80,0] (.early 0 (.early 1 (.early 2 (.early 3 (.early 5 (.load 4 (.load 6 (.step 7 (.step 8 (.step 9 (.early 10 (.early 11 (.step 12 .done)))))))))))))))) hN)))))) (sQ (sQ (hU [] (hB (hL [] (hS (sQ (hC hN hN)) (hB (sQ (hS (sQ (hC (sQ hN) hN)) (hS (sQ (hC hN hN)) (sQ (sQ (hS (hS (.reg [(0,5192296858534827628530496329220096,131072),(1,10384593717069655257060992658440192,5192296858534827628530496329220096),(2,20769187434139310514121985316880384,10384593717069655257060992658456576),(4,41538374868278621028243970633760768,20769187434139310514121985316880384),(0,83076749736557242056487941267521536,1024),(0,166153499473114484112975882535043072,131072),(56,332306998946228968225951765070086144,290768624077950347197707794436325376),(127,664613997892457936451903530140172288,8192),(255,0,996920996838686904677855295210258432)] [42,40,42,34,42,10,0,42,0] (.early 0 (.early 4 (.load 1 (.early 2 (.load 3 (.load 5 (.step 6 (.early 7 (.step 8 .done)))))))))) (sQ (hC (sQ hN) hN))) hN)))))))))) (hS (.reg [(0,680564733841876926926749214863536422912,1024),(1,1361129467683753853853498429727072845824,680564733841876926926749214863536422912),(2,2722258935367507707706996859454145691648,1361129467683753853853498429727072845824),(4,5444517870735015415413993718908291383296,2722258935367507707706996859454145691648),(0,10889035741470030830827987437816582766592,1024),(16,21778071482940061661655974875633165533184,10889035741470030830827987437816582766592),(32,43556142965880123323311949751266331066368,21778071482940061661655974875633165533184),(64,87112285931760246646623899502532662132736,43556142965880123323311949751266331066368),(0,174224571863520493293247799005065324265472,8),(256,348449143727040986586495598010130648530944,174224571863520493293247799005065324265472),(512,696898287454081973172991196020261297061888,348449143727040986586495598010130648530944),(0,1393796574908163946345982392040522594123776,8),(2048,2787593149816327892691964784081045188247552,1393796574908163946345982392040522594123776),(4096,5575186299632655785383929568162090376495104,2787593149816327892691964784081045188247552),(9344,11150372599265311570767859136324180752990208,6359196873018498005203544663684884335689728),(0,22300745198530623141535718272648361505980416,1024),(32768,44601490397061246283071436545296723011960832,22300745198530623141535718272648361505980416),(65536,89202980794122492566142873090593446023921664,44601490397061246283071436545296723011960832),(131072,178405961588244985132285746181186892047843328,89202980794122492566142873090593446023921664),(15,356811923176489970264571492362373784095686656,8192),(524303,0,356817367694360705279986906356092692387069952),(1605631,713623846352979940529142984724747568191373312,8192),(3702783,0,724774218952245252099910843861071748944363520),(8388607,1427247692705959881058285969449495136382746624,8192),(16777215,0,1605653654294204866190571715630682028430589952)] [266888,266888,266888,266880,266888,266888,266888,266760,266888,266376,266888,266888,262792,266888,266888,266888,266888,266888,4744,266888,266880,266888,262144,266888,0] (.early 0 (.early 1 (.early 2 (.early 4 (.early 5 (.early 6 (.early 8 (.early 11 (.early 15 (.early 16 (.early 17 (.load 3 (.early 19 (.load 7 (.load 9 (.early 10 (.load 12 (.early 13 (.early 14 (.load 18 (.step 20 (.early 21 (.step 22 (.early 23 (.step 24 .done)))))))))))))))))))))))))) (hS (.reg [(0,2854495385411919762116571938898990272765493248,8192),(0,5708990770823839524233143877797980545530986496,1024),(2,11417981541647679048466287755595961091061972992,5708990770823839524233143877797980545530986496),(4,22835963083295358096932575511191922182123945984,11417981541647679048466287755595961091061972992),(8,45671926166590716193865151022383844364247891968,22835963083295358096932575511191922182123945984),(1,0,2854495385411919762116571938898990272765493312),(63,128,45671926166590716193865151022383844364247891968),(127,256,0)] [16,17,17,17,1,16,17,17] (.early 1 (.early 2 (.early 3 (.load 0 (.load 4 (.step 5 (.early 6 (.early 7 .done))))))))) hN))))))))))
theorem d2P{x0 x1 x2:Value}(h:F8 x0 x1 x2 w R E):Cv pG 8 #[x0,x1,x2] w R E:=okF (h:=h8) Tryz.func8 (by kernel_rfl) (by kernel_rfl) h
def c6n(w)(R:RT)(_E:Pan):=
 ∀_τ:Fr,(R (vB true) w)
def d2Q(x2 x3 x6 w)(next3:NT)(j2:NT)(R:RT)(E):=
 opK pG E (fA 32 x2 5) w fun i j=>
 oP E (lA 30 i) j fun k l=>
 oP E (xBuiltin .len #[30] 3 [false] [k]) l fun m n=>
 oP E (bN .lss 3 70 73 x6 m) n fun o c=>
 xcond o
 (dX c fun a=>
 qP pG (fA 32 x2 5) fun d=>
 qP pG (fA 32 x3 5) fun e=>
 qL pG a (blk d) (lA 30 d) fun p=>
 qP pG (iA 30 p x6) fun f=>
 qL pG a (blk f) (lA 26 f) fun q=>
 qL pG a (blk e) (lA 30 e) fun r=>
 qP pG (iA 30 r x6) fun g=>
 qL pG a (blk g) (lA 26 g) fun s=>
 oP E (xCall (fC 20) [q,s]) a fun t b=>
 keepX [] a b (qP pG (xV (Op.unary .not t)) fun u=>
 xcond u
 (R (vB false) b)
 (oP E (bC .add 3 75 x6 (vI 1)) b fun v y=>
 next3 [v] y)))
 (j2 [] c)
def c6o(x2 x3 w)(R:RT)(E):=
 ∀_τ:Fr,(xcut (fun _ a=>c6n a R E) fun j2=>
 xloop [6] [(vI 0)] w fun b c next3=>
 d2Q x2 x3 (b 6) c next3 j2 R E)
def d2R(x2 x3 x5 w)(next4:NT)(j1:NT)(R:RT)(E):=
 opK pG E (fA 32 x2 3) w fun g i=>
 oP E (lA 29 g) i fun j k=>
 oP E (xBuiltin .len #[29] 3 [false] [j]) k fun l m=>
 oP E (bN .lss 3 52 55 x5 l) m fun n b=>
 xcond n
 (dX b fun a=>
 qP pG (fA 32 x2 3) fun c=>
 qP pG (fA 32 x3 3) fun d=>
 qL pG a (blk c) (lA 29 c) fun o=>
 qP pG (iA 29 o x5) fun e=>
 qL pG a (blk e) (lA 87 e) fun p=>
 qL pG a (blk d) (lA 29 d) fun q=>
 qP pG (iA 29 q x5) fun f=>
 qL pG a (blk f) (lA 87 f) fun r=>
 qP pG (bN .neq 87 63 68 p r) fun s=>
 xcond s
 (R (vB false) a)
 (oP E (bC .add 3 57 x5 (vI 1)) a fun t u=>
 next4 [t] u))
 (j1 [] b)
def F9(x0 x1 w)(R:RT)(E):=
 opK pG E (xV (Instr.box 32 x0)) w fun a j=>
 oP E (xV (Instr.box 32 x1)) j fun b k=>
 oP E (fA 32 a 0) k fun l m=>
 oP E (lA 3 l) m fun n o=>
 oP E (fA 32 b 0) o fun p q=>
 oP E (lA 3 p) q fun r s=>
 oP E (bN .neq 3 8 10 n r) s fun f t=>
 oP E (gNo f (fA 32 a 1)) t fun u v=>
 oP E (gNo f (lA 3 u)) v fun y z=>
 oP E (gNo f (fA 32 b 1)) z fun aa ab=>
 oP E (gNo f (lA 3 aa)) ab fun ac ad=>
 oP E (gNo f (bN .neq 3 14 16 y ac)) ad fun ae af=>
 oP E (xPick f (vB true) ae) af fun g ag=>
 oP E (gNo g (fA 32 a 2)) ag fun ah ai=>
 oP E (gNo g (lA 3 ah)) ai fun aj ak=>
 oP E (gNo g (fA 32 b 2)) ak fun al am=>
 oP E (gNo g (lA 3 al)) am fun an ao=>
 oP E (gNo g (bN .neq 3 21 23 aj an)) ao fun ap aq=>
 oP E (xPick g (vB true) ap) aq fun c ar=>
 oP E (gNo c (fA 32 a 3)) ar fun au av=>
 oP E (gNo c (lA 29 au)) av fun aw ax=>
 oP E (gNo c (xBuiltin .len #[29] 3 [false] [aw])) ax fun ay az=>
 oP E (gNo c (fA 32 b 3)) az fun ba bb=>
 oP E (gNo c (lA 29 ba)) bb fun bc bd=>
 oP E (gNo c (xBuiltin .len #[29] 3 [false] [bc])) bd fun be bf=>
 oP E (gNo c (bN .neq 3 29 32 ay be)) bf fun bg bh=>
 oP E (xPick c (vB true) bg) bh fun e bi=>
 oP E (gNo e (fA 32 a 4)) bi fun bj bk=>
 oP E (gNo e (lA 26 bj)) bk fun bl bm=>
 oP E (gNo e (fA 32 b 4)) bm fun bn bo=>
 oP E (gNo e (lA 26 bn)) bo fun bp bq=>
 oP E (gNo e (xCall (fC 20) [bl,bp])) bq fun br bs=>
 oP E (gNo e (xV (Op.unary .not br))) bs fun bt bu=>
 oP E (xPick e (vB true) bt) bu fun d bv=>
 oP E (gNo d (fA 32 a 5)) bv fun bw bz=>
 oP E (gNo d (lA 30 bw)) bz fun ca cb=>
 oP E (gNo d (xBuiltin .len #[30] 3 [false] [ca])) cb fun cc cd=>
 oP E (gNo d (fA 32 b 5)) cd fun ce cf=>
 oP E (gNo d (lA 30 ce)) cf fun cg ch=>
 oP E (gNo d (xBuiltin .len #[30] 3 [false] [cg])) ch fun ci cj=>
 oP E (gNo d (bN .neq 3 46 49 cc ci)) cj fun ck cl=>
 oP E (xPick d (vB true) ck) cl fun cm i=>
 xcond cm
 (R (vB false) i)
 (xcut (fun _ cn=>c6o a b cn R E) fun j1=>
 xloop [5] [(vI 0)] i fun co cp next4=>
 d2R a b (co 5) cp next4 j1 R E)
def h9:Hint:=(sQ (hS (sQ (hC (sQ hN) hN)) (hU [] (sQ (hB (hL [5] (hS (sQ (hC hN hN)) (hS (hB (hS (.reg [(0,576460752303423488,4),(1,1152921504606846976,576460752303423488),(0,2305843009213693952,32),(6,4611686018427387904,3458764513820540928),(8,9223372036854775808,4611686018427387904),(0,18446744073709551616,8),(32,36893488147419103232,18446744073709551616),(0,73786976294838206464,32),(192,147573952589676412928,110680464442257309696),(256,295147905179352825856,147573952589676412928),(528,590295810358705651712,304371277216207601664)] [594,592,594,594,578,594,530,594,594,82,594] (.early 0 (.early 2 (.early 5 (.early 7 (.load 1 (.early 3 (.load 4 (.load 6 (.early 8 (.load 9 (.early 10 .done)))))))))))) (hC (sQ hN) hN))) hN))))) (hU [] (sQ (hB (hL [6] (hS (sQ (hC hN hN)) (hS (hB (hS (.reg [(0,151115727451828646838272,4),(1,302231454903657293676544,151115727451828646838272),(0,604462909807314587353088,64),(6,1208925819614629174706176,906694364710971881029632),(8,2417851639229258349412352,1208925819614629174706176),(0,4835703278458516698824704,8),(32,9671406556917033397649408,4835703278458516698824704),(0,19342813113834066795298816,64),(192,38685626227668133590597632,29014219670751100192948224),(256,77371252455336267181195264,38685626227668133590597632),(528,154742504910672534362390528,79789104094565525530607616),(1024,309485009821345068724781056,154742504910672534362390528)] [594,592,594,594,578,594,530,594,594,82,0,594] (.early 0 (.early 2 (.early 5 (.early 7 (.load 1 (.early 3 (.load 4 (.load 6 (.early 8 (.load 9 (.step 10 (.early 11 .done))))))))))))) (hC (sQ hN) hN))) hN))))) (sQ hN)))))
theorem d2S{x0 x1:Value}(h:F9 x0 x1 w R E):Cv pG 9 #[x0,x1] w R E:=okF (h:=h9) Tryz.func9 (by kernel_rfl) (by kernel_rfl) h
def c2T(x7 x9 w)(R:RT)(_E:Pan):=
 ∀_τ:Fr,(R (Value.tuple #[x9,x7]) w)
def c9B(x5 x7 x9 x37 x38 x39 w)(next2:NT)(j1:NT)(_R:RT)(E):=
 opK pG E (bN .lss 3 39 38 x39 x38) w fun f b=>
 xcond f
 (oP E (iA 92 x37 x39) b fun g i=>
 oP E (lA 97 g) i fun j k=>
 oP E (xV (Instr.alloc 97 true (.tuple #[]))) k fun a l=>
 oP E (sA 97 a j) l fun _ m=>
 oP E (fA 97 a 0) m fun n o=>
 oP E (lA 9 n) o fun p q=>
 oP E (xV (Instr.lookup 68 x5 p false)) q fun c r=>
 oP E (fA 97 a 1) r fun s t=>
 oP E (lA 3 s) t fun u v=>
 oP E (bN .eql 3 46 51 c u) v fun y d=>
 xcond y
 (oP E (bC .add 3 39 x39 (vI 1)) d fun z aa=>
 next2 [x7,x9,z] aa)
 (oP E (bC .eql 3 46 c (vI 0)) d fun ab e=>
 xcond ab
 (oP E (fA 97 a 0) e fun ac ad=>
 oP E (lA 9 ac) ad fun ae af=>
 j1 [(vI 63),ae] af)
 (oP E (fA 97 a 0) e fun ag ah=>
 oP E (lA 9 ag) ah fun ai aj=>
 j1 [(vI 64),ai] aj)))
 (j1 [x7,x9] b)
def F10(x0 w)(R:RT)(E):=
 opK pG E (xV (Instr.box 25 x0)) w fun a l=>
 oP E (lA 25 a) l fun m n=>
 oP E (xCall (fC 21) [m]) n fun e o=>
 oP E (bC .neq 33 14 e (vI 0)) o fun p f=>
 xcond p
 (R (Value.tuple #[(eS),e]) f)
 (oP E (fA 25 a 0) f fun q r=>
 oP E (lA 22 q) r fun s t=>
 oP E (xCall (fC 22) [s]) t fun b u=>
 oP E (xT b 0) u fun v y=>
 oP E (xT b 1) y fun z aa=>
 oP E (xT b 2) aa fun c ab=>
 oP E (bC .neq 33 24 c (vI 0)) ab fun ac g=>
 xcond ac
 (R (Value.tuple #[z,c]) g)
 (oP E (xV (Instr.build 94 #[])) g fun ad ae=>
 oP E (xV (Instr.box 94 ad)) ae fun i af=>
 oP E (fA 25 a 1) af fun ag ah=>
 oP E (lA 23 ag) ah fun ai aj=>
 oP E (xCall (fC 23) [i,ai]) aj fun _t33_31 ak=>
 xcut (fun j al=>c2T (nth j 0) (nth j.tail 0) al R E) fun j1=>
 oP E (xNil i) ak fun am an=>
 oP E (fA 94 am 0) an fun ao ap=>
 oP E (lA 92 ao) ap fun k aq=>
 oP E (xBuiltin .len #[92] 3 [false] [k]) aq fun ar au=>
 xloop [7,9,39] [c,(eS),(vI 0)] au fun d av next2=>
 c9B v (d 7) (d 9) k ar (d 39) av next2 j1 R E))
def h10:Hint:=(sQ (.scope (hS (sQ (sQ (hC (sQ hN) hN))) (sQ (hS (sQ (hC (sQ hN) hN)) (sQ (sQ (sQ (sQ (hU [7,9] (sQ (hB (hL [7,9,39] (sQ (hS (hC hN hN) (hS (hB (sQ (sQ (hB (sQ (hC hN (sQ (hC (sQ hN) (sQ hN))))))))) hN)))))) (sQ hN)))))))))))
theorem c9C{x0:Value}(h:F10 x0 w R E):Cv pG 10 #[x0] w R E:=okF (h:=h10) Tryz.func10 (by kernel_rfl) (by kernel_rfl) h
def c2U(x5 x6 w)(R:RT)(_E:Pan):=
 ∀_τ:Fr,(R (Value.tuple #[x6,x5]) w)
def c9D(_x5 x6 x14 x15 x16:Value)(w)(next2:NT)(j1:NT)(_R:RT)(E):=
 opK pG E (bN .lss 3 16 15 x16 x15) w fun c a=>
 xcond c
 (oP E (iA 22 x14 x16) a fun d e=>
 oP E (lA 58 d) e fun f g=>
 oP E (xV (Instr.alloc 58 true (.tuple #[]))) g fun b i=>
 oP E (sA 58 b f) i fun _ j=>
 oP E (fA 58 b 0) j fun k l=>
 oP E (lA 9 k) l fun m n=>
 oP E (xV (Instr.buildSlice 36 1 #[(0,m)])) n fun o p=>
 oP E (xBuiltin .append #[36,36] 36 [false,false] [x6,o]) p fun q r=>
 oP E (bC .add 3 16 x16 (vI 1)) r fun s t=>
 next2 [q,s] t)
 (j1 [x6] a)
def F12(x0 w)(R:RT)(E):=
 opK pG E (xV (Instr.box 25 x0)) w fun e f=>
 oP E (lA 25 e) f fun g i=>
 oP E (xCall (fC 26) [g,(vI 1)]) i fun a j=>
 oP E (xT a 0) j fun b k=>
 oP E (xT a 1) k fun c l=>
 xcut (fun m n=>c2U c (nth m 0) n R E) fun j1=>
 oP E (xBuiltin .len #[22] 3 [false] [b]) l fun o p=>
 xloop [6,16] [(nS),(vI 0)] p fun d q next2=>
 c9D c (d 6) b o (d 16) q next2 j1 R E
def h12:Hint:=(sQ (sQ (sQ (hU [6] (sQ (hB (hL [6,16] (sQ (hS (hC hN hN) (hS (hB (sQ hN)) hN)))))) (sQ hN)))))
theorem c9E{x0:Value}(h:F12 x0 w R E):Cv pG 12 #[x0] w R E:=okF (h:=h12) Tryz.func12 (by kernel_rfl) (by kernel_rfl) h
def F13(x0 w)(R:RT)(E):=
 opK pG E (xV (Instr.box 25 x0)) w fun b c=>
 oP E (lA 25 b) c fun d e=>
 oP E (xCall (fC 26) [d,(vI 2)]) e fun a f=>
 oP E (xT a 0) f fun g i=>
 oP E (xT a 1) i fun j k=>
 R (Value.tuple #[g,j]) k
def h13:Hint:=(sQ (sQ hN))
theorem c9F{x0:Value}(h:F13 x0 w R E):Cv pG 13 #[x0] w R E:=okF (h:=h13) Tryz.func13 (by kernel_rfl) (by kernel_rfl) h
def F14(x0 w)(R:RT)(E):=
 opK pG E (xNil x0) w fun a b=>
 oP E (fA 70 a 0) b fun c d=>
 oP E (fA 39 c 3) d fun e f=>
 oP E (lA 3 e) f fun g i=>
 oP E (bC .add 3 7 g (vI 1)) i fun j k=>
 oP E (xNil x0) k fun l m=>
 oP E (fA 70 l 0) m fun n o=>
 oP E (fA 39 n 3) o fun p q=>
 oP E (sA 3 p j) q fun _ r=>
 oP E (xNil x0) r fun s t=>
 oP E (fA 70 s 0) t fun u v=>
 oP E (fA 39 u 3) v fun y z=>
 oP E (lA 3 y) z fun aa ab=>
 oP E (bC .sub 3 16 aa (vI 1)) ab fun ac ad=>
 R ac ad
def h14:Hint:=(sQ (sQ (sQ hN)))
theorem c9G{x0:Value}(h:F14 x0 w R E):Cv pG 14 #[x0] w R E:=okF (h:=h14) Tryz.func14 (by kernel_rfl) (by kernel_rfl) h
def c9H(x0 x8 x31 x32 x33 w)(next2:NT)(R:RT)(E):=
 opK pG E (bN .lss 3 33 32 x33 x32) w fun g c=>
 xcond g
 (oP E (iA 23 x31 x33) c fun i j=>
 oP E (lA 104 i) j fun k l=>
 oP E (xV (Instr.alloc 104 true (.tuple #[]))) l fun b m=>
 oP E (sA 104 b k) m fun _ n=>
 dX n fun a=>
 qP pG (iA 100 x8 x33) fun d=>
 qP pG (bC .add 3 45 x33 (vI 1)) fun o=>
 qP pG (iA 100 x8 o) fun e=>
 qL pG a (blk b) (lA 104 b) fun p=>
 qL pG a (blk d) (lA 3 d) fun q=>
 qL pG a (blk e) (lA 3 e) fun r=>
 oP E (xCall (fC 27) [x0,p,q,r]) a fun _t49_30 f=>
 keepX [] a f (opK pG E (bC .add 3 33 x33 (vI 1)) f fun s t=>
 next2 [s] t))
 (R (Value.tuple #[]) c)
def c2V(x0 x1 x3 x8 w)(R:RT)(E):=
 ∀_τ:Fr,(oP E (xV (Instr.buildSlice 100 1 #[(0,x3)])) w fun a b=>
 oP E (xBuiltin .append #[100,100] 100 [false,false] [x8,a]) b fun c d=>
 oP E (xBuiltin .len #[23] 3 [false] [x1]) d fun e f=>
 xloop [33] [(vI 0)] f fun g i next2=>
 c9H x0 c x1 e (g 33) i next2 R E)
def c9I(x0 _x1 _x3 x8 x18 x19:Value)(w)(next3:NT)(j1:NT)(_R:RT)(E):=
 opK pG E (bN .lss 3 19 18 x19 x18) w fun b a=>
 xcond b
 (oP E (xCall (fC 14) [x0]) a fun c d=>
 oP E (xV (Instr.buildSlice 100 1 #[(0,c)])) d fun e f=>
 oP E (xBuiltin .append #[100,100] 100 [false,false] [x8,e]) f fun g i=>
 oP E (bC .add 3 19 x19 (vI 1)) i fun j k=>
 next3 [g,j] k)
 (j1 [x8] a)
def F15(x0 x1 x2 x3 w)(R:RT)(E):=
 opK pG E (xBuiltin .len #[23] 3 [false] [x1]) w fun c d=>
 oP E (bC .eql 3 12 c (vI 0)) d fun e a=>
 xcond e
 (R (Value.tuple #[]) a)
 (oP E (xV (Instr.buildSlice 100 1 #[(0,x2)])) a fun f g=>
 xcut (fun i j=>c2V x0 x1 x3 (nth i 0) j R E) fun j1=>
 oP E (xBuiltin .len #[23] 3 [false] [x1]) g fun k l=>
 oP E (bC .sub 3 17 k (vI 1)) l fun m n=>
 xloop [8,19] [f,(vI 0)] n fun b o next3=>
 c9I x0 x1 x3 (b 8) m (b 19) o next3 j1 R E)
def h15:Hint:=(hS (sQ (hC hN hN)) (sQ (hU [8] (sQ (hB (hL [8,19] (sQ (hS (hC hN hN) (hS (hB hN) hN)))))) (sQ (sQ (hB (hL [33] (sQ (hS (hC hN hN) (hS (hB (sQ (.reg [(0,274877906944,1),(0,549755813888,1024),(0,1099511627776,256),(0,2199023255552,512),(12,4398046511104,3298534883328),(16,8796093022208,4398046511104),(0,17592186044416,256),(0,35184372088832,512),(128,70368744177664,35184372088832),(320,140737488355328,87960930222080),(512,281474976710656,140737488355328),(1059,562949953421312,291095703453696)] [1058,1056,1058,1058,1058,1026,1058,1058,1058,1058,34,0] (.early 0 (.early 2 (.early 3 (.early 4 (.early 6 (.early 7 (.early 8 (.early 9 (.load 1 (.load 5 (.load 10 (.step 11 .done))))))))))))))) hN))))))))))
theorem c9J{x0 x1 x2 x3:Value}(h:F15 x0 x1 x2 x3 w R E):Cv pG 15 #[x0,x1,x2,x3] w R E:=okF (h:=h15) Tryz.func15 (by kernel_rfl) (by kernel_rfl) h
def c2W(w)(R:RT)(_E:Pan):=
 ∀_τ:Fr,(R (vI 0) w)
def c9K(x6 x99 x100 w)(next4:NT)(j3:NT)(R:RT)(E):=
 opK pG E (bN .lss 3 100 99 x100 x99) w fun c a=>
 xcond c
 (oP E (iA 109 x6 x100) a fun d e=>
 oP E (lA 37 d) e fun f g=>
 oP E (xCall (fC 30) [f]) g fun i j=>
 oP E (xV (Op.unary .not i)) j fun k b=>
 xcond k
 (R (vI 92) b)
 (oP E (bC .add 3 100 x100 (vI 1)) b fun l m=>
 next4 [l] m))
 (j3 [] a)
def c2X(x1 x6 w)(R:RT)(E):=
 ∀_τ:Fr,(xcut (fun _ a=>c2W a R E) fun j3=>
 oP E (fA 39 x1 3) w fun b c=>
 oP E (lA 3 b) c fun d e=>
 xloop [100] [(vI 0)] e fun f g next4=>
 c9K x6 d (f 100) g next4 j3 R E)
def c9L(_x1 x5 x6 x75 x76 x77:Value)(w)(next5:NT)(j2:NT)(R:RT)(E):=
 opK pG E (bN .lss 3 77 76 x77 x76) w fun l i=>
 xcond l
 (oP E (iA 37 x75 x77) i fun m n=>
 oP E (lA 49 m) n fun o p=>
 oP E (xV (Instr.alloc 49 true (.tuple #[]))) p fun a q=>
 oP E (sA 49 a o) q fun _ r=>
 oP E (lA 107 x5) r fun s t=>
 oP E (lA 49 a) t fun u v=>
 oP E (xCall (fC 29) [s,u]) v fun y z=>
 oP E (xV (Op.unary .not y)) z fun aa j=>
 xcond aa
 (R (vI 92) j)
 (dX j fun b=>
 qP pG (fA 49 a 0) fun c=>
 qP pG (fA 49 a 0) fun d=>
 qL pG b (blk c) (lA 3 c) fun ab=>
 qL pG b (blk d) (lA 3 d) fun ac=>
 qP pG (iA 109 x6 ac) fun e=>
 qL pG b (blk e) (lA 37 e) fun ad=>
 qL pG b (blk a) (lA 49 a) fun ae=>
 oP E (xV (Instr.buildSlice 37 1 #[(0,ae)])) b fun af f=>
 keepX [(blk e),(blk d),(blk c)] b f (opK pG E (xBuiltin .append #[37,37] 37 [false,false] [ad,af]) f fun ag g=>
 keepX [(blk c)] f g (qP pG (iA 109 x6 ab) fun ah=>
 oP E (sA 37 ah ag) g fun _ k=>
 keepX [] g k (opK pG E (bC .add 3 77 x77 (vI 1)) k fun ai aj=>
 next5 [ai] aj)))))
 (j2 [] i)
def c2Y(x1 w)(R:RT)(E):=
 ∀_τ:Fr,(oP E (lA 39 x1) w fun f g=>
 oP E (xV (Instr.build 107 #[(0,f)])) g fun i j=>
 oP E (xV (Instr.alloc 107 true (.tuple #[]))) j fun a k=>
 oP E (sA 107 a i) k fun _ l=>
 oP E (lA 107 a) l fun m n=>
 oP E (fA 39 x1 4) n fun o p=>
 oP E (lA 3 o) p fun q r=>
 oP E (xCall (fC 28) [m,q]) r fun s t=>
 oP E (xV (Op.unary .not s)) t fun u b=>
 xcond u
 (R (vI 92) b)
 (oP E (fA 39 x1 3) b fun v y=>
 oP E (lA 3 v) y fun c z=>
 oP E (xV (Instr.makeSlice 109 c c)) z fun d aa=>
 xcut (fun _ ab=>c2X x1 d ab R E) fun j2=>
 oP E (fA 39 x1 5) aa fun ac ad=>
 oP E (lA 37 ac) ad fun e ae=>
 oP E (xBuiltin .len #[37] 3 [false] [e]) ae fun af ag=>
 xloop [77] [(vI 0)] ag fun ah ai next5=>
 c9L x1 a d e af (ah 77) ai next5 j2 R E))
def c9M(_x1 x49 x50 x51:Value)(w)(next6:NT)(j1:NT)(R:RT)(E):=
 opK pG E (bN .lss 3 51 50 x51 x50) w fun e c=>
 xcond e
 (oP E (iA 22 x49 x51) c fun f g=>
 oP E (lA 58 f) g fun i j=>
 oP E (xV (Instr.alloc 58 true (.tuple #[]))) j fun b k=>
 oP E (sA 58 b i) k fun _ l=>
 oP E (fA 58 b 1) l fun m n=>
 oP E (lA 3 m) n fun o p=>
 oP E (bC .lss 3 56 o (vI 1)) p fun a q=>
 oP E (gNo a (fA 58 b 1)) q fun r s=>
 oP E (gNo a (lA 3 r)) s fun t u=>
 oP E (gNo a (bC .gtr 3 60 t (vI 1024))) u fun v y=>
 oP E (xPick a (vB true) v) y fun z d=>
 xcond z
 (R (vI 92) d)
 (oP E (bC .add 3 51 x51 (vI 1)) d fun aa ab=>
 next6 [aa] ab))
 (j1 [] c)
def F16(x0 w)(R:RT)(E):=
 opK pG E (xV (Instr.box 39 x0)) w fun a k=>
 oP E (fA 39 a 1) k fun l m=>
 oP E (lA 3 l) m fun n o=>
 oP E (bC .lss 3 12 n (vI 0)) o fun d p=>
 oP E (gNo d (fA 39 a 1)) p fun q r=>
 oP E (gNo d (lA 3 q)) r fun s t=>
 oP E (gNo d (bC .gtr 3 16 s (vI 64))) t fun u v=>
 oP E (xPick d (vB true) u) v fun b y=>
 oP E (gNo b (fA 39 a 0)) y fun z aa=>
 oP E (gNo b (lA 36 z)) aa fun ab ac=>
 oP E (gNo b (xBuiltin .len #[36] 3 [false] [ab])) ac fun ad ae=>
 oP E (gNo b (fA 39 a 1)) ae fun af ag=>
 oP E (gNo b (lA 3 af)) ag fun ah ai=>
 oP E (gNo b (bN .add 3 22 24 ad ah)) ai fun aj ak=>
 oP E (gNo b (bC .gtr 3 25 aj (vI 64))) ak fun al am=>
 oP E (xPick b (vB true) al) am fun an f=>
 xcond an
 (R (vI 90) f)
 (oP E (fA 39 a 3) f fun ao ap=>
 oP E (lA 3 ao) ap fun aq ar=>
 oP E (bC .lss 3 30 aq (vI 1)) ar fun e au=>
 oP E (gNo e (fA 39 a 3)) au fun av aw=>
 oP E (gNo e (lA 3 av)) aw fun ax ay=>
 oP E (gNo e (bC .gtr 3 34 ax (vI 4096))) ay fun az ba=>
 oP E (xPick e (vB true) az) ba fun c bb=>
 oP E (gNo c (fA 39 a 5)) bb fun bc bd=>
 oP E (gNo c (lA 37 bc)) bd fun be bf=>
 oP E (gNo c (xBuiltin .len #[37] 3 [false] [be])) bf fun bg bh=>
 oP E (gNo c (bC .gtr 3 40 bg (vI 8192))) bh fun bi bj=>
 oP E (xPick c (vB true) bi) bj fun bk g=>
 xcond bk
 (R (vI 91) g)
 (oP E (fA 39 a 2) g fun bl bm=>
 oP E (lA 22 bl) bm fun bn bo=>
 oP E (xBuiltin .len #[22] 3 [false] [bn]) bo fun bp bq=>
 oP E (bC .gtr 3 46 bp (vI 16)) bq fun br i=>
 xcond br
 (R (vI 92) i)
 (xcut (fun _ bs=>c2Y a bs R E) fun j1=>
 oP E (fA 39 a 2) i fun bt bu=>
 oP E (lA 22 bt) bu fun j bv=>
 oP E (xBuiltin .len #[22] 3 [false] [j]) bv fun bw bz=>
 xloop [51] [(vI 0)] bz fun ca cb next6=>
 c9M a j bw (ca 51) cb next6 j1 R E)))
def h16:Hint:=(sQ (hS (hB (sQ (hC (sQ hN) (sQ (hC (sQ hN) (sQ (hC (sQ hN) hN))))))) (hU [] (sQ (hB (hL [51] (sQ (hS (hC hN hN) (hS (hB (sQ (sQ (hC (sQ hN) hN)))) hN)))))) (sQ (hS (sQ (hC (sQ hN) hN)) (sQ (hU [] (sQ (hB (hL [77] (sQ (hS (hC hN hN) (hS (hB (sQ (hS (sQ (hC (sQ hN) hN)) (.reg [(0,38685626227668133590597632,64),(0,77371252455336267181195264,256),(2,154742504910672534362390528,77371252455336267181195264),(0,309485009821345068724781056,64),(0,618970019642690137449562112,256),(16,1237940039285380274899124224,618970019642690137449562112),(40,2475880078570760549798248448,1547425049106725343623905280),(64,4951760157141521099596496896,2475880078570760549798248448),(0,9903520314283042199192993792,256),(256,19807040628566084398385987584,9903520314283042199192993792),(640,39614081257132168796771975168,24758800785707605497982484480),(2047,79228162514264337593543950336,193428131138340667952988160),(4095,0,118842243771396506390315925504)] [420,420,416,420,420,388,420,292,164,164,4,420,0] (.early 0 (.early 1 (.early 3 (.early 4 (.load 2 (.load 5 (.early 6 (.load 7 (.load 8 (.step 9 (.step 10 (.early 11 (.step 12 .done))))))))))))))))) hN)))))) (hU [] (sQ (hB (hL [100] (sQ (hS (hC hN hN) (hS (hB (sQ (sQ (hC (sQ hN) hN)))) hN)))))) (sQ hN)))))))))
theorem c9N{x0:Value}(h:F16 x0 w R E):Cv pG 16 #[x0] w R E:=okF (h:=h16) Tryz.func16 (by kernel_rfl) (by kernel_rfl) h
def c2Z(x3 w)(R:RT)(_E:Pan):=
 ∀_τ:Fr,(R x3 w)
def c9O(x3 x10 x11 x12 w)(next2:NT)(j1:NT)(_R:RT)(E):=
 opK pG E (bN .lss 3 12 11 x12 x11) w fun k i=>
 xcond k
 (oP E (iA 37 x10 x12) i fun l m=>
 oP E (lA 49 l) m fun n o=>
 oP E (xV (Instr.alloc 49 true (.tuple #[]))) o fun c p=>
 oP E (sA 49 c n) p fun _ q=>
 dX q fun a=>
 qP pG (fA 49 c 0) fun b=>
 qP pG (fA 49 c 0) fun d=>
 qL pG a (blk b) (lA 3 b) fun r=>
 qL pG a (blk d) (lA 3 d) fun s=>
 qP pG (iA 75 x3 s) fun e=>
 qL pG a (blk e) (lA 100 e) fun t=>
 oP E (xV (Instr.buildSlice 100 1 #[(0,x12)])) a fun u f=>
 keepX [(blk e),(blk d),(blk b)] a f (opK pG E (xBuiltin .append #[100,100] 100 [false,false] [t,u]) f fun v g=>
 keepX [(blk b)] f g (qP pG (iA 75 x3 r) fun y=>
 oP E (sA 100 y v) g fun _ j=>
 keepX [] g j (opK pG E (bC .add 3 12 x12 (vI 1)) j fun z aa=>
 next2 [z] aa))))
 (j1 [] i)
def F17(x0 w)(R:RT)(E):=
 opK pG E (xV (Instr.box 39 x0)) w fun a e=>
 oP E (fA 39 a 3) e fun f g=>
 oP E (lA 3 f) g fun b i=>
 oP E (xV (Instr.makeSlice 75 b b)) i fun c j=>
 xcut (fun _ k=>c2Z c k R E) fun j1=>
 oP E (fA 39 a 5) j fun l m=>
 oP E (lA 37 l) m fun d n=>
 oP E (xBuiltin .len #[37] 3 [false] [d]) n fun o p=>
 xloop [12] [(vI 0)] p fun q r next2=>
 c9O c d o (q 12) r next2 j1 R E
def h17:Hint:=(sQ (sQ (hU [] (sQ (hB (hL [12] (sQ (hS (hC hN hN) (hS (hB (sQ (.reg [(0,131072,8),(0,262144,32),(2,524288,262144),(0,1048576,8),(0,2097152,32),(16,4194304,2097152),(40,8388608,5242880),(64,16777216,8388608),(0,33554432,16),(256,67108864,33554432),(640,134217728,83886080),(2047,268435456,655360),(4095,0,402653184)] [164,164,160,164,164,132,164,36,164,164,4,164,0] (.early 0 (.early 1 (.early 3 (.early 4 (.early 8 (.load 2 (.load 5 (.early 6 (.load 7 (.step 9 (.step 10 (.early 11 (.step 12 .done)))))))))))))))) hN)))))) (sQ hN))))
theorem c9P{x0:Value}(h:F17 x0 w R E):Cv pG 17 #[x0] w R E:=okF (h:=h17) Tryz.func17 (by kernel_rfl) (by kernel_rfl) h
def F18(w)(R:RT)(E):=
 opK pG E (xV (Instr.alloc 81 true (.tuple #[]))) w fun a c=>
 oP E (xV (Instr.build 81 #[(1,(fC 31)),(2,(fC 32)),(3,(fC 33)),(4,(fC 34)),(5,(fC 35)),(6,(fC 36)),(7,(fC 37)),(8,(fC 38)),(9,(fC 39)),(10,(fC 40)),(11,(fC 41)),(12,(fC 31)),(13,(fC 42)),(14,(fC 43))])) c fun d e=>
 oP E (sA 81 a d) e fun _ b=>
 xcell pG 81 a b fun f=>
 R f b
def h18:Hint:=(sQ (sQ hN))
theorem c9Q(h:F18  w R E):Cv pG 18 #[] w R E:=okF (h:=h18) Tryz.func18 (by kernel_rfl) (by kernel_rfl) h
def F19(x0 w)(R:RT)(E):=
 dX w fun e=>
 qP pG (xNil x0) fun ac=>
 qP pG (fA 78 ac 1) fun s=>
 qP pG (xNil x0) fun ad=>
 qP pG (fA 78 ad 2) fun t=>
 qL pG e (blk s) (lA 75 s) fun ae=>
 qL pG e (blk t) (lA 3 t) fun af=>
 qP pG (iA 75 ae af) fun u=>
 qL pG e (blk u) (lA 100 u) fun f=>
 dX e fun g=>
 qP pG (xNil x0) fun ag=>
 qP pG (fA 78 ag 2) fun v=>
 qP pG (xNil x0) fun ah=>
 qP pG (fA 78 ah 0) fun ai=>
 qP pG (fA 39 ai 4) fun y=>
 qL pG g (blk v) (lA 3 v) fun aj=>
 qL pG g (blk y) (lA 3 y) fun ak=>
 qP pG (bN .eql 3 19 24 aj ak) fun i=>
 qP pG (gNo i (xBuiltin .len #[100] 3 [false] [(gval (asB i) false f)])) fun al=>
 qP pG (gNo i (bC .eql 3 28 al (vI 0))) fun am=>
 qP pG (xPick i (vB true) am) fun an=>
 xcond an
 (R (Value.tuple #[(vI (-1)),(vB false)]) g)
 (dX g fun c=>
 qP pG (xNil x0) fun ao=>
 qP pG (fA 78 ao 0) fun ap=>
 qP pG (fA 39 ap 5) fun k=>
 qP pG (iA 100 f (vI 0)) fun l=>
 qL pG c (blk k) (lA 37 k) fun aq=>
 qL pG c (blk l) (lA 3 l) fun ar=>
 qP pG (iA 37 aq ar) fun m=>
 qL pG c (blk m) (lA 49 m) fun au=>
 oP E (xV (Instr.alloc 49 true (.tuple #[]))) c fun d n=>
 keepX [(blk m),(blk l),(blk k)] c n (opK pG E (sA 49 d au) n fun _ z=>
 keepX [] n z (dX z fun b=>
 qP pG (fA 49 d 2) fun aa=>
 qL pG b (blk aa) (lA 3 aa) fun av=>
 qP pG (bC .eql 3 42 av (vI 12)) fun a=>
 qP pG (gYs a (fA 49 d 5)) fun j=>
 qP pG (gYs a (fA 49 d 6)) fun ab=>
 qP pG (gYs a (fA 49 d 7)) fun o=>
 qL pG b (blk j) (gYs a (lA 3 j)) fun aw=>
 qL pG b (blk ab) (gYs a (lA 47 ab)) fun ax=>
 qL pG b (blk o) (gYs a (lA 47 o)) fun ay=>
 oP E (gYs a (xCall (fC 45) [(gval (asB a) true x0),ax])) b fun az p=>
 keepX [(blk o),(blk j)] b p (opK pG E (gYs a (xCall (fC 45) [(gval (asB a) true x0),ay])) p fun ba q=>
 keepX [(blk j)] p q (opK pG E (gYs a (xCall (fC 44) [aw,az,ba])) q fun bb r=>
 keepX [] q r (qP pG (gYs a (xV (Op.unary .not bb))) fun bc=>
 qP pG (xPick a bc (vB false)) fun bd=>
 xcond bd
 (oP E (iA 100 f (vI 1)) r fun be bf=>
 oP E (lA 3 be) bf fun bg bh=>
 R (Value.tuple #[bg,(vB true)]) bh)
 (oP E (iA 100 f (vI 0)) r fun bi bj=>
 oP E (lA 3 bi) bj fun bk bl=>
 R (Value.tuple #[bk,(vB true)]) bl)))))))
def h19:Hint:=(sQ (hS (.reg [(0,64,1),(1,128,64),(2,256,128),(4,512,256),(0,1024,1),(16,2048,1024),(32,4096,2048),(64,8192,4096),(136,16384,8704),(256,32768,16384),(1023,16,32768)] [648,648,648,640,648,648,648,520,648,136,648] (.early 0 (.early 1 (.early 2 (.early 4 (.early 5 (.early 6 (.load 3 (.load 7 (.early 8 (.load 9 (.early 10 .done)))))))))))) (hS (hS (.reg [(0,65536,1),(1,131072,65536),(2,262144,131072),(4,524288,262144),(0,1048576,1),(16,2097152,1048576),(32,4194304,2097152),(64,8388608,4194304),(128,16777216,8388608),(264,33554432,17301504),(512,67108864,33554432),(1024,134217728,67108880),(3072,268435456,201326592),(5120,536870912,335544320),(9216,1073741824,603979776)] [264,264,264,256,264,264,264,264,8,264,264,264,264,264,264] (.early 0 (.early 1 (.early 2 (.early 4 (.early 5 (.early 6 (.early 7 (.load 3 (.load 8 (.early 9 (.early 10 (.early 11 (.early 12 (.early 13 (.early 14 .done)))))))))))))))) (hC (sQ hN) hN)) (hS (.reg [(0,2147483648,1),(1,4294967296,2147483648),(2,8589934592,4294967296),(4,17179869184,8589934592),(8,34359738368,17179869184),(0,68719476736,16),(32,137438953472,68719476736),(64,274877906944,137438953472),(144,549755813888,309237645312),(256,1099511627776,549755813888),(0,32,0),(2047,0,1099511627808)] [656,656,656,656,640,656,656,528,656,144,656,0] (.early 0 (.early 1 (.early 2 (.early 3 (.early 5 (.early 6 (.load 4 (.load 7 (.early 8 (.load 9 (.step 10 (.step 11 .done))))))))))))) (hS (hS (.reg [(0,2199023255552,32),(1,4398046511104,2199023255552),(2,8796093022208,4398046511104),(4,17592186044416,8796093022208),(8,35184372088832,17592186044448),(24,70368744177664,52776558133248),(8,140737488355328,17592186044417),(8,281474976710656,17592186044448),(136,562949953421312,299067162755072),(328,1125899906842624,721279627821056),(8,2251799813685248,17592186044417),(8,4503599627370496,17592186044448),(2056,9007199254740992,4521191813414912),(5640,18014398509481984,11276591254470656),(8744,36028797018963968,19228259346546688),(16392,72057594037927936,36046389205008384),(32776,144115188075855872,72075186223972352)] [4386,4384,4386,4386,4386,4354,4386,4386,4130,4128,4386,4386,290,32,0,4386,4386] (.early 0 (.load 1 (.early 2 (.early 3 (.early 4 (.early 6 (.early 7 (.early 10 (.early 11 (.load 5 (.load 8 (.load 12 (.step 9 (.step 13 (.step 14 (.early 15 (.early 16 .done)))))))))))))))))) (hC (sQ hN) hN)) (sQ hN))))))
theorem c9R{x0:Value}(h:F19 x0 w R E):Cv pG 19 #[x0] w R E:=okF (h:=h19) Tryz.func19 (by kernel_rfl) (by kernel_rfl) h
def c3a(w)(R:RT)(_E:Pan):=
 ∀_τ:Fr,(R (vB true) w)
def c9S(x0 x1 x5 w)(next2:NT)(j1:NT)(R:RT)(E):=
 opK pG E (xBuiltin .len #[26] 3 [false] [x0]) w fun e f=>
 oP E (bN .lss 3 11 13 x5 e) f fun g b=>
 xcond g
 (dX b fun a=>
 qP pG (iA 26 x0 x5) fun c=>
 qP pG (iA 26 x1 x5) fun d=>
 qL pG a (blk c) (lA 2 c) fun i=>
 qL pG a (blk d) (lA 2 d) fun j=>
 qP pG (bN .neq 2 20 24 i j) fun k=>
 xcond k
 (R (vB false) a)
 (oP E (bC .add 3 15 x5 (vI 1)) a fun l m=>
 next2 [l] m))
 (j1 [] b)
def F20(x0 x1 w)(R:RT)(E):=
 opK pG E (xBuiltin .len #[26] 3 [false] [x0]) w fun b c=>
 oP E (xBuiltin .len #[26] 3 [false] [x1]) c fun d e=>
 oP E (bN .neq 3 7 9 b d) e fun f a=>
 xcond f
 (R (vB false) a)
 (xcut (fun _ g=>c3a g R E) fun j1=>
 xloop [5] [(vI 0)] a fun i j next2=>
 c9S x0 x1 (i 5) j next2 j1 R E)
def h20:Hint:=(sQ (hS (sQ (hC (sQ hN) hN)) (hU [] (sQ (hB (hL [5] (hS (sQ (hC hN hN)) (hS (hB (hS (.reg [(0,131072,1),(0,262144,32),(3,524288,393216),(4,1048576,524288),(0,2097152,2),(0,4194304,32),(48,8388608,6291456),(64,16777216,8388608),(136,33554432,17825792)] [136,136,136,128,136,136,136,8,136] (.early 0 (.early 1 (.early 2 (.early 4 (.early 5 (.early 6 (.load 3 (.load 7 (.early 8 .done)))))))))) (hC (sQ hN) hN))) hN))))) (sQ hN))))
theorem c9T{x0 x1:Value}(h:F20 x0 x1 w R E):Cv pG 20 #[x0,x1] w R E:=okF (h:=h20) Tryz.func20 (by kernel_rfl) (by kernel_rfl) h
def F21(x0 w)(R:RT)(E):=
 opK pG E (xV (Instr.box 25 x0)) w fun a b=>
 oP E (lA 25 a) b fun c d=>
 oP E (xCall (fC 46) [c]) d fun e f=>
 oP E (xNil e) f fun g i=>
 oP E (fA 116 g 2) i fun j k=>
 oP E (lA 33 j) k fun l m=>
 R l m
def h21:Hint:=(sQ (sQ hN))
theorem c9U{x0:Value}(h:F21 x0 w R E):Cv pG 21 #[x0] w R E:=okF (h:=h21) Tryz.func21 (by kernel_rfl) (by kernel_rfl) h
def c3b(x5 w)(R:RT)(_E:Pan):=
 ∀_τ:Fr,(R (Value.tuple #[x5,(eS),(vI 0)]) w)
def c3c(x5 x6 x13 x14 x15 w)(next2:NT)(j1:NT)(R:RT)(E):=
 opK pG E (bN .lss 3 15 14 x15 x14) w fun n c=>
 xcond n
 (oP E (iA 22 x13 x15) c fun o p=>
 oP E (lA 58 o) p fun q r=>
 oP E (xV (Instr.alloc 58 true (.tuple #[]))) r fun a s=>
 oP E (sA 58 a q) s fun _ t=>
 oP E (lA 58 a) t fun u v=>
 oP E (xCall (fC 47) [u]) v fun b y=>
 oP E (xV (Instr.lookup 119 x6 b false)) y fun z aa=>
 oP E (bC .sub 3 23 z (vI 1)) aa fun ab ac=>
 oP E (xU (Instr.mapUpdate 119 x6 b ab)) ac fun _ ad=>
 oP E (fA 58 a 0) ad fun ae af=>
 oP E (lA 9 ae) af fun ag ah=>
 oP E (xV (Instr.lookup 68 x5 ag false)) ah fun ai aj=>
 oP E (bC .neq 3 29 ai (vI 0)) aj fun ak d=>
 xcond ak
 (dX d fun e=>
 qP pG (fA 58 a 0) fun f=>
 qL pG e (blk f) (lA 9 f) fun al=>
 R (Value.tuple #[(Value.map none),al,(vI 60)]) e)
 (oP E (fA 58 a 1) d fun am an=>
 oP E (lA 3 am) an fun ao ap=>
 oP E (bC .gtr 3 35 ao (vI 1024)) ap fun aq g=>
 xcond aq
 (dX g fun i=>
 qP pG (fA 58 a 0) fun j=>
 qL pG i (blk j) (lA 9 j) fun ar=>
 R (Value.tuple #[(Value.map none),ar,(vI 61)]) i)
 (oP E (xV (Instr.lookup 119 x6 b false)) g fun au av=>
 oP E (bC .lss 3 42 au (vI 0)) av fun aw k=>
 xcond aw
 (dX k fun l=>
 qP pG (fA 58 a 0) fun m=>
 qL pG l (blk m) (lA 9 m) fun ax=>
 R (Value.tuple #[(Value.map none),ax,(vI 62)]) l)
 (oP E (fA 58 a 0) k fun ay az=>
 oP E (lA 9 ay) az fun ba bb=>
 oP E (xU (Instr.mapUpdate 68 x5 ba b)) bb fun _ bc=>
 oP E (bC .add 3 15 x15 (vI 1)) bc fun bd be=>
 next2 [bd] be))))
 (j1 [] c)
def F22(x0 w)(R:RT)(E):=
 opK pG E (xV (Instr.makeMap 68 none)) w fun b c=>
 oP E (xV (Instr.makeMap 119 none)) c fun a d=>
 oP E (xU (Instr.mapUpdate 119 a (vI 1) (vI 32))) d fun _ e=>
 oP E (xU (Instr.mapUpdate 119 a (vI 2) (vI 16))) e fun _ f=>
 xcut (fun _ g=>c3b b g R E) fun j1=>
 oP E (xBuiltin .len #[22] 3 [false] [x0]) f fun i j=>
 xloop [15] [(vI 0)] j fun k l next2=>
 c3c b a x0 i (k 15) l next2 j1 R E
def h22:Hint:=(sQ (sQ (sQ (hU [] (sQ (hB (hL [15] (sQ (hS (hC hN hN) (hS (hB (sQ (sQ (sQ (hS (hB (sQ (hC (hS (.reg [(0,2147483648,256),(1,4294967296,2147483648),(0,4,0),(7,8,4294967296),(15,16,0)] [2,0,2,2,2] (.early 0 (.early 2 (.load 1 (.early 3 (.early 4 .done)))))) hN) (sQ (hC (hS (.reg [(0,137438953472,256),(1,274877906944,137438953472),(0,4,0),(7,8,274877906944),(15,16,0)] [2,0,2,2,2] (.early 0 (.early 2 (.load 1 (.early 3 (.early 4 .done)))))) hN) (sQ (hC (hS (.reg [(0,17592186044416,256),(1,35184372088832,17592186044416),(0,4,0),(7,8,35184372088832),(15,16,0)] [2,0,2,2,2] (.early 0 (.early 2 (.load 1 (.early 3 (.early 4 .done)))))) hN) hN))))))) hN))))) hN)))))) (sQ hN)))))
theorem c9V{x0:Value}(h:F22 x0 w R E):Cv pG 22 #[x0] w R E:=okF (h:=h22) Tryz.func22 (by kernel_rfl) (by kernel_rfl) h
def c3d(_x0 _x10 _x11 x12:Value)(w)(next1:NT)(_R:RT)(E):=
 ∀_τ:Fr,(oP E (bC .add 3 12 x12 (vI 1)) w fun a b=>
 next1 [a] b)
def c3e(x0 x5 _x10 _x11 _x12:Value)(w)(j2:NT)(_R:RT)(E):=
 ∀_τ:Fr,(oP E (fA 104 x5 4) w fun a b=>
 oP E (lA 23 a) b fun c d=>
 oP E (xCall (fC 23) [x0,c]) d fun _t71_21 e=>
 oP E (fA 104 x5 5) e fun f g=>
 oP E (lA 23 f) g fun i j=>
 oP E (xCall (fC 23) [x0,i]) j fun _t75_27 k=>
 j2 [] k)
def c9W(x0 _x5 _x10 _x11 _x12 x58 x59 x60:Value)(w)(next6:NT)(j5:NT)(_R:RT)(E):=
 opK pG E (bN .lss 3 60 59 x60 x59) w fun c a=>
 xcond c
 (oP E (iA 101 x58 x60) a fun d e=>
 oP E (lA 125 d) e fun f g=>
 oP E (xV (Instr.alloc 125 true (.tuple #[]))) g fun b i=>
 oP E (sA 125 b f) i fun _ j=>
 oP E (lA 125 b) j fun k l=>
 oP E (xCall (fC 49) [x0,k]) l fun _t66_49 m=>
 oP E (bC .add 3 60 x60 (vI 1)) m fun n o=>
 next6 [n] o)
 (j5 [] a)
def c3f(x0 x5 x10 x11 x12 w)(j2:NT)(R:RT)(E):=
 ∀_τ:Fr,(xcut (fun _ b=>c3e x0 x5 x10 x11 x12 b j2 R E) fun j5=>
 oP E (fA 104 x5 2) w fun c d=>
 oP E (lA 101 c) d fun a e=>
 oP E (xBuiltin .len #[101] 3 [false] [a]) e fun f g=>
 xloop [60] [(vI 0)] g fun i j next6=>
 c9W x0 x5 x10 x11 x12 a f (i 60) j next6 j5 R E)
def c9X(x0 _x5 _x10 _x11 _x12 x47 x48 x49:Value)(w)(next7:NT)(j4:NT)(_R:RT)(E):=
 opK pG E (bN .lss 3 49 48 x49 x48) w fun c a=>
 xcond c
 (oP E (iA 102 x47 x49) a fun d e=>
 oP E (lA 122 d) e fun f g=>
 oP E (xV (Instr.alloc 122 true (.tuple #[]))) g fun b i=>
 oP E (sA 122 b f) i fun _ j=>
 oP E (lA 122 b) j fun k l=>
 oP E (xCall (fC 48) [x0,k]) l fun _t55_75 m=>
 oP E (bC .add 3 49 x49 (vI 1)) m fun n o=>
 next7 [n] o)
 (j4 [] a)
def c3g(x0 x5 x10 x11 x12 w)(j2:NT)(R:RT)(E):=
 ∀_τ:Fr,(xcut (fun _ b=>c3f x0 x5 x10 x11 x12 b j2 R E) fun j4=>
 oP E (fA 104 x5 3) w fun c d=>
 oP E (lA 102 c) d fun a e=>
 oP E (xBuiltin .len #[102] 3 [false] [a]) e fun f g=>
 xloop [49] [(vI 0)] g fun i j next7=>
 c9X x0 x5 x10 x11 x12 a f (i 49) j next7 j4 R E)
def c9Y(x0 x10 x11 x12 w)(next1:NT)(R:RT)(E):=
 opK pG E (bN .lss 3 12 11 x12 x11) w fun s k=>
 xcond s
 (xcut (fun _ t=>c3d x0 x10 x11 x12 t next1 R E) fun j2=>
 oP E (iA 23 x10 x12) k fun u v=>
 oP E (lA 104 u) v fun y z=>
 oP E (xV (Instr.alloc 104 true (.tuple #[]))) z fun a aa=>
 oP E (sA 104 a y) aa fun _ ab=>
 xcut (fun _ ac=>c3g x0 a x10 x11 x12 ac j2 R E) fun j3=>
 oP E (fA 104 a 0) ab fun ad ae=>
 oP E (lA 3 ad) ae fun l af=>
 oP E (bC .eql 3 17 l (vI 1)) af fun ag m=>
 xcond ag
 (dX m fun b=>
 qP pG (xNil x0) fun ah=>
 qP pG (fA 94 ah 0) fun d=>
 qP pG (fA 104 a 1) fun n=>
 qL pG b (blk d) (lA 92 d) fun ai=>
 qL pG b (blk n) (lA 9 n) fun aj=>
 qP pG (xV (Instr.build 97 #[(0,aj),(1,(vI 1))])) fun ak=>
 oP E (xV (Instr.buildSlice 92 1 #[(0,ak)])) b fun al e=>
 keepX [(blk d)] b e (opK pG E (xBuiltin .append #[92,92] 92 [false,false] [ai,al]) e fun am f=>
 keepX [] e f (qP pG (xNil x0) fun an=>
 qP pG (fA 94 an 0) fun ao=>
 oP E (sA 92 ao am) f fun _ o=>
 keepX [] f o (j3 [] o))))
 (oP E (bC .eql 3 17 l (vI 2)) m fun ap p=>
 xcond ap
 (dX p fun c=>
 qP pG (xNil x0) fun aq=>
 qP pG (fA 94 aq 0) fun g=>
 qP pG (fA 104 a 1) fun q=>
 qL pG c (blk g) (lA 92 g) fun ar=>
 qL pG c (blk q) (lA 9 q) fun au=>
 qP pG (xV (Instr.build 97 #[(0,au),(1,(vI 2))])) fun av=>
 oP E (xV (Instr.buildSlice 92 1 #[(0,av)])) c fun aw i=>
 keepX [(blk g)] c i (opK pG E (xBuiltin .append #[92,92] 92 [false,false] [ar,aw]) i fun ax j=>
 keepX [] i j (qP pG (xNil x0) fun ay=>
 qP pG (fA 94 ay 0) fun az=>
 oP E (sA 92 az ax) j fun _ r=>
 keepX [] j r (j3 [] r))))
 (j3 [] p)))
 (R (Value.tuple #[]) k)
def F23(x0 x1 w)(R:RT)(E):=
 opK pG E (xBuiltin .len #[23] 3 [false] [x1]) w fun a b=>
 xloop [12] [(vI 0)] b fun c d next1=>
 c9Y x0 x1 a (c 12) d next1 R E
def h23:Hint:=(sQ (hB (hL [12] (sQ (hS (hC hN hN) (hU [] (hB (sQ (hU [] (sQ (hB (sQ (hC (.reg [(0,1048576,1),(0,2097152,1),(2,4194304,2097152),(4,8388608,4194304),(8,16777216,8388608),(0,33554432,32),(32,67108864,33554432),(64,134217728,67108864),(128,268435456,134217728),(272,536870912,285212672),(1023,1073741824,1048576),(2047,2147483648,1073741824),(3071,0,2684354560)] [80,80,80,80,64,80,16,80,16,0,80,80,0] (.early 0 (.early 1 (.early 2 (.early 3 (.early 5 (.load 4 (.load 6 (.early 7 (.step 8 (.step 9 (.early 10 (.early 11 (.step 12 .done)))))))))))))) (sQ (hC (.reg [(0,17179869184,1),(0,34359738368,1),(2,68719476736,34359738368),(4,137438953472,68719476736),(8,274877906944,137438953472),(0,549755813888,32),(32,1099511627776,549755813888),(64,2199023255552,1099511627776),(128,4398046511104,2199023255552),(272,8796093022208,4672924418048),(1023,17592186044416,17179869184),(2047,35184372088832,17592186044416),(3071,0,43980465111040)] [80,80,80,80,64,80,16,80,16,0,80,80,0] (.early 0 (.early 1 (.early 2 (.early 3 (.early 5 (.load 4 (.load 6 (.early 7 (.step 8 (.step 9 (.early 10 (.early 11 (.step 12 .done)))))))))))))) hN)))))) (hU [] (sQ (hB (hL [49] (sQ (hS (hC hN hN) (hS (hB (sQ hN)) hN)))))) (hU [] (sQ (hB (hL [60] (sQ (hS (hC hN hN) (hS (hB (sQ hN)) hN)))))) (sQ hN)))))) hN))))))
theorem c9Z{x0 x1:Value}(h:F23 x0 x1 w R E):Cv pG 23 #[x0,x1] w R E:=okF (h:=h23) Tryz.func23 (by kernel_rfl) (by kernel_rfl) h
def c3h(x0 x6 x7 x8 w)(next1:NT)(R:RT)(E):=
 opK pG E (bN .lss 3 8 7 x8 x7) w fun c a=>
 xcond c
 (oP E (iA 23 x6 x8) a fun d e=>
 oP E (lA 104 d) e fun f g=>
 oP E (xV (Instr.alloc 104 true (.tuple #[]))) g fun b i=>
 oP E (sA 104 b f) i fun _ j=>
 oP E (lA 104 b) j fun k l=>
 oP E (xCall (fC 50) [x0,k]) l fun _t14_15 m=>
 oP E (bC .add 3 8 x8 (vI 1)) m fun n o=>
 next1 [n] o)
 (R (Value.tuple #[]) a)
def F25(x0 x1 w)(R:RT)(E):=
 opK pG E (xBuiltin .len #[23] 3 [false] [x1]) w fun a b=>
 xloop [8] [(vI 0)] b fun c d next1=>
 c3h x0 x1 a (c 8) d next1 R E
def h25:Hint:=(sQ (hB (hL [8] (sQ (hS (hC hN hN) (hS (hB (sQ hN)) hN))))))
theorem d0a{x0 x1:Value}(h:F25 x0 x1 w R E):Cv pG 25 #[x0,x1] w R E:=okF (h:=h25) Tryz.func25 (by kernel_rfl) (by kernel_rfl) h
def F26(x0 x1 w)(R:RT)(E):=
 opK pG E (xV (Instr.box 25 x0)) w fun a e=>
 oP E (xV (Instr.box 3 x1)) e fun f g=>
 oP E (lA 25 a) g fun i j=>
 oP E (xCall (fC 10) [i]) j fun b k=>
 oP E (xT b 0) k fun _t11_9 l=>
 oP E (xT b 1) l fun c m=>
 oP E (bC .neq 33 13 c (vI 0)) m fun n d=>
 xcond n
 (R (Value.tuple #[(nS),c]) d)
 (oP E (fA 25 a 0) d fun o p=>
 oP E (lA 22 o) p fun q r=>
 oP E (xCall (fC 52) [q]) r fun s t=>
 oP E (xV (Instr.makeFunc (.func 53) #[] #[f])) t fun u v=>
 oP E (xCall (fC 51) [s,u]) v fun y z=>
 R (Value.tuple #[y,(vI 0)]) z)
def h26:Hint:=(sQ (hS (sQ (sQ (hC (sQ hN) hN))) (sQ hN)))
theorem d0b{x0 x1:Value}(h:F26 x0 x1 w R E):Cv pG 26 #[x0,x1] w R E:=okF (h:=h26) Tryz.func26 (by kernel_rfl) (by kernel_rfl) h
def F27(x0 x1 x2 x3 w)(R:RT)(E):=
 opK pG E (xV (Instr.box 104 x1)) w fun a aj=>
 oP E (fA 104 a 0) aj fun ak al=>
 oP E (lA 3 ak) al fun c am=>
 oP E (bC .eql 3 15 c (vI 1)) am fun an i=>
 xcond an
 (dX i fun b=>
 qP pG (xNil x0) fun ao=>
 qP pG (fA 70 ao 1) fun j=>
 qP pG (fA 104 a 1) fun k=>
 qP pG (fA 104 a 2) fun l=>
 qL pG b (blk j) (lA 68 j) fun m=>
 qL pG b (blk k) (lA 9 k) fun ap=>
 qL pG b (blk m) (xV (Instr.lookup 68 m ap false)) fun aq=>
 qL pG b (blk l) (lA 101 l) fun ar=>
 qP pG (iA 101 ar (vI 0)) fun n=>
 qL pG b (blk n) (lA 125 n) fun au=>
 oP E (xCall (fC 54) [x0,aq,au,x2,x3]) b fun _t37_20 o=>
 keepX [] b o (R (Value.tuple #[]) o))
 (oP E (bC .eql 3 15 c (vI 2)) i fun av p=>
 xcond av
 (oP E (xCall (fC 55) [x2,x3,(vI 11)]) p fun aw ax=>
 oP E (xV (Instr.alloc 49 true (.tuple #[]))) ax fun d ay=>
 oP E (sA 49 d aw) ay fun _ az=>
 dX az fun e=>
 qP pG (xNil x0) fun ba=>
 qP pG (fA 70 ba 2) fun q=>
 qP pG (fA 104 a 1) fun r=>
 qL pG e (blk q) (lA 68 q) fun s=>
 qL pG e (blk r) (lA 9 r) fun bb=>
 qL pG e (blk s) (xV (Instr.lookup 68 s bb false)) fun bc=>
 qP pG (fA 49 d 4) fun bd=>
 oP E (sA 3 bd bc) e fun _ t=>
 keepX [] e t (opK pG E (fA 104 a 2) t fun be bf=>
 oP E (lA 101 be) bf fun bg bh=>
 oP E (xCall (fC 56) [x0,bg,x2,(vI 0)]) bh fun g bi=>
 oP E (xT g 0) bi fun bj bk=>
 oP E (xT g 1) bk fun bl bm=>
 oP E (xT g 2) bm fun bn bo=>
 oP E (fA 49 d 6) bo fun bp bq=>
 oP E (sA 47 bp bj) bq fun _ br=>
 oP E (fA 49 d 7) br fun bs bt=>
 oP E (sA 47 bs bl) bt fun _ bu=>
 oP E (fA 49 d 0) bu fun bv bw=>
 oP E (sA 3 bv bn) bw fun _ bz=>
 oP E (lA 49 d) bz fun ca cb=>
 oP E (xCall (fC 57) [x0,ca]) cb fun _t65_66 cc=>
 R (Value.tuple #[]) cc))
 (oP E (bC .eql 3 15 c (vI 3)) p fun cd u=>
 xcond cd
 (oP E (fA 104 a 4) u fun ce cf=>
 oP E (lA 23 ce) cf fun cg ch=>
 oP E (xCall (fC 58) [x0,cg,x3]) ch fun v ci=>
 oP E (fA 104 a 5) ci fun cj ck=>
 oP E (lA 23 cj) ck fun cl cm=>
 oP E (xCall (fC 58) [x0,cl,x3]) cm fun y cn=>
 oP E (fA 104 a 3) cn fun co cp=>
 oP E (lA 102 co) cp fun cq cr=>
 oP E (iA 102 cq (vI 0)) cr fun cs ct=>
 oP E (lA 122 cs) ct fun cu cv=>
 oP E (xCall (fC 59) [x0,cu,x2,v,y]) cv fun _t86_90 cw=>
 oP E (fA 104 a 4) cw fun cx cy=>
 oP E (lA 23 cx) cy fun cz da=>
 oP E (xCall (fC 15) [x0,cz,v,x3]) da fun _t92_96 db=>
 oP E (fA 104 a 5) db fun dc dd=>
 oP E (lA 23 dc) dd fun de df=>
 oP E (xCall (fC 15) [x0,de,y,x3]) df fun _t98_102 dg=>
 R (Value.tuple #[]) dg)
 (oP E (bC .eql 3 15 c (vI 4)) u fun dh z=>
 xcond dh
 (oP E (fA 104 a 4) z fun di dj=>
 oP E (lA 23 di) dj fun dk dl=>
 oP E (xCall (fC 58) [x0,dk,x2]) dl fun aa dm=>
 oP E (fA 104 a 3) dm fun dn dp=>
 oP E (lA 102 dn) dp fun dq dr=>
 oP E (iA 102 dq (vI 0)) dr fun ds dt=>
 oP E (lA 122 ds) dt fun du dv=>
 oP E (xCall (fC 59) [x0,du,x2,aa,x3]) dv fun _t114_120 dw=>
 oP E (fA 104 a 4) dw fun dx dy=>
 oP E (lA 23 dx) dy fun dz ea=>
 oP E (xCall (fC 15) [x0,dz,aa,x2]) ea fun _t120_126 eb=>
 R (Value.tuple #[]) eb)
 (oP E (bC .eql 3 15 c (vI 5)) z fun ec ab=>
 xcond ec
 (oP E (xCall (fC 14) [x0]) ab fun ac ed=>
 oP E (xCall (fC 14) [x0]) ed fun ad ee=>
 oP E (fA 104 a 3) ee fun ef eg=>
 oP E (lA 102 ef) eg fun eh ei=>
 oP E (iA 102 eh (vI 0)) ei fun ej ek=>
 oP E (lA 122 ej) ek fun el em=>
 oP E (xCall (fC 59) [x0,el,x2,ac,ad]) em fun _t135_142 en=>
 oP E (xCall (fC 55) [ac,x3,(vI 13)]) en fun eo ep=>
 oP E (xCall (fC 57) [x0,eo]) ep fun _t140_146 eq=>
 oP E (xCall (fC 55) [ad,x3,(vI 14)]) eq fun er es=>
 oP E (xCall (fC 57) [x0,er]) es fun _t145_150 et=>
 R (Value.tuple #[]) et)
 (oP E (bC .eql 3 15 c (vI 6)) ab fun eu ae=>
 xcond eu
 (dX ae fun f=>
 qP pG (fA 104 a 3) fun af=>
 qP pG (xNil x0) fun ev=>
 qP pG (fA 70 ev 0) fun ew=>
 qP pG (fA 39 ew 4) fun ag=>
 qL pG f (blk af) (lA 102 af) fun ex=>
 qP pG (iA 102 ex (vI 0)) fun ah=>
 qL pG f (blk ah) (lA 122 ah) fun ey=>
 qL pG f (blk ag) (lA 3 ag) fun ez=>
 oP E (xCall (fC 59) [x0,ey,x2,x3,ez]) f fun _t160_163 ai=>
 keepX [] f ai (R (Value.tuple #[]) ai))
 (oP E (xCall (fC 55) [x2,x3,(vI 1)]) ae fun fa fb=>
 oP E (xCall (fC 57) [x0,fa]) fb fun _t20_167 fc=>
 R (Value.tuple #[]) fc))))))
def h27:Hint:=(sQ (sQ (hB (sQ (hC (.reg [(0,8388608,1),(0,16777216,1),(2,33554432,16777216),(4,67108864,33554432),(8,134217728,67108864),(0,268435456,32),(32,536870912,268435456),(80,1073741824,671088640),(0,2147483648,32),(256,4294967296,2147483648),(512,8589934592,4294967296),(1024,17179869184,8589934592),(0,34359738368,4),(0,68719476736,8),(14465,137438953472,121341214720)] [2768,2768,2768,2768,2752,2768,2704,2640,2768,2256,2768,720,2768,2768,0] (.early 0 (.early 1 (.early 2 (.early 3 (.early 5 (.early 8 (.early 12 (.early 13 (.load 4 (.load 6 (.load 7 (.load 9 (.early 10 (.load 11 (.step 14 .done)))))))))))))))) (sQ (hC (sQ (hS (.reg [(0,8796093022208,1),(1,17592186044416,8796093022208),(2,35184372088832,17592186044416),(4,70368744177664,35184372088832),(0,140737488355328,32),(16,281474976710656,140737488355328),(40,562949953421312,351843720888320),(127,1125899906842624,256),(255,0,1688849860263936)] [104,104,104,96,104,72,40,104,0] (.early 0 (.early 1 (.early 2 (.early 4 (.load 3 (.load 5 (.load 6 (.early 7 (.step 8 .done)))))))))) (sQ hN))) (sQ (hC (sQ (sQ (sQ (sQ hN)))) (sQ (hC (sQ (sQ hN)) (sQ (hC (sQ (sQ (sQ hN))) (sQ (hC (.reg [(0,356811923176489970264571492362373784095686656,1),(0,713623846352979940529142984724747568191373312,32),(2,1427247692705959881058285969449495136382746624,713623846352979940529142984724747568191373312),(4,2854495385411919762116571938898990272765493248,1427247692705959881058285969449495136382746624),(8,5708990770823839524233143877797980545530986496,2854495385411919762116571938898990272765493248),(0,11417981541647679048466287755595961091061972992,4),(0,22835963083295358096932575511191922182123945984,8),(0,45671926166590716193865151022383844364247891968,1),(128,91343852333181432387730302044767688728495783936,45671926166590716193865151022383844364247891968),(256,182687704666362864775460604089535377456991567872,91343852333181432387730302044767688728495783936),(512,365375409332725729550921208179070754913983135744,182687704666362864775460604089535377456991567872),(1024,730750818665451459101842416358141509827966271488,365375409332725729550921208179070754913983135744),(2161,1461501637330902918203684832716283019655932542976,771070565984394825741738994995089747430778863616)] [2068,2068,2064,2068,2052,2068,2068,2068,2068,2068,2068,20,0] (.early 0 (.early 1 (.early 5 (.early 6 (.early 7 (.early 8 (.early 9 (.early 10 (.load 2 (.early 3 (.load 4 (.load 11 (.step 12 .done)))))))))))))) hN)))))))))))))))
theorem d0c{x0 x1 x2 x3:Value}(h:F27 x0 x1 x2 x3 w R E):Cv pG 27 #[x0,x1,x2,x3] w R E:=okF (h:=h27) Tryz.func27 (by kernel_rfl) (by kernel_rfl) h
def F28(x0 x1 w)(R:RT)(E):=
 opK pG E (xV (Instr.box 107 x0)) w fun b c=>
 oP E (bC .geq 3 5 x1 (vI 0)) c fun a d=>
 oP E (gYs a (fA 107 b 0)) d fun e f=>
 oP E (gYs a (fA 39 e 3)) f fun g i=>
 oP E (gYs a (lA 3 g)) i fun j k=>
 oP E (gYs a (bN .lss 3 8 11 (gval (asB a) true x1) j)) k fun l m=>
 oP E (xPick a l (vB false)) m fun n o=>
 R n o
def h28:Hint:=(sQ (sQ hN))
theorem d0d{x0 x1:Value}(h:F28 x0 x1 w R E):Cv pG 28 #[x0,x1] w R E:=okF (h:=h28) Tryz.func28 (by kernel_rfl) (by kernel_rfl) h
def F29(x0 x1 w)(R:RT)(E):=
 opK pG E (xV (Instr.box 107 x0)) w fun e au=>
 oP E (xV (Instr.box 49 x1)) au fun a av=>
 oP E (lA 107 e) av fun aw ax=>
 oP E (fA 49 a 0) ax fun ay az=>
 oP E (lA 3 ay) az fun ba bb=>
 oP E (xCall (fC 28) [aw,ba]) bb fun bc bd=>
 oP E (xV (Op.unary .not bc)) bd fun m be=>
 oP E (gNo m (lA 107 e)) be fun bf bg=>
 oP E (gNo m (fA 49 a 1)) bg fun bh bi=>
 oP E (gNo m (lA 3 bh)) bi fun bj bk=>
 oP E (gNo m (xCall (fC 28) [bf,bj])) bk fun bl bm=>
 oP E (gNo m (xV (Op.unary .not bl))) bm fun bn bo=>
 oP E (xPick m (vB true) bn) bo fun g bp=>
 oP E (gNo g (fA 49 a 0)) bp fun bq br=>
 oP E (gNo g (lA 3 bq)) br fun bs bt=>
 oP E (gNo g (fA 107 e 0)) bt fun bu bv=>
 oP E (gNo g (fA 39 bu 4)) bv fun bw bz=>
 oP E (gNo g (lA 3 bw)) bz fun ca cb=>
 oP E (gNo g (bN .eql 3 20 23 bs ca)) cb fun cc cd=>
 oP E (xPick g (vB true) cc) cd fun p ce=>
 oP E (gNo p (fA 49 a 2)) ce fun cf cg=>
 oP E (gNo p (lA 3 cf)) cg fun ch ci=>
 oP E (gNo p (bC .lss 3 28 ch (vI 1))) ci fun cj ck=>
 oP E (xPick p (vB true) cj) ck fun q cl=>
 oP E (gNo q (fA 49 a 2)) cl fun cm cn=>
 oP E (gNo q (lA 3 cm)) cn fun co cp=>
 oP E (gNo q (bC .gtr 3 33 co (vI 14))) cp fun cq cr=>
 oP E (xPick q (vB true) cq) cr fun cs ai=>
 xcond cs
 (R (vB false) ai)
 (oP E (fA 49 a 2) ai fun ct cu=>
 oP E (lA 3 ct) cu fun cv cw=>
 oP E (xCall (fC 60) [cv]) cw fun cx cy=>
 oP E (xV (Instr.alloc 139 true (.tuple #[]))) cy fun n cz=>
 oP E (sA 139 n cx) cz fun _ da=>
 dX da fun o=>
 qP pG (fA 139 n 0) fun y=>
 qP pG (fA 49 a 3) fun aj=>
 qP pG (fA 49 a 3) fun z=>
 qL pG o (blk y) (lA 4 y) fun db=>
 qL pG o (blk e) (lA 107 e) fun dc=>
 qL pG o (blk aj) (lA 3 aj) fun dd=>
 qL pG o (blk z) (lA 3 z) fun de=>
 qP pG (bC .eql 3 46 de (vI (-1))) fun df=>
 oP E (xCall (fC 62) [dc,dd]) o fun dg aa=>
 keepX [(blk z),(blk y)] o aa (opK pG E (xCall (fC 61) [db,dg,df]) aa fun f i=>
 keepX [] aa i (qP pG (gYs f (fA 139 n 1)) fun ab=>
 qP pG (gYs f (fA 49 a 4)) fun ak=>
 qP pG (gYs f (fA 49 a 4)) fun ac=>
 qL pG i (blk ab) (gYs f (lA 4 ab)) fun dh=>
 qL pG i (blk e) (gYs f (lA 107 e)) fun di=>
 qL pG i (blk ak) (gYs f (lA 3 ak)) fun dj=>
 qL pG i (blk ac) (gYs f (lA 3 ac)) fun dk=>
 qP pG (gYs f (bC .eql 3 57 dk (vI (-1)))) fun dl=>
 oP E (gYs f (xCall (fC 63) [di,dj])) i fun dm ad=>
 keepX [(blk ac),(blk ab)] i ad (opK pG E (gYs f (xCall (fC 61) [dh,dm,dl])) ad fun dn j=>
 keepX [] ad j (qP pG (xPick f dn (vB false)) fun b=>
 qP pG (gYs b (fA 139 n 2)) fun al=>
 qP pG (gYs b (fA 49 a 5)) fun am=>
 qP pG (gYs b (fA 49 a 5)) fun an=>
 qL pG j (blk al) (gYs b (lA 4 al)) fun dp=>
 qL pG j (blk am) (gYs b (lA 3 am)) fun dq=>
 qP pG (gYs b (bC .geq 3 65 dq (vI 1))) fun r=>
 qP pG (gsem (asB (gval (asB b) true r)) true (fA 49 a 5)) fun ao=>
 qL pG j (blk ao) (gsem (asB (gval (asB b) true r)) true (lA 3 ao)) fun dr=>
 qP pG (gsem (asB (gval (asB b) true r)) true (bC .leq 3 69 dr (vI 6))) fun ds=>
 qP pG (gYs b (xPick (gval (asB b) true r) ds (vB false))) fun dt=>
 qL pG j (blk an) (gYs b (lA 3 an)) fun du=>
 qP pG (gYs b (bC .eql 3 73 du (vI 0))) fun dv=>
 oP E (gYs b (xCall (fC 61) [dp,dt,dv])) j fun dw k=>
 keepX [] j k (qP pG (xPick b dw (vB false)) fun c=>
 qP pG (gYs c (fA 139 n 3)) fun s=>
 qP pG (gYs c (fA 49 a 6)) fun ap=>
 qP pG (gYs c (fA 49 a 6)) fun t=>
 qL pG k (blk s) (gYs c (lA 4 s)) fun dx=>
 qL pG k (blk e) (gYs c (lA 107 e)) fun dy=>
 qL pG k (blk ap) (gYs c (lA 47 ap)) fun dz=>
 qL pG k (blk t) (gYs c (lA 47 t)) fun ea=>
 oP E (gYs c (xCall (fC 64) [dy,dz])) k fun eb ae=>
 keepX [(blk t),(blk s)] k ae (opK pG E (gYs c (xCall (fC 65) [])) ae fun ec af=>
 keepX [(blk t),(blk s)] ae af (qP pG (gYs c (bN .eql 47 85 86 ea ec)) fun ed=>
 oP E (gYs c (xCall (fC 61) [dx,eb,ed])) af fun ee l=>
 keepX [] af l (qP pG (xPick c ee (vB false)) fun d=>
 qP pG (gYs d (fA 139 n 4)) fun u=>
 qP pG (gYs d (fA 49 a 7)) fun aq=>
 qP pG (gYs d (fA 49 a 7)) fun v=>
 qL pG l (blk u) (gYs d (lA 4 u)) fun ef=>
 qL pG l (blk e) (gYs d (lA 107 e)) fun eg=>
 qL pG l (blk aq) (gYs d (lA 47 aq)) fun eh=>
 qL pG l (blk v) (gYs d (lA 47 v)) fun ei=>
 oP E (gYs d (xCall (fC 64) [eg,eh])) l fun ej ag=>
 keepX [(blk v),(blk u)] l ag (opK pG E (gYs d (xCall (fC 65) [])) ag fun ek ah=>
 keepX [(blk v),(blk u)] ag ah (qP pG (gYs d (bN .eql 47 98 99 ei ek)) fun el=>
 oP E (gYs d (xCall (fC 61) [ef,ej,el])) ah fun em ar=>
 keepX [] ah ar (qP pG (xPick d em (vB false)) fun en=>
 R en ar))))))))))))
def h29:Hint:=(sQ (hS (sQ (hC (sQ hN) hN)) (sQ (hS (.reg [(0,549755813888,32),(1,1099511627776,549755813888),(0,2199023255552,4),(0,4398046511104,8),(8,8796093022208,4398046511104),(20,17592186044416,10995116277760),(0,35184372088832,8),(64,70368744177664,35184372088832),(128,140737488355328,70368744177664),(290,281474976710656,159429186027520),(512,562949953421312,281474976710656),(1024,1125899906842624,562949953421344),(3072,2251799813685248,1688849860263936),(1024,4503599627370496,562949953421316),(1024,9007199254740992,562949953421320),(17408,18014398509481984,9570149208162304),(41984,36028797018963968,23080948090273792),(1024,72057594037927936,562949953421320),(132096,144115188075855872,72620543991349248),(263168,288230376151711744,144678138029277184),(594944,576460752303423488,327073922937782272),(1049600,1152921504606846976,577023702256844800),(3145728,2305843009213693952,1152921504606846976),(4194304,4611686018427387904,2305843009213693984),(12582912,9223372036854775808,6917529027641081856),(4194304,18446744073709551616,2305843009213693960),(37748736,36893488147419103232,20752587082923245568),(71303168,73786976294838206464,39199331156632797184),(138412032,147573952589676412928,76092819304051900416),(268435456,295147905179352825856,147573952589676412936),(805306368,590295810358705651712,442721857769029238784),(1342177280,1180591620717411303424,737869762948382064640),(2420113408,2361183241434822606848,1330471416316301410304),(4194304,4722366482869645213696,2305843009213693960),(8594128896,9444732965739290427392,4724672325878858907648),(17184063488,18889465931478580854784,9447038808748504121344),(38944112640,37778931862957161709568,21262178387959471931392),(68723671040,75557863725914323419136,37781237705966375403520),(206158430208,151115727451828646838272,75557863725914323419136),(274877906944,302231454903657293676544,151115727451828646838304),(824633720832,604462909807314587353088,453347182355485940514816),(274877906944,1208925819614629174706176,151115727451828646838276),(274877906944,2417851639229258349412352,151115727451828646838280),(4672924418048,4835703278458516698824704,2568967366681086996250624),(11269994184704,9671406556917033397649408,6195744825524974520369152),(274877906944,19342813113834066795298816,151115727451828646838280),(35459249995776,38685626227668133590597632,19493928841285895442137088),(17867063951360,77371252455336267181195264,151115727451828646838272),(211381110439936,154742504910672534362390528,116207994410456229418631168),(441179040645120,309485009821345068724781056,165169490104848710994231296),(563224831328256,618970019642690137449562112,309636125548796897371619328),(1688849860263936,1237940039285380274899124224,618970019642690137449562112),(2251799813685248,2475880078570760549798248448,1237940039285380274899124256),(6755399441055744,4951760157141521099596496896,3713820117856140824697372672),(2251799813685248,9903520314283042199192993792,1237940039285380274899124228),(2251799813685248,19807040628566084398385987584,1237940039285380274899124232),(38280596832649216,39614081257132168796771975168,21044980667851464673285111808),(92323792361095168,79228162514264337593543950336,50755541610700591270864093184),(2251799813685248,158456325028528675187087900672,1237940039285380274899124232),(290482175965396992,316912650057057350374175801344,159694265067814055461987024896),(146366987889541120,633825300114114700748351602688,1237940039285380274899124224),(1731634056723955712,1267650600228229401496703205376,951975890210457431397426528256),(3614138700964823040,2535301200456458802993406410752,1353068462938920640464742776832),(4613937818241073152,5070602400912917605986812821504,2536539140495744183268305534976),(18446744073709551615,16,5070602400912917605986812821504)] [675622425815462038,675622425815462036,675622425815462034,675622425815462038,675622425815462022,130,675622425815462038,675622425815461910,675622425815462038,0,675622425815462038,675622425815462038,675622425815457942,675622425815453846,675622425815462038,675622425815429270,266240,675622425815462038,675622425815199894,675622425815462038,0,675622425815462038,675622425815462038,675622425815462038,675622425798684822,675622425815462038,675622425748353174,675622425815462038,675622425815462038,675622425815462038,675622424741720214,675622425815462038,675622425815462038,675622425815462038,675622408635592854,675622425815462038,0,675622425815462038,675622425815462038,675622425815462038,675621326303834262,675620226792206486,675622425815462038,675613629722439830,71468255805440,675622425815462038,675552057071284374,71468255805440,675622425815462038,0,675622425815462038,675622425815462038,675622425815462038,666615226560721046,657608027305980054,675622425815462038,603564831777534102,585467951558164480,675622425815462038,99161673512038550,585467951558164480,675622425815462038,0,675622425815462038,675622425815462038] (.early 0 (.early 3 (.early 6 (.load 1 (.load 2 (.load 4 (.load 7 (.early 8 (.step 5 (.step 9 (.early 10 (.early 11 (.early 14 (.early 17 (.load 12 (.load 13 (.load 15 (.load 18 (.early 19 (.step 16 (.step 20 (.early 21 (.early 22 (.early 23 (.early 25 (.early 33 (.load 24 (.load 26 (.early 27 (.early 28 (.early 29 (.load 30 (.early 31 (.early 32 (.load 34 (.early 35 (.step 36 (.early 37 (.early 38 (.early 39 (.early 42 (.early 45 (.load 40 (.load 41 (.load 43 (.load 46 (.step 44 (.step 47 (.early 48 (.step 49 (.early 50 (.early 51 (.early 52 (.early 55 (.early 58 (.load 53 (.load 54 (.load 56 (.load 59 (.step 57 (.step 60 (.early 61 (.step 62 (.early 63 (.early 64 .done)))))))))))))))))))))))))))))))))))))))))))))))))))))))))))))))))) hN))))
theorem d0e{x0 x1:Value}(h:F29 x0 x1 w R E):Cv pG 29 #[x0,x1] w R E:=okF (h:=h29) Tryz.func29 (by kernel_rfl) (by kernel_rfl) h
def c3i(x3 x4 w)(R:RT)(E):=
 ∀_τ:Fr,(dX w fun a=>
 qP pG (fA 49 x3 2) fun g=>
 qL pG a (blk g) (lA 3 g) fun p=>
 qP pG (bC .eql 3 25 p (vI 12)) fun e=>
 qP pG (gYs e (fA 49 x4 2)) fun i=>
 qL pG a (blk i) (gYs e (lA 3 i)) fun q=>
 qP pG (gYs e (bC .eql 3 29 q (vI 12))) fun r=>
 qP pG (xPick e r (vB false)) fun c=>
 qP pG (gYs c (fA 49 x3 6)) fun j=>
 qP pG (gYs c (fA 49 x4 6)) fun k=>
 qL pG a (blk j) (gYs c (lA 47 j)) fun s=>
 qL pG a (blk k) (gYs c (lA 47 k)) fun t=>
 qP pG (gYs c (bN .eql 47 34 36 s t)) fun u=>
 qP pG (xPick c u (vB false)) fun d=>
 qP pG (gYs d (fA 49 x3 7)) fun l=>
 qP pG (gYs d (fA 49 x4 7)) fun m=>
 qL pG a (blk l) (gYs d (lA 47 l)) fun v=>
 qL pG a (blk m) (gYs d (lA 47 m)) fun y=>
 qP pG (gYs d (bN .eql 47 41 43 v y)) fun z=>
 qP pG (xPick d z (vB false)) fun b=>
 qP pG (gYs b (fA 49 x4 5)) fun f=>
 qP pG (gYs b (fA 49 x3 5)) fun n=>
 qL pG a (blk f) (gYs b (lA 3 f)) fun aa=>
 qL pG a (blk n) (gYs b (lA 3 n)) fun ab=>
 oP E (gYs b (xCall (fC 66) [ab])) a fun ac o=>
 keepX [(blk f)] a o (qP pG (gYs b (bN .eql 3 48 51 aa ac)) fun ad=>
 qP pG (xPick b ad (vB false)) fun ae=>
 R ae o))
def F30(x0 w)(R:RT)(E):=
 opK pG E (xBuiltin .len #[37] 3 [false] [x0]) w fun d z=>
 oP E (bC .eql 3 6 d (vI 0)) z fun aa l=>
 xcond aa
 (R (vB true) l)
 (oP E (bC .eql 3 6 d (vI 1)) l fun ab m=>
 xcond ab
 (oP E (iA 37 x0 (vI 0)) m fun ac ad=>
 oP E (fA 49 ac 2) ad fun ae af=>
 oP E (lA 3 ae) af fun ag ah=>
 oP E (bC .neq 3 14 ag (vI 12)) ah fun ai aj=>
 R ai aj)
 (oP E (bC .eql 3 6 d (vI 2)) m fun ak n=>
 xcond ak
 (xcut (fun o al=>c3i (nth o 0) (nth o.tail 0) al R E) fun j1=>
 dX n fun b=>
 qP pG (iA 37 x0 (vI 0)) fun c=>
 qP pG (iA 37 x0 (vI 1)) fun a=>
 qL pG b (blk c) (lA 49 c) fun p=>
 qL pG b (blk a) (lA 49 a) fun q=>
 (oP E (xV (Instr.alloc 49 true (.tuple #[]))) b fun r e=>
 keepX [(blk a),(blk c)] b e (opK pG E (xV (Instr.alloc 49 true (.tuple #[]))) e fun s f=>
 keepX [(blk a),(blk c)] e f (opK pG E (sA 49 r p) f fun _ g=>
 keepX [(blk a)] f g (opK pG E (sA 49 s q) g fun _ t=>
 keepX [] g t (j1 [r,s] t)))))∧
 (oP E (xV (Instr.alloc 49 true (.tuple #[]))) b fun u i=>
 keepX [(blk a),(blk c)] b i (opK pG E (xV (Instr.alloc 49 true (.tuple #[]))) i fun v j=>
 keepX [(blk a),(blk c)] i j (opK pG E (sA 49 v p) j fun _ k=>
 keepX [(blk a)] j k (opK pG E (sA 49 u q) k fun _ y=>
 keepX [] k y (j1 [v,u] y))))))
 (R (vB false) n)))
def h30:Hint:=(sQ (hS (sQ (hB (sQ (hC (sQ hN) (sQ (hC (sQ hN) (sQ (hC (hU [3,4] (.reg [(0,262144,1),(1,524288,262144),(2,1048576,524288),(0,2097152,1),(8,4194304,2097152),(16,8388608,4194304),(0,8,0),(0,16,0),(199,0,1048584),(511,0,8388624)] [36,36,32,36,36,4,36,36,32,0] (.early 0 (.early 1 (.early 3 (.early 4 (.load 2 (.load 5 (.alt 6 (.step 7 (.step 8 (.step 9 .done))) (.step 7 (.step 6 (.step 8 (.step 9 .done)))))))))))) (hS (.reg [(0,16777216,8),(1,33554432,16777216),(2,67108864,33554432),(4,134217728,67108864),(8,268435456,134217744),(24,536870912,402653184),(40,1073741824,671088640),(72,2147483648,1207959552),(136,4294967296,2147483648),(256,8589934592,4294967304),(768,17179869184,12884901888),(256,34359738368,4294967312),(2304,68719476736,38654705664),(5376,137438953472,90194313216),(8448,274877906944,141733920768),(16640,549755813888,274877906944),(32768,1099511627776,549755813896),(98304,2199023255552,1649267441664),(32768,4398046511104,549755813904),(294912,8796093022208,4947802324992),(688128,17592186044416,11544872091648),(1081344,35184372088832,18141941858304),(2129920,70368744177664,35184372088832),(4194304,140737488355328,70368744177680),(12582912,281474976710656,211106232532992),(4194304,562949953421312,70368744177672),(37748736,1125899906842624,633318697598976),(71303168,2251799813685248,1196268651020288),(155189248,4503599627370496,2603643534573568),(272629760,9007199254740992,4573968371548160),(1073741823,4,9007199254740992)] [84546594,84546592,84546594,84546594,84546594,84546562,84546594,84546594,84546594,84546594,84545570,84546594,84542498,84546594,84546594,84546594,84546594,84415522,84546594,84022306,84546594,84546594,84546594,84546594,67769378,84546594,17437730,16777216,84546594,84546594,84546594] (.early 0 (.load 1 (.early 2 (.early 3 (.early 4 (.load 5 (.early 6 (.early 7 (.early 8 (.early 9 (.early 11 (.load 10 (.load 12 (.early 13 (.early 14 (.early 15 (.early 16 (.early 18 (.load 17 (.load 19 (.early 20 (.early 21 (.early 22 (.early 23 (.early 25 (.load 24 (.load 26 (.step 27 (.early 28 (.early 29 (.early 30 .done)))))))))))))))))))))))))))))))) hN)) hN)))))))) (sQ hN)))
theorem d0f{x0:Value}(h:F30 x0 w R E):Cv pG 30 #[x0] w R E:=okF (h:=h30) Tryz.func30 (by kernel_rfl) (by kernel_rfl) h
def F31(_x0 x1:Value)(w)(R:RT)(E):=
 opK pG E (xV (Instr.box 49 x1)) w fun _t3_1 a=>
 R (vI 0) a
def h31:Hint:=(sQ (sQ hN))
theorem d0g{x0 x1:Value}(h:F31 x0 x1 w R E):Cv pG 31 #[x0,x1] w R E:=okF (h:=h31) Tryz.func31 (by kernel_rfl) (by kernel_rfl) h
def F32(x0 x1 w)(R:RT)(E):=
 opK pG E (xV (Instr.box 49 x1)) w fun e i=>
 dX i fun a=>
 qP pG (xNil x0) fun j=>
 qP pG (fA 78 j 3) fun b=>
 qP pG (fA 49 e 3) fun c=>
 qP pG (fA 49 e 6) fun f=>
 qL pG a (blk b) (lA 26 b) fun k=>
 qL pG a (blk c) (lA 3 c) fun l=>
 qL pG a (blk f) (lA 47 f) fun m=>
 oP E (xCall (fC 45) [x0,m]) a fun n d=>
 keepX [(blk c),(blk b)] a d (qP pG (iA 26 k l) fun o=>
 oP E (sA 2 o n) d fun _ g=>
 keepX [] d g (R (vI 0) g))
def h32:Hint:=(sQ (hS (.reg [(0,32,1),(1,64,32),(2,128,64),(4,256,128),(0,512,8),(16,1024,512),(0,2048,1),(0,4096,8),(128,8192,4096),(320,16384,10240),(1023,32768,1280),(2047,0,49152)] [296,296,296,288,296,264,296,296,40,40,296,0] (.early 0 (.early 1 (.early 2 (.early 4 (.early 6 (.early 7 (.load 3 (.load 5 (.load 8 (.step 9 (.early 10 (.step 11 .done))))))))))))) (sQ hN)))
theorem d0h{x0 x1:Value}(h:F32 x0 x1 w R E):Cv pG 32 #[x0,x1] w R E:=okF (h:=h32) Tryz.func32 (by kernel_rfl) (by kernel_rfl) h
def F33(x0 x1 w)(R:RT)(E):=
 opK pG E (xV (Instr.box 49 x1)) w fun a b=>
 oP E (lA 49 a) b fun c d=>
 oP E (xCall (fC 67) [x0,c,(fC 68)]) d fun e f=>
 R e f
def h33:Hint:=(sQ (sQ hN))
theorem d0i{x0 x1:Value}(h:F33 x0 x1 w R E):Cv pG 33 #[x0,x1] w R E:=okF (h:=h33) Tryz.func33 (by kernel_rfl) (by kernel_rfl) h
def F34(x0 x1 w)(R:RT)(E):=
 opK pG E (xV (Instr.box 49 x1)) w fun a b=>
 oP E (lA 49 a) b fun c d=>
 oP E (xCall (fC 67) [x0,c,(fC 70)]) d fun e f=>
 R e f
def h34:Hint:=(sQ (sQ hN))
theorem d0j{x0 x1:Value}(h:F34 x0 x1 w R E):Cv pG 34 #[x0,x1] w R E:=okF (h:=h34) Tryz.func34 (by kernel_rfl) (by kernel_rfl) h
def F35(x0 x1 w)(R:RT)(E):=
 opK pG E (xV (Instr.box 49 x1)) w fun a b=>
 oP E (lA 49 a) b fun c d=>
 oP E (xCall (fC 67) [x0,c,(fC 71)]) d fun e f=>
 R e f
def h35:Hint:=(sQ (sQ hN))
theorem d0k{x0 x1:Value}(h:F35 x0 x1 w R E):Cv pG 35 #[x0,x1] w R E:=okF (h:=h35) Tryz.func35 (by kernel_rfl) (by kernel_rfl) h
def F36(x0 x1 w)(R:RT)(E):=
 opK pG E (xV (Instr.box 49 x1)) w fun a b=>
 oP E (lA 49 a) b fun c d=>
 oP E (xCall (fC 67) [x0,c,(fC 72)]) d fun e f=>
 R e f
def h36:Hint:=(sQ (sQ hN))
theorem d0l{x0 x1:Value}(h:F36 x0 x1 w R E):Cv pG 36 #[x0,x1] w R E:=okF (h:=h36) Tryz.func36 (by kernel_rfl) (by kernel_rfl) h
def F37(x0 x1 w)(R:RT)(E):=
 opK pG E (xV (Instr.box 49 x1)) w fun a b=>
 oP E (lA 49 a) b fun c d=>
 oP E (xCall (fC 67) [x0,c,(fC 73)]) d fun e f=>
 R e f
def h37:Hint:=(sQ (sQ hN))
theorem d0m{x0 x1:Value}(h:F37 x0 x1 w R E):Cv pG 37 #[x0,x1] w R E:=okF (h:=h37) Tryz.func37 (by kernel_rfl) (by kernel_rfl) h
def F38(x0 x1 w)(R:RT)(E):=
 opK pG E (xV (Instr.box 49 x1)) w fun a b=>
 oP E (lA 49 a) b fun c d=>
 oP E (xCall (fC 67) [x0,c,(fC 74)]) d fun e f=>
 R e f
def h38:Hint:=(sQ (sQ hN))
theorem d0n{x0 x1:Value}(h:F38 x0 x1 w R E):Cv pG 38 #[x0,x1] w R E:=okF (h:=h38) Tryz.func38 (by kernel_rfl) (by kernel_rfl) h
def F39(x0 x1 w)(R:RT)(E):=
 opK pG E (xV (Instr.box 49 x1)) w fun f g=>
 oP E (xNil x0) g fun i j=>
 oP E (fA 78 i 5) j fun k l=>
 oP E (lA 26 k) l fun m n=>
 oP E (iA 26 m (vI 0)) n fun o p=>
 oP E (lA 2 o) p fun b q=>
 oP E (xNil x0) q fun r s=>
 oP E (fA 78 r 5) s fun t u=>
 oP E (lA 26 t) u fun v y=>
 oP E (xV (Instr.sliceAt 26 v (some (vI 1)) none none)) y fun z aa=>
 oP E (xNil x0) aa fun ab ac=>
 oP E (fA 78 ab 5) ac fun ad ae=>
 oP E (sA 26 ad z) ae fun _ af=>
 dX af fun a=>
 qP pG (xNil x0) fun ag=>
 qP pG (fA 78 ag 3) fun c=>
 qP pG (fA 49 f 3) fun d=>
 qL pG a (blk c) (lA 26 c) fun ah=>
 qL pG a (blk d) (lA 3 d) fun ai=>
 qP pG (iA 26 ah ai) fun aj=>
 oP E (sA 2 aj b) a fun _ e=>
 keepX [] a e (opK pG E (xNil x0) e fun ak al=>
 oP E (fA 78 ak 6) al fun am an=>
 oP E (lA 29 am) an fun ao ap=>
 oP E (xV (Instr.build 87 #[(0,(vB true)),(1,b)])) ap fun aq ar=>
 oP E (xV (Instr.buildSlice 29 1 #[(0,aq)])) ar fun au av=>
 oP E (xBuiltin .append #[29,29] 29 [false,false] [ao,au]) av fun aw ax=>
 oP E (xNil x0) ax fun ay az=>
 oP E (fA 78 ay 6) az fun ba bb=>
 oP E (sA 29 ba aw) bb fun _ bc=>
 R (vI 0) bc)
def h39:Hint:=(sQ (sQ (sQ (hS (.reg [(0,1048576,1),(1,2097152,1048576),(2,4194304,2097152),(4,8388608,4194304),(0,16777216,8),(16,33554432,16777216),(0,67108864,32),(127,134217728,41943040),(255,0,201326592)] [40,40,40,32,40,8,40,40,0] (.early 0 (.early 1 (.early 2 (.early 4 (.early 6 (.load 3 (.load 5 (.early 7 (.step 8 .done)))))))))) (sQ (sQ hN))))))
theorem d0o{x0 x1:Value}(h:F39 x0 x1 w R E):Cv pG 39 #[x0,x1] w R E:=okF (h:=h39) Tryz.func39 (by kernel_rfl) (by kernel_rfl) h
def F40(x0 x1 w)(R:RT)(E):=
 opK pG E (xV (Instr.box 49 x1)) w fun b j=>
 oP E (lA 49 b) j fun k l=>
 oP E (xCall (fC 75) [x0,k]) l fun c m=>
 oP E (bC .eql 59 9 c (Value.pointer none)) m fun n d=>
 xcond n
 (R (vI 3) d)
 (dX d fun a=>
 qP pG (xNil x0) fun o=>
 qP pG (fA 78 o 3) fun e=>
 qP pG (fA 49 b 3) fun f=>
 qP pG (xNil c) fun g=>
 qL pG a (blk e) (lA 26 e) fun p=>
 qL pG a (blk f) (lA 3 f) fun q=>
 qL pG a (blk g) (lA 2 g) fun r=>
 qP pG (iA 26 p q) fun s=>
 oP E (sA 2 s r) a fun _ i=>
 keepX [] a i (R (vI 0) i))
def h40:Hint:=(sQ (sQ (hS (sQ (hC (sQ hN) hN)) (hS (.reg [(0,2048,1),(1,4096,2048),(2,8192,4096),(4,16384,8192),(0,32768,8),(16,65536,32768),(0,131072,32),(64,262144,131072),(128,524288,262144),(511,1048576,81920),(1023,0,1572864)] [296,296,296,288,296,264,296,296,40,296,0] (.early 0 (.early 1 (.early 2 (.early 4 (.early 6 (.early 7 (.load 3 (.load 5 (.load 8 (.early 9 (.step 10 .done)))))))))))) (sQ hN)))))
theorem d0p{x0 x1:Value}(h:F40 x0 x1 w R E):Cv pG 40 #[x0,x1] w R E:=okF (h:=h40) Tryz.func40 (by kernel_rfl) (by kernel_rfl) h
def F41(x0 x1 w)(R:RT)(E):=
 opK pG E (xV (Instr.box 49 x1)) w fun a d=>
 oP E (lA 49 a) d fun e f=>
 oP E (xCall (fC 75) [x0,e]) f fun b g=>
 oP E (bC .eql 59 9 b (Value.pointer none)) g fun i c=>
 xcond i
 (R (vI 3) c)
 (oP E (fA 49 a 7) c fun j k=>
 oP E (lA 47 j) k fun l m=>
 oP E (xCall (fC 45) [x0,l]) m fun n o=>
 oP E (xNil b) o fun p q=>
 oP E (sA 2 p n) q fun _ r=>
 R (vI 0) r)
def h41:Hint:=(sQ (sQ (hS (sQ (hC (sQ hN) hN)) (sQ (sQ hN)))))
theorem d0q{x0 x1:Value}(h:F41 x0 x1 w R E):Cv pG 41 #[x0,x1] w R E:=okF (h:=h41) Tryz.func41 (by kernel_rfl) (by kernel_rfl) h
def F42(x0 x1 w)(R:RT)(E):=
 opK pG E (xV (Instr.box 49 x1)) w fun _t3_1 a=>
 oP E (xNil x0) a fun b c=>
 oP E (fA 78 b 6) c fun d e=>
 oP E (lA 29 d) e fun f g=>
 oP E (xV (Instr.build 87 #[(2,(vB true))])) g fun i j=>
 oP E (xV (Instr.buildSlice 29 1 #[(0,i)])) j fun k l=>
 oP E (xBuiltin .append #[29,29] 29 [false,false] [f,k]) l fun m n=>
 oP E (xNil x0) n fun o p=>
 oP E (fA 78 o 6) p fun q r=>
 oP E (sA 29 q m) r fun _ s=>
 R (vI 0) s
def h42:Hint:=(sQ (sQ (sQ hN)))
theorem d0r{x0 x1:Value}(h:F42 x0 x1 w R E):Cv pG 42 #[x0,x1] w R E:=okF (h:=h42) Tryz.func42 (by kernel_rfl) (by kernel_rfl) h
def F43(x0 x1 w)(R:RT)(E):=
 opK pG E (xV (Instr.box 49 x1)) w fun _t3_1 a=>
 oP E (xNil x0) a fun b c=>
 oP E (fA 78 b 6) c fun d e=>
 oP E (lA 29 d) e fun f g=>
 oP E (xV (Instr.build 87 #[])) g fun i j=>
 oP E (xV (Instr.buildSlice 29 1 #[(0,i)])) j fun k l=>
 oP E (xBuiltin .append #[29,29] 29 [false,false] [f,k]) l fun m n=>
 oP E (xNil x0) n fun o p=>
 oP E (fA 78 o 6) p fun q r=>
 oP E (sA 29 q m) r fun _ s=>
 R (vI 4) s
def h43:Hint:=(sQ (sQ (sQ hN)))
theorem d0s{x0 x1:Value}(h:F43 x0 x1 w R E):Cv pG 43 #[x0,x1] w R E:=okF (h:=h43) Tryz.func43 (by kernel_rfl) (by kernel_rfl) h
def F44(x0 x1 x2 w)(R:RT)(E):=
 opK pG E (bC .lss 3 7 x0 (vI 1)) w fun a c=>
 oP E (gNo a (bC .gtr 3 10 (gval (asB a) false x0) (vI 6))) c fun d e=>
 oP E (xPick a (vB true) d) e fun f b=>
 xcond f
 (R (vB false) b)
 (oP E (xCall (fC 76) []) b fun g i=>
 oP E (xV (Instr.index 151 g x0)) i fun j k=>
 oP E (xCall j [x1,x2]) k fun l m=>
 R l m)
def h44:Hint:=(sQ (hS (sQ (hC (sQ hN) hN)) (sQ hN)))
theorem d0t{x0 x1 x2:Value}(h:F44 x0 x1 x2 w R E):Cv pG 44 #[x0,x1,x2] w R E:=okF (h:=h44) Tryz.func44 (by kernel_rfl) (by kernel_rfl) h
def F45(x0 x1 w)(R:RT)(E):=
 opK pG E (xV (Instr.box 47 x1)) w fun b g=>
 oP E (fA 47 b 0) g fun i j=>
 oP E (lA 3 i) j fun k l=>
 oP E (bC .lss 3 6 k (vI 0)) l fun m c=>
 xcond m
 (oP E (fA 47 b 1) c fun n o=>
 oP E (lA 2 n) o fun p q=>
 R p q)
 (dX c fun a=>
 qP pG (xNil x0) fun r=>
 qP pG (fA 78 r 3) fun d=>
 qP pG (fA 47 b 0) fun e=>
 qL pG a (blk d) (lA 26 d) fun s=>
 qL pG a (blk e) (lA 3 e) fun t=>
 qP pG (iA 26 s t) fun f=>
 qL pG a (blk f) (lA 2 f) fun u=>
 R u a)
def h45:Hint:=(sQ (hS (sQ (hC (sQ hN) hN)) (hS (.reg [(0,1024,1),(1,2048,1024),(2,4096,2048),(4,8192,4096),(0,16384,8),(16,32768,16384),(40,65536,40960),(64,131072,65536),(255,16,131072)] [168,168,168,160,168,136,168,40,168] (.early 0 (.early 1 (.early 2 (.early 4 (.load 3 (.load 5 (.early 6 (.load 7 (.early 8 .done)))))))))) hN)))
theorem d0u{x0 x1:Value}(h:F45 x0 x1 w R E):Cv pG 45 #[x0,x1] w R E:=okF (h:=h45) Tryz.func45 (by kernel_rfl) (by kernel_rfl) h
def F46(x0 w)(R:RT)(E):=
 opK pG E (xV (Instr.box 25 x0)) w fun g k=>
 dX k fun a=>
 qP pG (fA 25 g 0) fun i=>
 qP pG (fA 25 g 1) fun b=>
 qL pG a (blk i) (lA 22 i) fun l=>
 qL pG a (blk b) (lA 23 b) fun m=>
 oP E (xCall (fC 79) [l,(fC 80)]) a fun n c=>
 keepX [(blk b)] a c (opK pG E (xCall (fC 81) [m,(fC 82)]) c fun o d=>
 keepX [] c d (opK pG E (xV (Instr.buildSlice 185 2 #[(0,n),(1,o)])) d fun p e=>
 keepX [] d e (opK pG E (xCall (fC 78) [p]) e fun q f=>
 keepX [] e f (opK pG E (xCall (fC 77) [q]) f fun r j=>
 keepX [] f j (R r j)))))
def h46:Hint:=(sQ (hS (.reg [(0,8,2),(1,16,8),(2,32,16),(0,64,2),(8,128,64),(20,256,128),(36,512,288),(96,1024,512),(128,2048,1024),(511,4,2048)] [18,16,16,18,2,0,0,0,0,18] (.early 0 (.early 3 (.load 1 (.load 4 (.step 2 (.step 5 (.step 6 (.step 7 (.step 8 (.early 9 .done))))))))))) hN))
theorem d0v{x0:Value}(h:F46 x0 w R E):Cv pG 46 #[x0] w R E:=okF (h:=h46) Tryz.func46 (by kernel_rfl) (by kernel_rfl) h
def F47(x0 w)(R:RT)(E):=
 opK pG E (xV (Instr.box 58 x0)) w fun b c=>
 oP E (fA 58 b 1) c fun d e=>
 oP E (lA 3 d) e fun f g=>
 oP E (bC .gtr 3 4 f (vI 0)) g fun i a=>
 xcond i
 (R (vI 2) a)
 (R (vI 1) a)
def h47:Hint:=(sQ (hS (sQ (hC (sQ hN) hN)) (sQ hN)))
theorem d0w{x0:Value}(h:F47 x0 w R E):Cv pG 47 #[x0] w R E:=okF (h:=h47) Tryz.func47 (by kernel_rfl) (by kernel_rfl) h
def d0x(x0 x20 x21 x22 w)(next2:NT)(R:RT)(E):=
 opK pG E (bN .lss 3 22 21 x22 x21) w fun c a=>
 xcond c
 (oP E (iA 102 x20 x22) a fun d e=>
 oP E (lA 122 d) e fun f g=>
 oP E (xV (Instr.alloc 122 true (.tuple #[]))) g fun b i=>
 oP E (sA 122 b f) i fun _ j=>
 oP E (lA 122 b) j fun k l=>
 oP E (xCall (fC 48) [x0,k]) l fun _t28_21 m=>
 oP E (bC .add 3 22 x22 (vI 1)) m fun n o=>
 next2 [n] o)
 (R (Value.tuple #[]) a)
def c3j(x0 x3 w)(R:RT)(E):=
 ∀_τ:Fr,(oP E (fA 122 x3 3) w fun b c=>
 oP E (lA 102 b) c fun a d=>
 oP E (xBuiltin .len #[102] 3 [false] [a]) d fun e f=>
 xloop [22] [(vI 0)] f fun g i next2=>
 d0x x0 a e (g 22) i next2 R E)
def d0y(x0 _x3 x9 x10 x11:Value)(w)(next3:NT)(j1:NT)(_R:RT)(E):=
 opK pG E (bN .lss 3 11 10 x11 x10) w fun c a=>
 xcond c
 (oP E (iA 101 x9 x11) a fun d e=>
 oP E (lA 125 d) e fun f g=>
 oP E (xV (Instr.alloc 125 true (.tuple #[]))) g fun b i=>
 oP E (sA 125 b f) i fun _ j=>
 oP E (lA 125 b) j fun k l=>
 oP E (xCall (fC 49) [x0,k]) l fun _t17_47 m=>
 oP E (bC .add 3 11 x11 (vI 1)) m fun n o=>
 next3 [n] o)
 (j1 [] a)
def F48(x0 x1 w)(R:RT)(E):=
 opK pG E (xV (Instr.box 122 x1)) w fun a c=>
 xcut (fun _ d=>c3j x0 a d R E) fun j1=>
 oP E (fA 122 a 2) c fun e f=>
 oP E (lA 101 e) f fun b g=>
 oP E (xBuiltin .len #[101] 3 [false] [b]) g fun i j=>
 xloop [11] [(vI 0)] j fun k l next3=>
 d0y x0 a b i (k 11) l next3 j1 R E
def h48:Hint:=(sQ (hU [] (sQ (hB (hL [11] (sQ (hS (hC hN hN) (hS (hB (sQ hN)) hN)))))) (sQ (hB (hL [22] (sQ (hS (hC hN hN) (hS (hB (sQ hN)) hN))))))))
theorem d0z{x0 x1:Value}(h:F48 x0 x1 w R E):Cv pG 48 #[x0,x1] w R E:=okF (h:=h48) Tryz.func48 (by kernel_rfl) (by kernel_rfl) h
def d0A(x0 x37 x38 x39 w)(next2:NT)(R:RT)(E):=
 opK pG E (bN .lss 3 39 38 x39 x38) w fun c a=>
 xcond c
 (oP E (iA 101 x37 x39) a fun d e=>
 oP E (lA 125 d) e fun f g=>
 oP E (xV (Instr.alloc 125 true (.tuple #[]))) g fun b i=>
 oP E (sA 125 b f) i fun _ j=>
 oP E (lA 125 b) j fun k l=>
 oP E (xCall (fC 49) [x0,k]) l fun _t45_21 m=>
 oP E (bC .add 3 39 x39 (vI 1)) m fun n o=>
 next2 [n] o)
 (R (Value.tuple #[]) a)
def c3k(x0 x3 w)(R:RT)(E):=
 ∀_τ:Fr,(oP E (fA 125 x3 3) w fun b c=>
 oP E (lA 101 b) c fun a d=>
 oP E (xBuiltin .len #[101] 3 [false] [a]) d fun e f=>
 xloop [39] [(vI 0)] f fun g i next2=>
 d0A x0 a e (g 39) i next2 R E)
def F49(x0 x1 w)(R:RT)(E):=
 opK pG E (xV (Instr.box 125 x1)) w fun a r=>
 xcut (fun _ s=>c3k x0 a s R E) fun j1=>
 oP E (fA 125 a 0) r fun t u=>
 oP E (lA 3 t) u fun k v=>
 oP E (bC .eql 3 7 k (vI 2)) v fun y l=>
 xcond y
 (dX l fun b=>
 qP pG (xNil x0) fun z=>
 qP pG (fA 94 z 0) fun d=>
 qP pG (fA 125 a 2) fun m=>
 qL pG b (blk d) (lA 92 d) fun aa=>
 qL pG b (blk m) (lA 9 m) fun ab=>
 qP pG (xV (Instr.build 97 #[(0,ab),(1,(vI 1))])) fun ac=>
 oP E (xV (Instr.buildSlice 92 1 #[(0,ac)])) b fun ad e=>
 keepX [(blk d)] b e (opK pG E (xBuiltin .append #[92,92] 92 [false,false] [aa,ad]) e fun ae f=>
 keepX [] e f (qP pG (xNil x0) fun af=>
 qP pG (fA 94 af 0) fun ag=>
 oP E (sA 92 ag ae) f fun _ n=>
 keepX [] f n (j1 [] n))))
 (oP E (bC .eql 3 7 k (vI 4)) l fun ah o=>
 xcond ah
 (dX o fun c=>
 qP pG (xNil x0) fun ai=>
 qP pG (fA 94 ai 0) fun g=>
 qP pG (fA 125 a 2) fun p=>
 qL pG c (blk g) (lA 92 g) fun aj=>
 qL pG c (blk p) (lA 9 p) fun ak=>
 qP pG (xV (Instr.build 97 #[(0,ak),(1,(vI 2))])) fun al=>
 oP E (xV (Instr.buildSlice 92 1 #[(0,al)])) c fun am i=>
 keepX [(blk g)] c i (opK pG E (xBuiltin .append #[92,92] 92 [false,false] [aj,am]) i fun an j=>
 keepX [] i j (qP pG (xNil x0) fun ao=>
 qP pG (fA 94 ao 0) fun ap=>
 oP E (sA 92 ap an) j fun _ q=>
 keepX [] j q (j1 [] q))))
 (j1 [] o))
def h49:Hint:=(sQ (hU [] (sQ (hB (sQ (hC (.reg [(0,1024,1),(0,2048,1),(2,4096,2048),(4,8192,4096),(8,16384,8192),(0,32768,8),(32,65536,32768),(64,131072,65536),(128,262144,131072),(272,524288,278528),(1023,1048576,1024),(2047,2097152,1048576),(3071,0,2621440)] [80,80,80,80,64,80,16,80,16,0,80,80,0] (.early 0 (.early 1 (.early 2 (.early 3 (.early 5 (.load 4 (.load 6 (.early 7 (.step 8 (.step 9 (.early 10 (.early 11 (.step 12 .done)))))))))))))) (sQ (hC (.reg [(0,16777216,1),(0,33554432,1),(2,67108864,33554432),(4,134217728,67108864),(8,268435456,134217728),(0,536870912,8),(32,1073741824,536870912),(64,2147483648,1073741824),(128,4294967296,2147483648),(272,8589934592,4563402752),(1023,17179869184,16777216),(2047,34359738368,17179869184),(3071,0,42949672960)] [80,80,80,80,64,80,16,80,16,0,80,80,0] (.early 0 (.early 1 (.early 2 (.early 3 (.early 5 (.load 4 (.load 6 (.early 7 (.step 8 (.step 9 (.early 10 (.early 11 (.step 12 .done)))))))))))))) hN)))))) (sQ (hB (hL [39] (sQ (hS (hC hN hN) (hS (hB (sQ hN)) hN))))))))
theorem d0B{x0 x1:Value}(h:F49 x0 x1 w R E):Cv pG 49 #[x0,x1] w R E:=okF (h:=h49) Tryz.func49 (by kernel_rfl) (by kernel_rfl) h
def b8J(x0 x3 x4 w)(R:RT)(E):=
 ∀_τ:Fr,(dX w fun a=>
 qP pG (xNil x0) fun f=>
 qP pG (fA 56 f 4) fun b=>
 qP pG (fA 104 x3 1) fun c=>
 qL pG a (blk b) (lA 53 b) fun d=>
 qL pG a (blk c) (lA 9 c) fun g=>
 qL pG a (blk d) (xV (Instr.lookup 53 d g false)) fun i=>
 qP pG (xNil i) fun j=>
 oP E (sA 2 j x4) a fun _ e=>
 keepX [] a e (R (Value.tuple #[]) e))
def c3l(x0 x3 w)(next2:NT)(R:RT)(E):=
 opK pG E (fA 104 x3 3) w fun b c=>
 oP E (lA 102 b) c fun d e=>
 oP E (iA 102 d (vI 0)) e fun f g=>
 oP E (lA 122 f) g fun i j=>
 oP E (xCall (fC 87) [x0,i]) j fun k a=>
 xcond k
 (oP E (fA 104 x3 4) a fun l m=>
 oP E (lA 23 l) m fun n o=>
 oP E (xCall (fC 25) [x0,n]) o fun _t90_119 p=>
 next2 [] p)
 (R (Value.tuple #[]) a)
def F50(x0 x1 w)(R:RT)(E):=
 opK pG E (xV (Instr.box 104 x1)) w fun a p=>
 oP E (fA 104 a 0) p fun q r=>
 oP E (lA 3 q) r fun b s=>
 oP E (bC .eql 3 10 b (vI 1)) s fun t c=>
 xcond t
 (oP E (fA 104 a 2) c fun u v=>
 oP E (lA 101 u) v fun y z=>
 oP E (iA 101 y (vI 0)) z fun aa ab=>
 oP E (lA 125 aa) ab fun ac ad=>
 oP E (xCall (fC 83) [x0,ac]) ad fun d ae=>
 oP E (xT d 0) ae fun af ag=>
 oP E (xT d 1) ag fun ah e=>
 xcut (fun ai aj=>b8J x0 a (nth ai 0) aj R E) fun j1=>
 xcond ah
 (oP E (xCall (fC 84) [x0]) e fun _t26_35 ak=>
 j1 [af] ak)
 (oP E (fA 104 a 2) e fun al am=>
 oP E (lA 101 al) am fun an ao=>
 oP E (iA 101 an (vI 0)) ao fun ap aq=>
 oP E (lA 125 ap) aq fun ar au=>
 oP E (xCall (fC 85) [x0,ar]) au fun av aw=>
 j1 [av] aw))
 (oP E (bC .eql 3 10 b (vI 2)) c fun ax f=>
 xcond ax
 (oP E (fA 104 a 2) f fun ay az=>
 oP E (lA 101 ay) az fun ba bb=>
 oP E (iA 101 ba (vI 0)) bb fun bc bd=>
 oP E (lA 125 bc) bd fun be bf=>
 oP E (xCall (fC 85) [x0,be]) bf fun bg bh=>
 oP E (fA 104 a 2) bh fun bi bj=>
 oP E (lA 101 bi) bj fun bk bl=>
 oP E (iA 101 bk (vI 1)) bl fun bm bn=>
 oP E (lA 125 bm) bn fun bo bp=>
 oP E (xCall (fC 85) [x0,bo]) bp fun bq br=>
 oP E (fA 104 a 1) br fun bs bt=>
 oP E (lA 9 bs) bt fun bu bv=>
 oP E (xCall (fC 86) [x0,bu,bg]) bv fun bw bz=>
 oP E (xNil bw) bz fun ca cb=>
 oP E (sA 2 ca bq) cb fun _ cc=>
 R (Value.tuple #[]) cc)
 (oP E (bC .eql 3 10 b (vI 3)) f fun cd g=>
 xcond cd
 (oP E (fA 104 a 3) g fun ce cf=>
 oP E (lA 102 ce) cf fun cg ch=>
 oP E (iA 102 cg (vI 0)) ch fun ci cj=>
 oP E (lA 122 ci) cj fun ck cl=>
 oP E (xCall (fC 87) [x0,ck]) cl fun cm i=>
 xcond cm
 (oP E (fA 104 a 4) i fun cn co=>
 oP E (lA 23 cn) co fun cp cq=>
 oP E (xCall (fC 25) [x0,cp]) cq fun _t74_95 cr=>
 R (Value.tuple #[]) cr)
 (oP E (fA 104 a 5) i fun cs ct=>
 oP E (lA 23 cs) ct fun cu cv=>
 oP E (xCall (fC 25) [x0,cu]) cv fun _t78_101 cw=>
 R (Value.tuple #[]) cw))
 (oP E (bC .eql 3 10 b (vI 4)) g fun cx j=>
 xcond cx
 (xloop [] [] j fun _ cy next2=>
 c3l x0 a cy next2 R E)
 (oP E (bC .eql 3 10 b (vI 6)) j fun cz k=>
 xcond cz
 (oP E (fA 104 a 3) k fun da db=>
 oP E (lA 102 da) db fun dc dd=>
 oP E (iA 102 dc (vI 0)) dd fun de df=>
 oP E (lA 122 de) df fun dg dh=>
 oP E (xCall (fC 87) [x0,dg]) dh fun di dj=>
 oP E (xV (Op.unary .not di)) dj fun dk l=>
 xcond dk
 (oP E (xCall (fC 88) [x0,(vI 2),(vI 0)]) l fun _t101_137 dl=>
 R (Value.tuple #[]) dl)
 (R (Value.tuple #[]) l))
 (oP E (bC .eql 3 10 b (vI 5)) k fun dm m=>
 xcond dm
 (oP E (fA 104 a 3) m fun dn dp=>
 oP E (lA 102 dn) dp fun dq dr=>
 oP E (iA 102 dq (vI 0)) dr fun ds dt=>
 oP E (lA 122 ds) dt fun du dv=>
 oP E (xCall (fC 87) [x0,du]) dv fun n dw=>
 oP E (xCall (fC 84) [x0]) dw fun _t111_151 dx=>
 oP E (xNil x0) dx fun dy dz=>
 oP E (fA 56 dy 3) dz fun ea eb=>
 oP E (lA 29 ea) eb fun ec ed=>
 oP E (xV (Instr.build 87 #[(2,n)])) ed fun ee ef=>
 oP E (xV (Instr.buildSlice 29 1 #[(0,ee)])) ef fun eg eh=>
 oP E (xBuiltin .append #[29,29] 29 [false,false] [ec,eg]) eh fun ei ej=>
 oP E (xNil x0) ej fun ek el=>
 oP E (fA 56 ek 3) el fun em en=>
 oP E (sA 29 em ei) en fun _ eo=>
 oP E (xV (Op.unary .not n)) eo fun ep o=>
 xcond ep
 (oP E (xCall (fC 89) [x0,(vI 4)]) o fun _t126_173 eq=>
 R (Value.tuple #[]) eq)
 (R (Value.tuple #[]) o))
 (oP E (xCall (fC 84) [x0]) m fun _t12_175 er=>
 R (Value.tuple #[]) er))))))
def h50:Hint:=(sQ (sQ (hB (sQ (hC (sQ (hU [4] (sQ (hC hN hN)) (.reg [(0,8589934592,1),(1,17179869184,8589934592),(2,34359738368,17179869184),(4,68719476736,34359738368),(0,137438953472,8),(16,274877906944,137438953472),(40,549755813888,343597383680),(0,1099511627776,16),(255,2199023255552,549755813888),(511,0,3298534883328)] [104,104,104,96,104,72,40,104,104,0] (.early 0 (.early 1 (.early 2 (.early 4 (.early 7 (.load 3 (.load 5 (.load 6 (.early 8 (.step 9 .done))))))))))))) (sQ (hC (sQ (sQ hN)) (sQ (hC (sQ (hC hN hN)) (sQ (hC (hB (hL [] (hS (sQ (hC hN hN)) (hB hN)))) (sQ (hC (sQ (hC hN hN)) (sQ (hC (sQ (sQ (sQ (sQ (hC hN hN))))) hN)))))))))))))))
theorem d0C{x0 x1:Value}(h:F50 x0 x1 w R E):Cv pG 50 #[x0,x1] w R E:=okF (h:=h50) Tryz.func50 (by kernel_rfl) (by kernel_rfl) h
def c3m(x0 x5 w)(R:RT)(E):=
 ∀_τ:Fr,(oP E (xV (Instr.sliceAt 22 x0 (some x5) none none)) w fun a b=>
 oP E (xBuiltin .clear #[22] 0 [false] [a]) b fun _ c=>
 oP E (xV (Instr.sliceAt 22 x0 none (some x5) none)) c fun d e=>
 R d e)
def b8K(_x0 _x1 x5 x6:Value)(w)(next2:NT)(_R:RT)(E):=
 ∀_τ:Fr,(oP E (bC .add 3 20 x6 (vI 1)) w fun a b=>
 next2 [x5,a] b)
def c3n(x0 x1 x5 x6 w)(next2:NT)(j1:NT)(R:RT)(E):=
 opK pG E (xBuiltin .len #[22] 3 [false] [x0]) w fun d e=>
 oP E (bN .lss 3 16 18 x6 d) e fun f b=>
 xcond f
 (xcut (fun g i=>b8K x0 x1 (nth g 0) x6 i next2 R E) fun j3=>
 oP E (iA 22 x0 x6) b fun j k=>
 oP E (lA 58 j) k fun l m=>
 oP E (xV (Instr.alloc 58 true (.tuple #[]))) m fun a n=>
 oP E (sA 58 a l) n fun _ o=>
 oP E (lA 58 a) o fun p q=>
 oP E (xCall x1 [p]) q fun r s=>
 oP E (xV (Op.unary .not r)) s fun t c=>
 xcond t
 (oP E (lA 58 a) c fun u v=>
 oP E (iA 22 x0 x5) v fun y z=>
 oP E (sA 58 y u) z fun _ aa=>
 oP E (bC .add 3 34 x5 (vI 1)) aa fun ab ac=>
 j3 [ab] ac)
 (j3 [x5] c))
 (j1 [x5] b)
def F51(x0 x1 w)(R:RT)(E):=
 opK pG E (xCall (fC 90) [x0,x1]) w fun a d=>
 oP E (bC .eql 3 11 a (vI (-1))) d fun e b=>
 xcond e
 (R x0 b)
 (xcut (fun f g=>c3m x0 (nth f 0) g R E) fun j1=>
 oP E (bC .add 3 14 a (vI 1)) b fun i j=>
 xloop [5,6] [a,i] j fun c k next2=>
 c3n x0 x1 (c 5) (c 6) k next2 j1 R E)
def h51:Hint:=(sQ (sQ (hS (sQ (hC (sQ hN) hN)) (hU [5] (sQ (hB (hL [5,6] (hS (sQ (hC hN hN)) (hU [5] (hB (sQ (sQ (hC (sQ hN) hN)))) hN))))) (sQ (sQ hN))))))
theorem d0D{x0 x1:Value}(h:F51 x0 x1 w R E):Cv pG 51 #[x0,x1] w R E:=okF (h:=h51) Tryz.func51 (by kernel_rfl) (by kernel_rfl) h
def F52(x0 w)(R:RT)(E):=
 opK pG E (bC .eql 22 3 x0 (nS)) w fun b a=>
 xcond b
 (R (nS) a)
 (oP E (xV (Instr.buildSlice 22 0 #[])) a fun c d=>
 oP E (xBuiltin .append #[22,22] 22 [false,false] [c,x0]) d fun e f=>
 R e f)
def h52:Hint:=(sQ (hS (sQ (hC (sQ hN) hN)) (sQ hN)))
theorem d0E{x0:Value}(h:F52 x0 w R E):Cv pG 52 #[x0] w R E:=okF (h:=h52) Tryz.func52 (by kernel_rfl) (by kernel_rfl) h
def F53(x0 x1 w)(R:RT)(E):=
 opK pG E (xV (Instr.box 58 x0)) w fun b d=>
 dX d fun a=>
 qL pG a (blk b) (lA 58 b) fun e=>
 qL pG a (blk x1) (lA 3 x1) fun f=>
 oP E (xCall (fC 47) [e]) a fun g c=>
 keepX [(blk x1)] a c (qP pG (bN .neq 3 5 6 g f) fun i=>
 R i c)
def h53:Hint:=(sQ (hS (.reg [(0,16,4),(1,32,16),(0,64,2),(6,128,96),(15,8,128)] [4,4,1,5,5] (.load 0 (.load 2 (.step 1 (.early 3 (.early 4 .done)))))) hN))
theorem d0F{x0 x1:Value}(h:F53 x0 x1 w R E):Cv pG 53 #[x0,x1] w R E:=okF (h:=h53) Tryz.func53 (by kernel_rfl) (by kernel_rfl) h
end Go.Proofs.YthaaobpfbgcfiaaGreatDoor
