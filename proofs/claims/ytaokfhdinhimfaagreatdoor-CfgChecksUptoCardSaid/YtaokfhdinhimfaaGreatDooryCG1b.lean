/- The second reading of some of the program's functions, printed by gen2.py off the code; each is held against the code by the kernel. -/
import Derived.KernelRfl
import Derived.Test.YtaokfhdinhimfaaGreatDooryCGz
namespace Go.Proofs.YtaokfhdinhimfaaGreatDoor
open Go.RowKit
set_option maxRecDepth 100000
variable {w:World}{R:RT}{E:Pan}
def b8A(x3 x4 w)(R:RT)(E):=
 ∀_τ:Fr,(dX w fun a=>
 qP pG (fA 40 x3 2) fun g=>
 qL pG a (blk g) (lA 3 g) fun p=>
 qP pG (bC .eql 3 25 p (vI 12)) fun e=>
 qP pG (gYs e (fA 40 x4 2)) fun i=>
 qL pG a (blk i) (gYs e (lA 3 i)) fun q=>
 qP pG (gYs e (bC .eql 3 29 q (vI 12))) fun r=>
 qP pG (xPick e r (vB false)) fun c=>
 qP pG (gYs c (fA 40 x3 6)) fun j=>
 qP pG (gYs c (fA 40 x4 6)) fun k=>
 qL pG a (blk j) (gYs c (lA 38 j)) fun s=>
 qL pG a (blk k) (gYs c (lA 38 k)) fun t=>
 qP pG (gYs c (bN .eql 38 34 36 s t)) fun u=>
 qP pG (xPick c u (vB false)) fun d=>
 qP pG (gYs d (fA 40 x3 7)) fun l=>
 qP pG (gYs d (fA 40 x4 7)) fun m=>
 qL pG a (blk l) (gYs d (lA 38 l)) fun v=>
 qL pG a (blk m) (gYs d (lA 38 m)) fun y=>
 qP pG (gYs d (bN .eql 38 41 43 v y)) fun z=>
 qP pG (xPick d z (vB false)) fun b=>
 qP pG (gYs b (fA 40 x4 5)) fun f=>
 qP pG (gYs b (fA 40 x3 5)) fun n=>
 qL pG a (blk f) (gYs b (lA 3 f)) fun aa=>
 qL pG a (blk n) (gYs b (lA 3 n)) fun ab=>
 oP E (gYs b (xCall (fC 59) [ab])) a fun ac o=>
 keepX [(blk f)] a o (qP pG (gYs b (bN .eql 3 48 51 aa ac)) fun ad=>
 qP pG (xPick b ad (vB false)) fun ae=>
 R ae o))
def F42(x0 w)(R:RT)(E):=
 opK pG E (xBuiltin .len #[28] 3 [false] [x0]) w fun d z=>
 oP E (bC .eql 3 6 d (vI 0)) z fun aa l=>
 xcond aa
 (R (vB true) l)
 (oP E (bC .eql 3 6 d (vI 1)) l fun ab m=>
 xcond ab
 (oP E (iA 28 x0 (vI 0)) m fun ac ad=>
 oP E (fA 40 ac 2) ad fun ae af=>
 oP E (lA 3 ae) af fun ag ah=>
 oP E (bC .neq 3 14 ag (vI 12)) ah fun ai aj=>
 R ai aj)
 (oP E (bC .eql 3 6 d (vI 2)) m fun ak n=>
 xcond ak
 (xcut (fun o al=>b8A (nth o 0) (nth o.tail 0) al R E) fun j1=>
 dX n fun b=>
 qP pG (iA 28 x0 (vI 0)) fun c=>
 qP pG (iA 28 x0 (vI 1)) fun a=>
 qL pG b (blk c) (lA 40 c) fun p=>
 qL pG b (blk a) (lA 40 a) fun q=>
 (oP E (xV (Instr.alloc 40 true (.tuple #[]))) b fun r e=>
 keepX [(blk a),(blk c)] b e (opK pG E (xV (Instr.alloc 40 true (.tuple #[]))) e fun s f=>
 keepX [(blk a),(blk c)] e f (opK pG E (sA 40 r p) f fun _ g=>
 keepX [(blk a)] f g (opK pG E (sA 40 s q) g fun _ t=>
 keepX [] g t (j1 [r,s] t)))))∧
 (oP E (xV (Instr.alloc 40 true (.tuple #[]))) b fun u i=>
 keepX [(blk a),(blk c)] b i (opK pG E (xV (Instr.alloc 40 true (.tuple #[]))) i fun v j=>
 keepX [(blk a),(blk c)] i j (opK pG E (sA 40 v p) j fun _ k=>
 keepX [(blk a)] j k (opK pG E (sA 40 u q) k fun _ y=>
 keepX [] k y (j1 [v,u] y))))))
 (R (vB false) n)))
def h42:Hint:=(sQ (hS (sQ (hB (sQ (hC (sQ hN) (sQ (hC (sQ hN) (sQ (hC (hU [3,4] (.reg [(0,262144,1),(1,524288,262144),(2,1048576,524288),(0,2097152,1),(8,4194304,2097152),(16,8388608,4194304),(0,8,0),(0,16,0),(199,0,1048584),(511,0,8388624)] [36,36,32,36,36,4,36,36,32,0] (.early 0 (.early 1 (.early 3 (.early 4 (.load 2 (.load 5 (.alt 6 (.step 7 (.step 8 (.step 9 .done))) (.step 7 (.step 6 (.step 8 (.step 9 .done)))))))))))) (hS (.reg [(0,16777216,8),(1,33554432,16777216),(2,67108864,33554432),(4,134217728,67108864),(8,268435456,134217744),(24,536870912,402653184),(40,1073741824,671088640),(72,2147483648,1207959552),(136,4294967296,2147483648),(256,8589934592,4294967304),(768,17179869184,12884901888),(256,34359738368,4294967312),(2304,68719476736,38654705664),(5376,137438953472,90194313216),(8448,274877906944,141733920768),(16640,549755813888,274877906944),(32768,1099511627776,549755813896),(98304,2199023255552,1649267441664),(32768,4398046511104,549755813904),(294912,8796093022208,4947802324992),(688128,17592186044416,11544872091648),(1081344,35184372088832,18141941858304),(2129920,70368744177664,35184372088832),(4194304,140737488355328,70368744177680),(12582912,281474976710656,211106232532992),(4194304,562949953421312,70368744177672),(37748736,1125899906842624,633318697598976),(71303168,2251799813685248,1196268651020288),(155189248,4503599627370496,2603643534573568),(272629760,9007199254740992,4573968371548160),(1073741823,4,9007199254740992)] [84546594,84546592,84546594,84546594,84546594,84546562,84546594,84546594,84546594,84546594,84545570,84546594,84542498,84546594,84546594,84546594,84546594,84415522,84546594,84022306,84546594,84546594,84546594,84546594,67769378,84546594,17437730,16777216,84546594,84546594,84546594] (.early 0 (.load 1 (.early 2 (.early 3 (.early 4 (.load 5 (.early 6 (.early 7 (.early 8 (.early 9 (.early 11 (.load 10 (.load 12 (.early 13 (.early 14 (.early 15 (.early 16 (.early 18 (.load 17 (.load 19 (.early 20 (.early 21 (.early 22 (.early 23 (.early 25 (.load 24 (.load 26 (.step 27 (.early 28 (.early 29 (.early 30 .done)))))))))))))))))))))))))))))))) hN)) hN)))))))) (sQ hN)))
theorem c7H{x0:Value}(h:F42 x0 w R E):Cv pG 42 #[x0] w R E:=okF (h:=h42) Tryz.func42 (by kernel_rfl) (by kernel_rfl) h
def b8B(x3 w)(R:RT)(E):=
 ∀_τ:Fr,(oP E (xCall (fC 60) [x3,(vI 0)]) w fun _t48_3 a=>
 R x3 a)
def c2u(x1 x3 x4 w)(next3:NT)(j2:NT)(_R:RT)(E):=
 opK pG E (fA 30 x1 5) w fun n o=>
 oP E (lA 28 n) o fun p q=>
 oP E (xBuiltin .len #[28] 3 [false] [p]) q fun r s=>
 oP E (bN .lss 3 14 17 x4 r) s fun t l=>
 xcond t
 (dX l fun a=>
 qP pG (xNil x3) fun u=>
 qP pG (fA 96 u 1) fun b=>
 qP pG (fA 30 x1 5) fun c=>
 qP pG (xNil x3) fun v=>
 qP pG (fA 96 v 1) fun e=>
 qP pG (fA 30 x1 5) fun f=>
 qL pG a (blk b) (lA 83 b) fun y=>
 qL pG a (blk c) (lA 28 c) fun z=>
 qP pG (iA 28 z x4) fun aa=>
 qP pG (fA 40 aa 0) fun d=>
 qL pG a (blk d) (lA 3 d) fun ab=>
 qL pG a (blk e) (lA 83 e) fun ac=>
 qL pG a (blk f) (lA 28 f) fun ad=>
 qP pG (iA 28 ad x4) fun ae=>
 qP pG (fA 40 ae 0) fun g=>
 qL pG a (blk g) (lA 3 g) fun af=>
 qP pG (iA 83 ac af) fun i=>
 qL pG a (blk i) (lA 44 i) fun ag=>
 oP E (xV (Instr.buildSlice 44 1 #[(0,x4)])) a fun ah j=>
 keepX [(blk i),(blk g),(blk f),(blk e),(blk d),(blk c),(blk b)] a j (opK pG E (xBuiltin .append #[44,44] 44 [false,false] [ag,ah]) j fun ai k=>
 keepX [(blk d),(blk c),(blk b)] j k (qP pG (iA 83 y ab) fun aj=>
 oP E (sA 44 aj ai) k fun _ m=>
 keepX [] k m (opK pG E (bC .add 3 19 x4 (vI 1)) m fun ak al=>
 next3 [ak] al))))
 (j2 [] l)
def b8C(x1 x3 w)(R:RT)(E):=
 ∀_τ:Fr,(xcut (fun _ a=>b8B x3 a R E) fun j2=>
 xloop [4] [(vI 0)] w fun b c next3=>
 c2u x1 x3 (b 4) c next3 j2 R E)
def F43(x0 w)(R:RT)(E):=
 opK pG E (xV (Instr.box 30 x0)) w fun a o=>
 xcut (fun p q=>b8C a (nth p 0) q R E) fun j1=>
 dX o fun b=>
 qP pG (fA 30 a 3) fun c=>
 qP pG (fA 30 a 3) fun d=>
 qL pG b (blk a) (lA 30 a) fun l=>
 qL pG b (blk c) (lA 3 c) fun e=>
 qL pG b (blk d) (lA 3 d) fun f=>
 (oP E (xV (Instr.makeSlice 83 e e)) b fun r g=>
 keepX [(blk d),(blk a)] b g (opK pG E (xV (Instr.makeSlice 47 f f)) g fun s i=>
 keepX [(blk c),(blk a)] g i (qP pG (xV (Instr.build 96 #[(0,l),(1,r),(2,s)])) fun t=>
 oP E (xV (Instr.box 96 t)) i fun u m=>
 keepX [] i m (j1 [u] m))))∧
 (oP E (xV (Instr.makeSlice 47 f f)) b fun v j=>
 keepX [(blk c),(blk a)] b j (opK pG E (xV (Instr.makeSlice 83 e e)) j fun y k=>
 keepX [(blk d),(blk a)] j k (qP pG (xV (Instr.build 96 #[(0,l),(1,y),(2,v)])) fun z=>
 oP E (xV (Instr.box 96 z)) k fun aa n=>
 keepX [] k n (j1 [aa] n))))
def h43:Hint:=(sQ (hU [3] (.reg [(0,32,2),(0,64,2),(2,128,64),(4,256,128),(0,512,2),(16,1024,512),(32,2048,1024),(73,4096,2336),(128,8192,4096),(511,8,8192)] [36,37,33,33,37,5,5,37,0,37] (.early 1 (.early 4 (.load 0 (.load 2 (.load 5 (.alt 3 (.step 6 (.early 7 (.step 8 (.early 9 .done)))) (.step 6 (.step 3 (.early 7 (.step 8 (.early 9 .done)))))))))))) (hU [] (sQ (hB (hL [4] (hS (sQ (hC hN hN)) (hS (hB (.reg [(0,2097152,8),(1,4194304,2097152),(2,8388608,4194304),(4,16777216,8388608),(0,33554432,2),(16,67108864,33554432),(0,134217728,16),(96,268435456,201326592),(128,536870912,268435456),(256,1073741824,536870912),(0,2147483648,8),(1024,4294967296,2147483648),(2048,8589934592,4294967296),(4096,17179869184,8589934592),(0,34359738368,2),(16384,68719476736,34359738368),(0,137438953472,16),(98304,274877906944,206158430208),(131072,549755813888,274877906944),(262144,1099511627776,549755813888),(532480,2199023255552,1116691496960),(1048576,4398046511104,2199023255552),(0,8796093022208,16),(4194304,17592186044416,8796093022208),(10485760,35184372088832,21990232555520),(33554431,70368744177664,1090519040),(67108863,0,105553116266496)] [2662952,2662952,2662952,2662944,2662952,2662920,2662952,2662952,2662952,2662440,2662952,2662952,2662952,2654760,2662952,2630184,2662952,2662952,2662952,2138664,2662952,565800,2662952,2662952,552,2662952,0] (.early 0 (.early 1 (.early 2 (.early 4 (.early 6 (.early 10 (.early 11 (.early 12 (.early 14 (.early 16 (.early 22 (.load 3 (.load 5 (.early 7 (.early 8 (.load 9 (.load 13 (.load 15 (.early 17 (.early 18 (.load 19 (.early 20 (.load 21 (.step 23 (.step 24 (.early 25 (.step 26 .done))))))))))))))))))))))))))))) hN))))) (sQ (sQ hN)))))
theorem c7I{x0:Value}(h:F43 x0 w R E):Cv pG 43 #[x0] w R E:=okF (h:=h43) Tryz.func43 (by kernel_rfl) (by kernel_rfl) h
def F44(x0 x1 w)(R:RT)(E):=
 opK pG E (xV (Instr.box 25 x0)) w fun a e=>
 oP E (xV (Instr.box 3 x1)) e fun f g=>
 oP E (lA 25 a) g fun i j=>
 oP E (xCall (fC 61) [i]) j fun b k=>
 oP E (xT b 0) k fun _t11_9 l=>
 oP E (xT b 1) l fun c m=>
 oP E (bC .neq 31 13 c (vI 0)) m fun n d=>
 xcond n
 (R (Value.tuple #[(nS),c]) d)
 (oP E (fA 25 a 0) d fun o p=>
 oP E (lA 22 o) p fun q r=>
 oP E (xCall (fC 63) [q]) r fun s t=>
 oP E (xV (Instr.makeFunc (.func 64) #[] #[f])) t fun u v=>
 oP E (xCall (fC 62) [s,u]) v fun y z=>
 R (Value.tuple #[y,(vI 0)]) z)
def h44:Hint:=(sQ (hS (sQ (sQ (hC (sQ hN) hN))) (sQ hN)))
theorem c7J{x0 x1:Value}(h:F44 x0 x1 w R E):Cv pG 44 #[x0,x1] w R E:=okF (h:=h44) Tryz.func44 (by kernel_rfl) (by kernel_rfl) h
def F45(x0 x1 x2 x3 w)(R:RT)(E):=
 opK pG E (xV (Instr.box 60 x1)) w fun a aj=>
 oP E (fA 60 a 0) aj fun ak al=>
 oP E (lA 3 ak) al fun c am=>
 oP E (bC .eql 3 15 c (vI 1)) am fun an i=>
 xcond an
 (dX i fun b=>
 qP pG (xNil x0) fun ao=>
 qP pG (fA 68 ao 1) fun j=>
 qP pG (fA 60 a 1) fun k=>
 qP pG (fA 60 a 2) fun l=>
 qL pG b (blk j) (lA 66 j) fun m=>
 qL pG b (blk k) (lA 9 k) fun ap=>
 qL pG b (blk m) (xV (Instr.lookup 66 m ap false)) fun aq=>
 qL pG b (blk l) (lA 57 l) fun ar=>
 qP pG (iA 57 ar (vI 0)) fun n=>
 qL pG b (blk n) (lA 123 n) fun au=>
 oP E (xCall (fC 66) [x0,aq,au,x2,x3]) b fun _t37_20 o=>
 keepX [] b o (R (Value.tuple #[]) o))
 (oP E (bC .eql 3 15 c (vI 2)) i fun av p=>
 xcond av
 (oP E (xCall (fC 67) [x2,x3,(vI 11)]) p fun aw ax=>
 oP E (xV (Instr.alloc 40 true (.tuple #[]))) ax fun d ay=>
 oP E (sA 40 d aw) ay fun _ az=>
 dX az fun e=>
 qP pG (xNil x0) fun ba=>
 qP pG (fA 68 ba 2) fun q=>
 qP pG (fA 60 a 1) fun r=>
 qL pG e (blk q) (lA 66 q) fun s=>
 qL pG e (blk r) (lA 9 r) fun bb=>
 qL pG e (blk s) (xV (Instr.lookup 66 s bb false)) fun bc=>
 qP pG (fA 40 d 4) fun bd=>
 oP E (sA 3 bd bc) e fun _ t=>
 keepX [] e t (opK pG E (fA 60 a 2) t fun be bf=>
 oP E (lA 57 be) bf fun bg bh=>
 oP E (xCall (fC 68) [x0,bg,x2,(vI 0)]) bh fun g bi=>
 oP E (xT g 0) bi fun bj bk=>
 oP E (xT g 1) bk fun bl bm=>
 oP E (xT g 2) bm fun bn bo=>
 oP E (fA 40 d 6) bo fun bp bq=>
 oP E (sA 38 bp bj) bq fun _ br=>
 oP E (fA 40 d 7) br fun bs bt=>
 oP E (sA 38 bs bl) bt fun _ bu=>
 oP E (fA 40 d 0) bu fun bv bw=>
 oP E (sA 3 bv bn) bw fun _ bz=>
 oP E (lA 40 d) bz fun ca cb=>
 oP E (xCall (fC 69) [x0,ca]) cb fun _t65_66 cc=>
 R (Value.tuple #[]) cc))
 (oP E (bC .eql 3 15 c (vI 3)) p fun cd u=>
 xcond cd
 (oP E (fA 60 a 4) u fun ce cf=>
 oP E (lA 23 ce) cf fun cg ch=>
 oP E (xCall (fC 70) [x0,cg,x3]) ch fun v ci=>
 oP E (fA 60 a 5) ci fun cj ck=>
 oP E (lA 23 cj) ck fun cl cm=>
 oP E (xCall (fC 70) [x0,cl,x3]) cm fun y cn=>
 oP E (fA 60 a 3) cn fun co cp=>
 oP E (lA 58 co) cp fun cq cr=>
 oP E (iA 58 cq (vI 0)) cr fun cs ct=>
 oP E (lA 131 cs) ct fun cu cv=>
 oP E (xCall (fC 71) [x0,cu,x2,v,y]) cv fun _t86_90 cw=>
 oP E (fA 60 a 4) cw fun cx cy=>
 oP E (lA 23 cx) cy fun cz da=>
 oP E (xCall (fC 24) [x0,cz,v,x3]) da fun _t92_96 db=>
 oP E (fA 60 a 5) db fun dc dd=>
 oP E (lA 23 dc) dd fun de df=>
 oP E (xCall (fC 24) [x0,de,y,x3]) df fun _t98_102 dg=>
 R (Value.tuple #[]) dg)
 (oP E (bC .eql 3 15 c (vI 4)) u fun dh z=>
 xcond dh
 (oP E (fA 60 a 4) z fun di dj=>
 oP E (lA 23 di) dj fun dk dl=>
 oP E (xCall (fC 70) [x0,dk,x2]) dl fun aa dm=>
 oP E (fA 60 a 3) dm fun dn dp=>
 oP E (lA 58 dn) dp fun dq dr=>
 oP E (iA 58 dq (vI 0)) dr fun ds dt=>
 oP E (lA 131 ds) dt fun du dv=>
 oP E (xCall (fC 71) [x0,du,x2,aa,x3]) dv fun _t114_120 dw=>
 oP E (fA 60 a 4) dw fun dx dy=>
 oP E (lA 23 dx) dy fun dz ea=>
 oP E (xCall (fC 24) [x0,dz,aa,x2]) ea fun _t120_126 eb=>
 R (Value.tuple #[]) eb)
 (oP E (bC .eql 3 15 c (vI 5)) z fun ec ab=>
 xcond ec
 (oP E (xCall (fC 23) [x0]) ab fun ac ed=>
 oP E (xCall (fC 23) [x0]) ed fun ad ee=>
 oP E (fA 60 a 3) ee fun ef eg=>
 oP E (lA 58 ef) eg fun eh ei=>
 oP E (iA 58 eh (vI 0)) ei fun ej ek=>
 oP E (lA 131 ej) ek fun el em=>
 oP E (xCall (fC 71) [x0,el,x2,ac,ad]) em fun _t135_142 en=>
 oP E (xCall (fC 67) [ac,x3,(vI 13)]) en fun eo ep=>
 oP E (xCall (fC 69) [x0,eo]) ep fun _t140_146 eq=>
 oP E (xCall (fC 67) [ad,x3,(vI 14)]) eq fun er es=>
 oP E (xCall (fC 69) [x0,er]) es fun _t145_150 et=>
 R (Value.tuple #[]) et)
 (oP E (bC .eql 3 15 c (vI 6)) ab fun eu ae=>
 xcond eu
 (dX ae fun f=>
 qP pG (fA 60 a 3) fun af=>
 qP pG (xNil x0) fun ev=>
 qP pG (fA 68 ev 0) fun ew=>
 qP pG (fA 30 ew 4) fun ag=>
 qL pG f (blk af) (lA 58 af) fun ex=>
 qP pG (iA 58 ex (vI 0)) fun ah=>
 qL pG f (blk ah) (lA 131 ah) fun ey=>
 qL pG f (blk ag) (lA 3 ag) fun ez=>
 oP E (xCall (fC 71) [x0,ey,x2,x3,ez]) f fun _t160_163 ai=>
 keepX [] f ai (R (Value.tuple #[]) ai))
 (oP E (xCall (fC 67) [x2,x3,(vI 1)]) ae fun fa fb=>
 oP E (xCall (fC 69) [x0,fa]) fb fun _t20_167 fc=>
 R (Value.tuple #[]) fc))))))
def h45:Hint:=(sQ (sQ (hB (sQ (hC (.reg [(0,8388608,1),(0,16777216,1),(2,33554432,16777216),(4,67108864,33554432),(8,134217728,67108864),(0,268435456,32),(32,536870912,268435456),(80,1073741824,671088640),(0,2147483648,32),(256,4294967296,2147483648),(512,8589934592,4294967296),(1024,17179869184,8589934592),(0,34359738368,4),(0,68719476736,8),(14465,137438953472,121341214720)] [2768,2768,2768,2768,2752,2768,2704,2640,2768,2256,2768,720,2768,2768,0] (.early 0 (.early 1 (.early 2 (.early 3 (.early 5 (.early 8 (.early 12 (.early 13 (.load 4 (.load 6 (.load 7 (.load 9 (.early 10 (.load 11 (.step 14 .done)))))))))))))))) (sQ (hC (sQ (hS (.reg [(0,8796093022208,1),(1,17592186044416,8796093022208),(2,35184372088832,17592186044416),(4,70368744177664,35184372088832),(0,140737488355328,32),(16,281474976710656,140737488355328),(40,562949953421312,351843720888320),(127,1125899906842624,256),(255,0,1688849860263936)] [104,104,104,96,104,72,40,104,0] (.early 0 (.early 1 (.early 2 (.early 4 (.load 3 (.load 5 (.load 6 (.early 7 (.step 8 .done)))))))))) (sQ hN))) (sQ (hC (sQ (sQ (sQ (sQ hN)))) (sQ (hC (sQ (sQ hN)) (sQ (hC (sQ (sQ (sQ hN))) (sQ (hC (.reg [(0,356811923176489970264571492362373784095686656,1),(0,713623846352979940529142984724747568191373312,32),(2,1427247692705959881058285969449495136382746624,713623846352979940529142984724747568191373312),(4,2854495385411919762116571938898990272765493248,1427247692705959881058285969449495136382746624),(8,5708990770823839524233143877797980545530986496,2854495385411919762116571938898990272765493248),(0,11417981541647679048466287755595961091061972992,4),(0,22835963083295358096932575511191922182123945984,8),(0,45671926166590716193865151022383844364247891968,1),(128,91343852333181432387730302044767688728495783936,45671926166590716193865151022383844364247891968),(256,182687704666362864775460604089535377456991567872,91343852333181432387730302044767688728495783936),(512,365375409332725729550921208179070754913983135744,182687704666362864775460604089535377456991567872),(1024,730750818665451459101842416358141509827966271488,365375409332725729550921208179070754913983135744),(2161,1461501637330902918203684832716283019655932542976,771070565984394825741738994995089747430778863616)] [2068,2068,2064,2068,2052,2068,2068,2068,2068,2068,2068,20,0] (.early 0 (.early 1 (.early 5 (.early 6 (.early 7 (.early 8 (.early 9 (.early 10 (.load 2 (.early 3 (.load 4 (.load 11 (.step 12 .done)))))))))))))) hN)))))))))))))))
theorem c7K{x0 x1 x2 x3:Value}(h:F45 x0 x1 x2 x3 w R E):Cv pG 45 #[x0,x1,x2,x3] w R E:=okF (h:=h45) Tryz.func45 (by kernel_rfl) (by kernel_rfl) h
def h48:Hint:=(sQ (sQ hN))
def F51(x0 x1 x2 w)(R:RT)(E):=
 opK pG E (xV (Instr.box 38 x0)) w fun b i=>
 oP E (xV (Op.unary .not x1)) i fun j f=>
 xcond j
 (dX f fun e=>
 qL pG e (blk b) (lA 38 b) fun k=>
 oP E (xCall (fC 91) []) e fun l g=>
 keepX [(blk b)] e g (qP pG (bN .eql 38 9 10 k l) fun m=>
 R m g))
 (oP E (fA 38 b 0) f fun n o=>
 oP E (lA 3 n) o fun p q=>
 oP E (bC .eql 3 13 p (vI (-1))) q fun a r=>
 oP E (gNo a (fA 38 b 0)) r fun s t=>
 oP E (gNo a (lA 3 s)) t fun u v=>
 oP E (gNo a (bC .geq 3 17 u (vI 0))) v fun c y=>
 oP E (gsem (asB (zF a c)) true (fA 38 b 0)) y fun z aa=>
 oP E (gsem (asB (zF a c)) true (lA 3 z)) aa fun ab ac=>
 oP E (gsem (asB (zF a c)) true (bN .lss 3 21 22 ab (gval (asB (zF a c)) true x2))) ac fun ad ae=>
 oP E (gNo a (xPick (zF a c) ad (vB false))) ae fun d af=>
 oP E (gsem (asB (zF a d)) true (fA 38 b 1)) af fun ag ah=>
 oP E (gsem (asB (zF a d)) true (lA 2 ag)) ah fun ai aj=>
 oP E (gsem (asB (zF a d)) true (bC .eql 2 27 ai (vI 0))) aj fun ak al=>
 oP E (gNo a (xPick (zF a d) ak (vB false))) al fun am an=>
 oP E (xPick a (vB true) am) an fun ao ap=>
 R ao ap)
def h51:Hint:=(sQ (hS (sQ (hC (hS (.reg [(0,512,8),(0,1024,0),(3,2048,1536),(7,64,2048)] [0,1,1,1] (.load 0 (.step 1 (.early 2 (.early 3 .done))))) hN) hN)) (sQ hN)))
theorem c7L{x0 x1 x2:Value}(h:F51 x0 x1 x2 w R E):Cv pG 51 #[x0,x1,x2] w R E:=okF (h:=h51) Tryz.func51 (by kernel_rfl) (by kernel_rfl) h
def F52(x0 w)(R:RT)(E):=
 opK pG E (bC .eql 3 3 x0 (vI 1)) w fun g a=>
 xcond g
 (R (vI 6) a)
 (oP E (bC .eql 3 3 x0 (vI 2)) a fun i b=>
 xcond i
 (R (vI 5) b)
 (oP E (bC .eql 3 3 x0 (vI 3)) b fun j c=>
 xcond j
 (R (vI 4) c)
 (oP E (bC .eql 3 3 x0 (vI 4)) c fun k d=>
 xcond k
 (R (vI 3) d)
 (oP E (bC .eql 3 3 x0 (vI 5)) d fun l e=>
 xcond l
 (R (vI 2) e)
 (oP E (bC .eql 3 3 x0 (vI 6)) e fun m f=>
 xcond m
 (R (vI 1) f)
 (R (vI 0) f))))))
def h52:Hint:=(sQ (hS (sQ (hB (sQ (hC (sQ hN) (sQ (hC (sQ hN) (sQ (hC (sQ hN) (sQ (hC (sQ hN) (sQ (hC (sQ hN) (sQ (hC (sQ hN) hN)))))))))))))) (sQ hN)))
theorem c7M{x0:Value}(h:F52 x0 w R E):Cv pG 52 #[x0] w R E:=okF (h:=h52) Tryz.func52 (by kernel_rfl) (by kernel_rfl) h
def b8D(x2 x3 w)(R:RT)(E):=
 ∀_τ:Fr,(oP E (lA 110 x3) w fun b c=>
 oP E (sA 110 x2 b) c fun _ a=>
 xcell pG 110 x2 a fun d=>
 R d a)
def b8E(x2 x3 x5 x11 w)(j1:NT)(R:RT)(E):=
 ∀_τ:Fr,(xcond x11
 (oP E (fA 110 x3 0) w fun g i=>
 oP E (sA 4 g (vB true)) i fun _ j=>
 oP E (fA 110 x3 4) j fun k l=>
 oP E (sA 4 k (vB true)) l fun _ m=>
 j1 [] m)
 (oP E (bC .eql 3 5 x5 (vI 9)) w fun n a=>
 xcond n
 (oP E (xV (Instr.build 110 #[(0,(vB true))])) a fun o p=>
 oP E (sA 110 x2 o) p fun _ b=>
 xcell pG 110 x2 b fun q=>
 R q b)
 (oP E (bC .eql 3 5 x5 (vI 10)) a fun r c=>
 xcond r
 (oP E (fA 110 x3 0) c fun s t=>
 oP E (sA 4 s (vB true)) t fun _ u=>
 oP E (fA 110 x3 1) u fun v y=>
 oP E (sA 4 v (vB true)) y fun _ z=>
 j1 [] z)
 (oP E (bC .eql 3 5 x5 (vI 11)) c fun aa d=>
 xcond aa
 (oP E (fA 110 x3 1) d fun ab ac=>
 oP E (sA 4 ab (vB true)) ac fun _ ad=>
 oP E (fA 110 x3 4) ad fun ae af=>
 oP E (sA 4 ae (vB true)) af fun _ ag=>
 j1 [] ag)
 (oP E (bC .eql 3 5 x5 (vI 12)) d fun ah e=>
 xcond ah
 (oP E (fA 110 x3 2) e fun ai aj=>
 oP E (sA 4 ai (vB true)) aj fun _ ak=>
 oP E (fA 110 x3 4) ak fun al am=>
 oP E (sA 4 al (vB true)) am fun _ an=>
 j1 [] an)
 (oP E (xV (Instr.build 110 #[])) e fun ao ap=>
 oP E (sA 110 x2 ao) ap fun _ f=>
 xcell pG 110 x2 f fun aq=>
 R aq f))))))
def b8F(x2 x3 x5 x7 w)(j1:NT)(R:RT)(E):=
 ∀_τ:Fr,(xcond x7
 (oP E (fA 110 x3 0) w fun j k=>
 oP E (sA 4 j (vB true)) k fun _ l=>
 j1 [] l)
 (xcut (fun m n=>b8E x2 x3 x5 (nth m 0) n j1 R E) fun j3=>
 oP E (bC .eql 3 5 x5 (vI 4)) w fun a b=>
 xcond a
 (j3 [a] b)
 (oP E (bC .eql 3 5 x5 (vI 5)) b fun c d=>
 xcond c
 (j3 [c] d)
 (oP E (bC .eql 3 5 x5 (vI 6)) d fun e f=>
 xcond e
 (j3 [e] f)
 (oP E (bC .eql 3 5 x5 (vI 7)) f fun g i=>
 xcond g
 (j3 [g] i)
 (oP E (bC .eql 3 5 x5 (vI 8)) i fun o p=>
 j3 [o] p))))))
def F53(x0 w)(R:RT)(E):=
 opK pG E (xV (Instr.alloc 110 true (.tuple #[]))) w fun b e=>
 oP E (xV (Instr.build 110 #[(3,(vB true))])) e fun f g=>
 oP E (xV (Instr.alloc 110 true (.tuple #[]))) g fun a i=>
 oP E (sA 110 a f) i fun _ j=>
 xcut (fun _ k=>b8D b a k R E) fun j1=>
 xcut (fun l m=>b8F b a x0 (nth l 0) m j1 R E) fun j2=>
 oP E (bC .eql 3 5 x0 (vI 2)) j fun c d=>
 xcond c
 (j2 [c] d)
 (oP E (bC .eql 3 5 x0 (vI 3)) d fun n o=>
 j2 [n] o)
def h53:Hint:=(sQ (sQ (hU [] (sQ (hB (hU [7] (sQ (hC hN hN)) (hC hN (hU [11] (sQ (hC hN (sQ (hC hN (sQ (hC hN (sQ (hC hN hN)))))))) (hC hN (sQ (hC (sQ hN) (sQ (hC hN (sQ (hC hN (sQ (hC hN (sQ hN))))))))))))))) (sQ hN))))
theorem c7N{x0:Value}(h:F53 x0 w R E):Cv pG 53 #[x0] w R E:=okF (h:=h53) Tryz.func53 (by kernel_rfl) (by kernel_rfl) h
def F54(x0 x1 x2 w)(R:RT)(_E:Pan):=
 xcond x0
 (R x1 w)
 (R x2 w)
def h54:Hint:=(sQ (hS (sQ (hC (sQ hN) hN)) (sQ hN)))
theorem c7O{x0 x1 x2:Value}(h:F54 x0 x1 x2 w R E):Cv pG 54 #[x0,x1,x2] w R E:=okF (h:=h54) Tryz.func54 (by kernel_rfl) (by kernel_rfl) h
def F55(x0 x1 w)(R:RT)(E):=
 opK pG E (xV (Instr.box 90 x0)) w fun b c=>
 oP E (bC .geq 3 5 x1 (vI 0)) c fun a d=>
 oP E (gYs a (fA 90 b 0)) d fun e f=>
 oP E (gYs a (fA 30 e 0)) f fun g i=>
 oP E (gYs a (lA 27 g)) i fun j k=>
 oP E (gYs a (xBuiltin .len #[27] 3 [false] [j])) k fun l m=>
 oP E (gYs a (fA 90 b 0)) m fun n o=>
 oP E (gYs a (fA 30 n 1)) o fun p q=>
 oP E (gYs a (lA 3 p)) q fun r s=>
 oP E (gYs a (bN .add 3 12 15 l r)) s fun t u=>
 oP E (gYs a (bN .lss 3 8 16 (zT a x1) t)) u fun v y=>
 oP E (xPick a v (vB false)) y fun z aa=>
 R z aa
def h55:Hint:=(sQ (sQ hN))
theorem c7P{x0 x1:Value}(h:F55 x0 x1 w R E):Cv pG 55 #[x0,x1] w R E:=okF (h:=h55) Tryz.func55 (by kernel_rfl) (by kernel_rfl) h
def F56(x0 x1 w)(R:RT)(E):=
 opK pG E (xV (Instr.box 90 x0)) w fun b c=>
 oP E (bC .geq 3 5 x1 (vI 0)) c fun a d=>
 oP E (gYs a (fA 90 b 0)) d fun e f=>
 oP E (gYs a (fA 30 e 2)) f fun g i=>
 oP E (gYs a (lA 22 g)) i fun j k=>
 oP E (gYs a (xBuiltin .len #[22] 3 [false] [j])) k fun l m=>
 oP E (gYs a (bN .lss 3 8 12 (zT a x1) l)) m fun n o=>
 oP E (xPick a n (vB false)) o fun p q=>
 R p q
def h56:Hint:=(sQ (sQ hN))
theorem c7Q{x0 x1:Value}(h:F56 x0 x1 w R E):Cv pG 56 #[x0,x1] w R E:=okF (h:=h56) Tryz.func56 (by kernel_rfl) (by kernel_rfl) h
def F57(x0 x1 w)(R:RT)(E):=
 opK pG E (xV (Instr.box 90 x0)) w fun d e=>
 oP E (xV (Instr.box 38 x1)) e fun c f=>
 oP E (fA 38 c 0) f fun g i=>
 oP E (lA 3 g) i fun j k=>
 oP E (bC .eql 3 6 j (vI (-1))) k fun a l=>
 oP E (gNo a (lA 90 d)) l fun m n=>
 oP E (gNo a (fA 38 c 0)) n fun o p=>
 oP E (gNo a (lA 3 o)) p fun q r=>
 oP E (gNo a (xCall (fC 55) [m,q])) r fun b s=>
 oP E (gsem (asB (zF a b)) true (fA 38 c 1)) s fun t u=>
 oP E (gsem (asB (zF a b)) true (lA 2 t)) u fun v y=>
 oP E (gsem (asB (zF a b)) true (bC .eql 2 15 v (vI 0))) y fun z aa=>
 oP E (gNo a (xPick (zF a b) z (vB false))) aa fun ab ac=>
 oP E (xPick a (vB true) ab) ac fun ad ae=>
 R ad ae
def h57:Hint:=(sQ (sQ hN))
theorem c7R{x0 x1:Value}(h:F57 x0 x1 w R E):Cv pG 57 #[x0,x1] w R E:=okF (h:=h57) Tryz.func57 (by kernel_rfl) (by kernel_rfl) h
def F58(w)(R:RT)(E):=
 opK pG E (xV (Instr.alloc 38 true (.tuple #[]))) w fun a c=>
 oP E (xV (Instr.build 38 #[(0,(vI (-1)))])) c fun d e=>
 oP E (sA 38 a d) e fun _ b=>
 xcell pG 38 a b fun f=>
 R f b
def h58:Hint:=(sQ (sQ hN))
theorem c7S(h:F58  w R E):Cv pG 58 #[] w R E:=okF (h:=h58) Tryz.func58 (by kernel_rfl) (by kernel_rfl) h
def F59(x0 w)(R:RT)(E):=
 opK pG E (bC .lss 3 3 x0 (vI 1)) w fun a c=>
 oP E (gNo a (bC .gtr 3 6 (zF a x0) (vI 6))) c fun d e=>
 oP E (xPick a (vB true) d) e fun f b=>
 xcond f
 (R (vI 0) b)
 (oP E (xV (Instr.build 148 #[(0,(vI 0)),(1,(vI 6)),(2,(vI 5)),(3,(vI 4)),(4,(vI 3)),(5,(vI 2)),(6,(vI 1))])) b fun g i=>
 oP E (xV (Instr.index 148 g x0)) i fun j k=>
 R j k)
def h59:Hint:=(sQ (hS (sQ (hC (sQ hN) hN)) (sQ hN)))
theorem c7T{x0:Value}(h:F59 x0 w R E):Cv pG 59 #[x0] w R E:=okF (h:=h59) Tryz.func59 (by kernel_rfl) (by kernel_rfl) h
def b8G(x0 x1 w)(R:RT)(E):=
 ∀_τ:Fr,(oP E (xNil x0) w fun a b=>
 oP E (fA 96 a 3) b fun c d=>
 oP E (lA 44 c) d fun e f=>
 oP E (xV (Instr.buildSlice 44 1 #[(0,x1)])) f fun g i=>
 oP E (xBuiltin .append #[44,44] 44 [false,false] [e,g]) i fun j k=>
 oP E (xNil x0) k fun l m=>
 oP E (fA 96 l 3) m fun n o=>
 oP E (sA 44 n j) o fun _ p=>
 R (Value.tuple #[]) p)
def b8H(_x0 _x1 x4:Value)(w)(next2:NT)(_R:RT)(E):=
 ∀_τ:Fr,(oP E (bC .add 3 22 x4 (vI 1)) w fun a b=>
 next2 [a] b)
def c2v(x0 x1 x4 w)(next2:NT)(j1:NT)(R:RT)(E):=
 opK pG E (xNil x0) w fun k l=>
 oP E (fA 96 k 1) l fun m n=>
 oP E (lA 83 m) n fun o p=>
 oP E (iA 83 o x1) p fun q r=>
 oP E (lA 44 q) r fun s t=>
 oP E (xBuiltin .len #[44] 3 [false] [s]) t fun u v=>
 oP E (bN .lss 3 12 20 x4 u) v fun y b=>
 xcond y
 (xcut (fun _ z=>b8H x0 x1 x4 z next2 R E) fun j3=>
 dX b fun a=>
 qP pG (xNil x0) fun aa=>
 qP pG (fA 96 aa 0) fun ab=>
 qP pG (fA 30 ab 5) fun c=>
 qP pG (xNil x0) fun ac=>
 qP pG (fA 96 ac 1) fun d=>
 qL pG a (blk c) (lA 28 c) fun ad=>
 qL pG a (blk d) (lA 83 d) fun ae=>
 qP pG (iA 83 ae x1) fun e=>
 qL pG a (blk e) (lA 44 e) fun af=>
 qP pG (iA 44 af x4) fun f=>
 qL pG a (blk f) (lA 3 f) fun ag=>
 qP pG (iA 28 ad ag) fun ah=>
 qP pG (fA 40 ah 1) fun g=>
 qL pG a (blk g) (lA 3 g) fun i=>
 oP E (xNil x0) a fun ai aj=>
 oP E (fA 96 ai 2) aj fun ak al=>
 oP E (lA 47 ak) al fun am an=>
 oP E (iA 47 am i) an fun ao ap=>
 oP E (lA 4 ao) ap fun aq ar=>
 oP E (xV (Op.unary .not aq)) ar fun au j=>
 xcond au
 (oP E (xCall (fC 60) [x0,i]) j fun _t52_74 av=>
 j3 [] av)
 (j3 [] j))
 (j1 [] b)
def F60(x0 x1 w)(R:RT)(E):=
 opK pG E (xNil x0) w fun a b=>
 oP E (fA 96 a 2) b fun c d=>
 oP E (lA 47 c) d fun e f=>
 oP E (iA 47 e x1) f fun g i=>
 oP E (sA 4 g (vB true)) i fun _ j=>
 xcut (fun _ k=>b8G x0 x1 k R E) fun j1=>
 xloop [4] [(vI 0)] j fun l m next2=>
 c2v x0 x1 (l 4) m next2 j1 R E
def h60:Hint:=(sQ (hU [] (sQ (hB (hL [4] (hS (sQ (hC hN hN)) (hU [] (hB (hS (.reg [(0,16777216,1),(1,33554432,16777216),(2,67108864,33554432),(4,134217728,67108864),(8,268435456,134217728),(0,536870912,1),(32,1073741824,536870912),(64,2147483648,1073741824),(128,4294967296,2147483648),(0,8589934592,2),(768,17179869184,12884901888),(1024,34359738368,17179869184),(0,68719476736,16),(6144,137438953472,103079215104),(8192,274877906944,137438953472),(16400,549755813888,275146342400),(32768,1099511627776,549755813888),(65536,2199023255552,1099511627776),(262143,32,2199023255552)] [149776,149776,149776,149776,149760,149776,149776,149776,149520,149776,149776,147728,149776,149776,133392,149776,149776,18704,149776] (.early 0 (.early 1 (.early 2 (.early 3 (.early 5 (.early 6 (.early 7 (.early 9 (.early 12 (.load 4 (.load 8 (.early 10 (.load 11 (.early 13 (.load 14 (.early 15 (.early 16 (.load 17 (.early 18 .done)))))))))))))))))))) (sQ (hC hN hN)))) hN))))) hN))
theorem c7U{x0 x1:Value}(h:F60 x0 x1 w R E):Cv pG 60 #[x0,x1] w R E:=okF (h:=h60) Tryz.func60 (by kernel_rfl) (by kernel_rfl) h
def b8I(x7 x9 w)(R:RT)(_E:Pan):=
 ∀_τ:Fr,(R (Value.tuple #[x9,x7]) w)
def c2w(x5 x7 x9 x37 x38 x39 w)(next2:NT)(j1:NT)(_R:RT)(E):=
 opK pG E (bN .lss 3 39 38 x39 x38) w fun f b=>
 xcond f
 (oP E (iA 153 x37 x39) b fun g i=>
 oP E (lA 158 g) i fun j k=>
 oP E (xV (Instr.alloc 158 true (.tuple #[]))) k fun a l=>
 oP E (sA 158 a j) l fun _ m=>
 oP E (fA 158 a 0) m fun n o=>
 oP E (lA 9 n) o fun p q=>
 oP E (xV (Instr.lookup 66 x5 p false)) q fun c r=>
 oP E (fA 158 a 1) r fun s t=>
 oP E (lA 3 s) t fun u v=>
 oP E (bN .eql 3 46 51 c u) v fun y d=>
 xcond y
 (oP E (bC .add 3 39 x39 (vI 1)) d fun z aa=>
 next2 [x7,x9,z] aa)
 (oP E (bC .eql 3 46 c (vI 0)) d fun ab e=>
 xcond ab
 (oP E (fA 158 a 0) e fun ac ad=>
 oP E (lA 9 ac) ad fun ae af=>
 j1 [(vI 63),ae] af)
 (oP E (fA 158 a 0) e fun ag ah=>
 oP E (lA 9 ag) ah fun ai aj=>
 j1 [(vI 64),ai] aj)))
 (j1 [x7,x9] b)
def F61(x0 w)(R:RT)(E):=
 opK pG E (xV (Instr.box 25 x0)) w fun a l=>
 oP E (lA 25 a) l fun m n=>
 oP E (xCall (fC 92) [m]) n fun e o=>
 oP E (bC .neq 31 14 e (vI 0)) o fun p f=>
 xcond p
 (R (Value.tuple #[(eS),e]) f)
 (oP E (fA 25 a 0) f fun q r=>
 oP E (lA 22 q) r fun s t=>
 oP E (xCall (fC 93) [s]) t fun b u=>
 oP E (xT b 0) u fun v y=>
 oP E (xT b 1) y fun z aa=>
 oP E (xT b 2) aa fun c ab=>
 oP E (bC .neq 31 24 c (vI 0)) ab fun ac g=>
 xcond ac
 (R (Value.tuple #[z,c]) g)
 (oP E (xV (Instr.build 155 #[])) g fun ad ae=>
 oP E (xV (Instr.box 155 ad)) ae fun i af=>
 oP E (fA 25 a 1) af fun ag ah=>
 oP E (lA 23 ag) ah fun ai aj=>
 oP E (xCall (fC 94) [i,ai]) aj fun _t33_31 ak=>
 xcut (fun j al=>b8I (nth j 0) (nth j.tail 0) al R E) fun j1=>
 oP E (xNil i) ak fun am an=>
 oP E (fA 155 am 0) an fun ao ap=>
 oP E (lA 153 ao) ap fun k aq=>
 oP E (xBuiltin .len #[153] 3 [false] [k]) aq fun ar au=>
 xloop [7,9,39] [c,(eS),(vI 0)] au fun d av next2=>
 c2w v (d 7) (d 9) k ar (d 39) av next2 j1 R E))
def h61:Hint:=(sQ (.scope (hS (sQ (sQ (hC (sQ hN) hN))) (sQ (hS (sQ (hC (sQ hN) hN)) (sQ (sQ (sQ (sQ (hU [7,9] (sQ (hB (hL [7,9,39] (sQ (hS (hC hN hN) (hS (hB (sQ (sQ (hB (sQ (hC hN (sQ (hC (sQ hN) (sQ hN))))))))) hN)))))) (sQ hN)))))))))))
theorem c7V{x0:Value}(h:F61 x0 w R E):Cv pG 61 #[x0] w R E:=okF (h:=h61) Tryz.func61 (by kernel_rfl) (by kernel_rfl) h
def c2x(x0 x5 w)(R:RT)(E):=
 ∀_τ:Fr,(oP E (xV (Instr.sliceAt 22 x0 (some x5) none none)) w fun a b=>
 oP E (xBuiltin .clear #[22] 0 [false] [a]) b fun _ c=>
 oP E (xV (Instr.sliceAt 22 x0 none (some x5) none)) c fun d e=>
 R d e)
def b8J(_x0 _x1 x5 x6:Value)(w)(next2:NT)(_R:RT)(E):=
 ∀_τ:Fr,(oP E (bC .add 3 20 x6 (vI 1)) w fun a b=>
 next2 [x5,a] b)
def c2y(x0 x1 x5 x6 w)(next2:NT)(j1:NT)(R:RT)(E):=
 opK pG E (xBuiltin .len #[22] 3 [false] [x0]) w fun d e=>
 oP E (bN .lss 3 16 18 x6 d) e fun f b=>
 xcond f
 (xcut (fun g i=>b8J x0 x1 (nth g 0) x6 i next2 R E) fun j3=>
 oP E (iA 22 x0 x6) b fun j k=>
 oP E (lA 70 j) k fun l m=>
 oP E (xV (Instr.alloc 70 true (.tuple #[]))) m fun a n=>
 oP E (sA 70 a l) n fun _ o=>
 oP E (lA 70 a) o fun p q=>
 oP E (xCall x1 [p]) q fun r s=>
 oP E (xV (Op.unary .not r)) s fun t c=>
 xcond t
 (oP E (lA 70 a) c fun u v=>
 oP E (iA 22 x0 x5) v fun y z=>
 oP E (sA 70 y u) z fun _ aa=>
 oP E (bC .add 3 34 x5 (vI 1)) aa fun ab ac=>
 j3 [ab] ac)
 (j3 [x5] c))
 (j1 [x5] b)
def F62(x0 x1 w)(R:RT)(E):=
 opK pG E (xCall (fC 95) [x0,x1]) w fun a d=>
 oP E (bC .eql 3 11 a (vI (-1))) d fun e b=>
 xcond e
 (R x0 b)
 (xcut (fun f g=>c2x x0 (nth f 0) g R E) fun j1=>
 oP E (bC .add 3 14 a (vI 1)) b fun i j=>
 xloop [5,6] [a,i] j fun c k next2=>
 c2y x0 x1 (c 5) (c 6) k next2 j1 R E)
def h62:Hint:=(sQ (sQ (hS (sQ (hC (sQ hN) hN)) (hU [5] (sQ (hB (hL [5,6] (hS (sQ (hC hN hN)) (hU [5] (hB (sQ (sQ (hC (sQ hN) hN)))) hN))))) (sQ (sQ hN))))))
theorem c7W{x0 x1:Value}(h:F62 x0 x1 w R E):Cv pG 62 #[x0,x1] w R E:=okF (h:=h62) Tryz.func62 (by kernel_rfl) (by kernel_rfl) h
def F63(x0 w)(R:RT)(E):=
 opK pG E (bC .eql 22 3 x0 (nS)) w fun b a=>
 xcond b
 (R (nS) a)
 (oP E (xV (Instr.buildSlice 22 0 #[])) a fun c d=>
 oP E (xBuiltin .append #[22,22] 22 [false,false] [c,x0]) d fun e f=>
 R e f)
def h63:Hint:=(sQ (hS (sQ (hC (sQ hN) hN)) (sQ hN)))
theorem c7X{x0:Value}(h:F63 x0 w R E):Cv pG 63 #[x0] w R E:=okF (h:=h63) Tryz.func63 (by kernel_rfl) (by kernel_rfl) h
def F64(x0 x1 w)(R:RT)(E):=
 opK pG E (xV (Instr.box 70 x0)) w fun b d=>
 dX d fun a=>
 qL pG a (blk b) (lA 70 b) fun e=>
 qL pG a (blk x1) (lA 3 x1) fun f=>
 oP E (xCall (fC 65) [e]) a fun g c=>
 keepX [(blk x1)] a c (qP pG (bN .neq 3 5 6 g f) fun i=>
 R i c)
def h64:Hint:=(sQ (hS (.reg [(0,16,4),(1,32,16),(0,64,2),(6,128,96),(15,8,128)] [4,4,1,5,5] (.load 0 (.load 2 (.step 1 (.early 3 (.early 4 .done)))))) hN))
theorem c7Y{x0 x1:Value}(h:F64 x0 x1 w R E):Cv pG 64 #[x0,x1] w R E:=okF (h:=h64) Tryz.func64 (by kernel_rfl) (by kernel_rfl) h
def F65(x0 w)(R:RT)(E):=
 opK pG E (xV (Instr.box 70 x0)) w fun b c=>
 oP E (fA 70 b 1) c fun d e=>
 oP E (lA 3 d) e fun f g=>
 oP E (bC .gtr 3 4 f (vI 0)) g fun i a=>
 xcond i
 (R (vI 2) a)
 (R (vI 1) a)
def h65:Hint:=(sQ (hS (sQ (hC (sQ hN) hN)) (sQ hN)))
theorem c7Z{x0:Value}(h:F65 x0 w R E):Cv pG 65 #[x0] w R E:=okF (h:=h65) Tryz.func65 (by kernel_rfl) (by kernel_rfl) h
def F66(x0 x1 x2 x3 x4 w)(R:RT)(E):=
 opK pG E (xV (Instr.box 123 x2)) w fun e j=>
 oP E (lA 123 e) j fun k l=>
 oP E (xCall (fC 96) [x0,k]) l fun f m=>
 oP E (xT f 0) m fun n o=>
 oP E (xT f 1) o fun p q=>
 oP E (xV (Instr.alloc 38 true (.tuple #[]))) q fun a r=>
 oP E (sA 38 a n) r fun _ s=>
 oP E (xV (Op.unary .not p)) s fun t g=>
 xcond t
 (oP E (lA 123 e) g fun u v=>
 oP E (xCall (fC 97) [x0,u,x1,x3,x4,(vI 0)]) v fun _t26_19 y=>
 R (Value.tuple #[]) y)
 (oP E (xCall (fC 67) [x3,x4,(vI 2)]) g fun z aa=>
 oP E (xV (Instr.alloc 40 true (.tuple #[]))) aa fun b ab=>
 oP E (sA 40 b z) ab fun _ ac=>
 dX ac fun c=>
 qP pG (fA 40 b 3) fun ad=>
 qL pG c (blk a) (lA 38 a) fun ae=>
 oP E (sA 3 ad x1) c fun _ d=>
 keepX [(blk a)] c d (qP pG (fA 40 b 6) fun af=>
 oP E (sA 38 af ae) d fun _ i=>
 keepX [] d i (opK pG E (lA 40 b) i fun ag ah=>
 oP E (xCall (fC 69) [x0,ag]) ah fun _t36_37 ai=>
 R (Value.tuple #[]) ai)))
def h66:Hint:=(sQ (sQ (hS (sQ (hC (sQ hN) hN)) (sQ (hS (.reg [(0,1073741824,2),(0,2147483648,1024),(1,4294967296,4096),(5,0,5368709120),(15,8589934592,4096),(31,0,10737418240)] [2,0,2,2,2,0] (.early 0 (.early 2 (.load 1 (.step 3 (.early 4 (.step 5 .done))))))) hN)))))
theorem c8a{x0 x1 x2 x3 x4:Value}(h:F66 x0 x1 x2 x3 x4 w R E):Cv pG 66 #[x0,x1,x2,x3,x4] w R E:=okF (h:=h66) Tryz.func66 (by kernel_rfl) (by kernel_rfl) h
def F67(x0 x1 x2 w)(R:RT)(E):=
 opK pG E (xV (Instr.alloc 40 true (.tuple #[]))) w fun a c=>
 oP E (xCall (fC 58) []) c fun d e=>
 oP E (xCall (fC 58) []) e fun f g=>
 oP E (xV (Instr.build 40 #[(0,x0),(1,x1),(2,x2),(3,(vI (-1))),(4,(vI (-1))),(6,d),(7,f)])) g fun i j=>
 oP E (sA 40 a i) j fun _ b=>
 xcell pG 40 a b fun k=>
 R k b
def h67:Hint:=(sQ (sQ hN))
theorem c8b{x0 x1 x2:Value}(h:F67 x0 x1 x2 w R E):Cv pG 67 #[x0,x1,x2] w R E:=okF (h:=h67) Tryz.func67 (by kernel_rfl) (by kernel_rfl) h
def F68(x0 x1 x2 x3 w)(R:RT)(E):=
 opK pG E (xV (Instr.alloc 38 true (.tuple #[]))) w fun a n=>
 oP E (xV (Instr.alloc 38 true (.tuple #[]))) n fun b o=>
 oP E (iA 57 x1 (vI 0)) o fun p q=>
 oP E (lA 123 p) q fun r s=>
 oP E (xCall (fC 98) [x0,r,x2,x3]) s fun k t=>
 oP E (xT k 0) t fun u v=>
 oP E (xT k 1) v fun y z=>
 oP E (sA 38 a u) z fun _ aa=>
 dX aa fun c=>
 qP pG (iA 57 x1 (vI 1)) fun f=>
 qL pG c (blk f) (lA 123 f) fun ab=>
 qL pG c (blk a) (lA 38 a) fun ac=>
 oP E (xCall (fC 99) [x0,ac,x3]) c fun ad g=>
 keepX [(blk f)] c g (opK pG E (xCall (fC 98) [x0,ab,y,ad]) g fun l i=>
 keepX [] g i (qP pG (xT l 0) fun ae=>
 qP pG (xT l 1) fun af=>
 oP E (sA 38 b ae) i fun _ m=>
 keepX [] i m (dX m fun d=>
 qL pG d (blk a) (lA 38 a) fun ag=>
 qL pG d (blk b) (lA 38 b) fun ah=>
 oP E (sA 38 a ag) d fun _ j=>
 keepX [(blk b)] d j (opK pG E (sA 38 b ah) j fun _ e=>
 keepX [] j e (xcell pG 38 a e fun ai=>
 xcell pG 38 b e fun aj=>
 R (Value.tuple #[ai,aj,af]) e)))))
def h68:Hint:=(sQ (sQ (hS (.reg [(0,4194304,1),(0,8388608,2),(2,16777216,8388608),(4,33554432,16777216),(0,67108864,1024),(0,134217728,1),(0,268435456,256),(0,536870912,8),(224,1073741824,939524096),(281,2147483648,1178599424),(512,2097152,2147483648),(1024,4294967296,2097152),(1024,8589934592,2097152),(4095,0,4294967808),(16383,1024,8589934592)] [72,72,72,64,72,72,8,72,8,0,72,72,72,0,72] (.early 0 (.early 1 (.early 2 (.early 4 (.early 5 (.early 7 (.load 3 (.load 6 (.step 8 (.step 9 (.early 10 (.early 11 (.early 12 (.step 13 (.early 14 .done)))))))))))))))) (hS (.reg [(0,17179869184,256),(0,34359738368,512),(0,68719476736,1024),(1,0,17179869440),(11,0,34359738880),(31,1024,68719476736)] [2,1,3,2,0,3] (.early 2 (.load 0 (.load 1 (.step 3 (.step 4 (.early 5 .done))))))) hN))))
theorem c8c{x0 x1 x2 x3:Value}(h:F68 x0 x1 x2 x3 w R E):Cv pG 68 #[x0,x1,x2,x3] w R E:=okF (h:=h68) Tryz.func68 (by kernel_rfl) (by kernel_rfl) h
def F69(x0 x1 w)(R:RT)(E):=
 opK pG E (xV (Instr.box 40 x1)) w fun e g=>
 dX g fun a=>
 qP pG (xNil x0) fun i=>
 qP pG (fA 68 i 0) fun j=>
 qP pG (fA 30 j 5) fun b=>
 qL pG a (blk b) (lA 28 b) fun k=>
 qL pG a (blk e) (lA 40 e) fun l=>
 oP E (xV (Instr.buildSlice 28 1 #[(0,l)])) a fun m c=>
 keepX [(blk b)] a c (opK pG E (xBuiltin .append #[28,28] 28 [false,false] [k,m]) c fun n d=>
 keepX [] c d (qP pG (xNil x0) fun o=>
 qP pG (fA 68 o 0) fun p=>
 qP pG (fA 30 p 5) fun q=>
 oP E (sA 28 q n) d fun _ f=>
 keepX [] d f (R (Value.tuple #[]) f)))
def h69:Hint:=(sQ (.reg [(0,16,1),(0,32,1),(2,64,32),(4,128,64),(8,256,128),(16,512,256),(0,1024,8),(64,2048,1024),(160,4096,2560),(511,8192,16),(1023,16384,8192),(1535,32768,16384),(2559,0,36864)] [96,96,96,96,96,64,32,32,0,96,96,96,0] (.early 0 (.early 1 (.early 2 (.early 3 (.early 4 (.load 5 (.load 6 (.step 7 (.step 8 (.early 9 (.early 10 (.early 11 (.step 12 .done)))))))))))))))
theorem c8d{x0 x1:Value}(h:F69 x0 x1 w R E):Cv pG 69 #[x0,x1] w R E:=okF (h:=h69) Tryz.func69 (by kernel_rfl) (by kernel_rfl) h
def F70(x0 x1 x2 w)(R:RT)(E):=
 opK pG E (xBuiltin .len #[23] 3 [false] [x1]) w fun b c=>
 oP E (bC .eql 3 8 b (vI 0)) c fun d a=>
 xcond d
 (R x2 a)
 (oP E (xCall (fC 23) [x0]) a fun e f=>
 R e f)
def h70:Hint:=(sQ (hS (sQ (hC (sQ hN) hN)) (sQ hN)))
theorem c8e{x0 x1 x2:Value}(h:F70 x0 x1 x2 w R E):Cv pG 70 #[x0,x1,x2] w R E:=okF (h:=h70) Tryz.func70 (by kernel_rfl) (by kernel_rfl) h
def F71(x0 x1 x2 x3 x4 w)(R:RT)(E):=
 opK pG E (xV (Instr.box 131 x1)) w fun a t=>
 oP E (fA 131 a 0) t fun u v=>
 oP E (lA 3 u) v fun c y=>
 oP E (bC .eql 3 17 c (vI 1)) y fun z k=>
 xcond z
 (oP E (xCall (fC 67) [x2,x3,(vI 1)]) k fun aa ab=>
 oP E (xCall (fC 69) [x0,aa]) ab fun _t55_11 ac=>
 R (Value.tuple #[]) ac)
 (oP E (bC .eql 3 17 c (vI 2)) k fun ad l=>
 xcond ad
 (oP E (xCall (fC 67) [x2,x4,(vI 1)]) l fun ae af=>
 oP E (xCall (fC 69) [x0,ae]) af fun _t62_17 ag=>
 R (Value.tuple #[]) ag)
 (oP E (bC .eql 3 17 c (vI 4)) l fun ah m=>
 xcond ah
 (oP E (fA 131 a 3) m fun ai aj=>
 oP E (lA 58 ai) aj fun ak al=>
 oP E (iA 58 ak (vI 0)) al fun am an=>
 oP E (lA 131 am) an fun ao ap=>
 oP E (xCall (fC 71) [x0,ao,x2,x4,x3]) ap fun _t73_29 aq=>
 R (Value.tuple #[]) aq)
 (oP E (bC .eql 3 17 c (vI 5)) m fun ar n=>
 xcond ar
 (oP E (xCall (fC 23) [x0]) n fun o au=>
 oP E (fA 131 a 3) au fun av aw=>
 oP E (lA 58 av) aw fun ax ay=>
 oP E (iA 58 ax (vI 0)) ay fun az ba=>
 oP E (lA 131 az) ba fun bb bc=>
 oP E (xCall (fC 71) [x0,bb,x2,o,x4]) bc fun _t86_43 bd=>
 oP E (fA 131 a 3) bd fun be bf=>
 oP E (lA 58 be) bf fun bg bh=>
 oP E (iA 58 bg (vI 1)) bh fun bi bj=>
 oP E (lA 131 bi) bj fun bk bl=>
 oP E (xCall (fC 71) [x0,bk,o,x3,x4]) bl fun _t95_53 bm=>
 R (Value.tuple #[]) bm)
 (oP E (bC .eql 3 17 c (vI 6)) n fun bn p=>
 xcond bn
 (oP E (xCall (fC 23) [x0]) p fun q bo=>
 oP E (fA 131 a 3) bo fun bp bq=>
 oP E (lA 58 bp) bq fun br bs=>
 oP E (iA 58 br (vI 0)) bs fun bt bu=>
 oP E (lA 131 bt) bu fun bv bw=>
 oP E (xCall (fC 71) [x0,bv,x2,x3,q]) bw fun _t108_67 bz=>
 oP E (fA 131 a 3) bz fun ca cb=>
 oP E (lA 58 ca) cb fun cc cd=>
 oP E (iA 58 cc (vI 1)) cd fun ce cf=>
 oP E (lA 131 ce) cf fun cg ch=>
 oP E (xCall (fC 71) [x0,cg,q,x3,x4]) ch fun _t117_77 ci=>
 R (Value.tuple #[]) ci)
 (oP E (fA 131 a 2) p fun cj ck=>
 oP E (lA 57 cj) ck fun cl cm=>
 oP E (xCall (fC 68) [x0,cl,x2,(vI 0)]) cm fun g cn=>
 oP E (xT g 0) cn fun co cp=>
 oP E (xT g 1) cp fun cq cr=>
 oP E (xT g 2) cr fun cs ct=>
 oP E (xV (Instr.alloc 38 true (.tuple #[]))) ct fun f cu=>
 oP E (xV (Instr.alloc 38 true (.tuple #[]))) cu fun d cv=>
 oP E (sA 38 f co) cv fun _ cw=>
 oP E (sA 38 d cq) cw fun _ cx=>
 oP E (xCall (fC 67) [cs,x3,(vI 12)]) cx fun cy cz=>
 oP E (xV (Instr.alloc 40 true (.tuple #[]))) cz fun b da=>
 oP E (sA 40 b cy) da fun _ db=>
 dX db fun e=>
 qP pG (fA 131 a 1) fun r=>
 qL pG e (blk r) (lA 3 r) fun dc=>
 qP pG (fA 40 b 5) fun dd=>
 qL pG e (blk f) (lA 38 f) fun de=>
 qL pG e (blk d) (lA 38 d) fun df=>
 oP E (sA 3 dd dc) e fun _ i=>
 keepX [(blk d),(blk f)] e i (qP pG (fA 40 b 6) fun dg=>
 oP E (sA 38 dg de) i fun _ j=>
 keepX [(blk d)] i j (qP pG (fA 40 b 7) fun dh=>
 oP E (sA 38 dh df) j fun _ s=>
 keepX [] j s (opK pG E (lA 40 b) s fun di dj=>
 oP E (xCall (fC 69) [x0,di]) dj fun _t39_121 dk=>
 oP E (fA 131 a 1) dk fun dl dm=>
 oP E (lA 3 dl) dm fun dn dp=>
 oP E (xCall (fC 59) [dn]) dp fun dq dr=>
 oP E (fA 40 b 1) dr fun ds dt=>
 oP E (sA 3 ds x4) dt fun _ du=>
 oP E (fA 40 b 5) du fun dv dw=>
 oP E (sA 3 dv dq) dw fun _ dx=>
 oP E (lA 40 b) dx fun dy dz=>
 oP E (xCall (fC 69) [x0,dy]) dz fun _t48_139 ea=>
 R (Value.tuple #[]) ea))))))))
def h71:Hint:=(sQ (sQ (hB (sQ (hC hN (sQ (hC hN (sQ (hC hN (sQ (hC (sQ (sQ hN)) (sQ (hC (sQ (sQ hN)) (sQ (sQ (hS (.reg [(0,1073741824,64),(1,2147483648,1073741824),(0,4294967296,4096),(0,8589934592,8192),(3,17179869184,32768),(19,0,19327352832),(55,34359738368,32768),(119,0,38654705664),(255,68719476736,32768),(511,0,77309411328)] [14,12,10,6,14,12,14,8,14,0] (.early 0 (.load 1 (.early 4 (.load 2 (.load 3 (.step 5 (.early 6 (.step 7 (.early 8 (.step 9 .done))))))))))) (sQ (sQ hN))))))))))))))))))
theorem c8f{x0 x1 x2 x3 x4:Value}(h:F71 x0 x1 x2 x3 x4 w R E):Cv pG 71 #[x0,x1,x2,x3,x4] w R E:=okF (h:=h71) Tryz.func71 (by kernel_rfl) (by kernel_rfl) h
def F91(w)(R:RT)(E):=
 opK pG E (xV (Instr.alloc 38 true (.tuple #[]))) w fun a c=>
 oP E (xV (Instr.build 38 #[(0,(vI (-1)))])) c fun d e=>
 oP E (sA 38 a d) e fun _ b=>
 xcell pG 38 a b fun f=>
 R f b
def h91:Hint:=(sQ (sQ hN))
theorem c8g(h:F91  w R E):Cv pG 91 #[] w R E:=okF (h:=h91) Tryz.func91 (by kernel_rfl) (by kernel_rfl) h
def F92(x0 w)(R:RT)(E):=
 opK pG E (xV (Instr.box 25 x0)) w fun a b=>
 oP E (lA 25 a) b fun c d=>
 oP E (xCall (fC 107) [c]) d fun e f=>
 oP E (xNil e) f fun g i=>
 oP E (fA 169 g 2) i fun j k=>
 oP E (lA 31 j) k fun l m=>
 R l m
def h92:Hint:=(sQ (sQ hN))
theorem c8h{x0:Value}(h:F92 x0 w R E):Cv pG 92 #[x0] w R E:=okF (h:=h92) Tryz.func92 (by kernel_rfl) (by kernel_rfl) h
def c2z(x5 w)(R:RT)(_E:Pan):=
 ∀_τ:Fr,(R (Value.tuple #[x5,(eS),(vI 0)]) w)
def c2A(x5 x6 x13 x14 x15 w)(next2:NT)(j1:NT)(R:RT)(E):=
 opK pG E (bN .lss 3 15 14 x15 x14) w fun n c=>
 xcond n
 (oP E (iA 22 x13 x15) c fun o p=>
 oP E (lA 70 o) p fun q r=>
 oP E (xV (Instr.alloc 70 true (.tuple #[]))) r fun a s=>
 oP E (sA 70 a q) s fun _ t=>
 oP E (lA 70 a) t fun u v=>
 oP E (xCall (fC 65) [u]) v fun b y=>
 oP E (xV (Instr.lookup 172 x6 b false)) y fun z aa=>
 oP E (bC .sub 3 23 z (vI 1)) aa fun ab ac=>
 oP E (xU (Instr.mapUpdate 172 x6 b ab)) ac fun _ ad=>
 oP E (fA 70 a 0) ad fun ae af=>
 oP E (lA 9 ae) af fun ag ah=>
 oP E (xV (Instr.lookup 66 x5 ag false)) ah fun ai aj=>
 oP E (bC .neq 3 29 ai (vI 0)) aj fun ak d=>
 xcond ak
 (dX d fun e=>
 qP pG (fA 70 a 0) fun f=>
 qL pG e (blk f) (lA 9 f) fun al=>
 R (Value.tuple #[(Value.map none),al,(vI 60)]) e)
 (oP E (fA 70 a 1) d fun am an=>
 oP E (lA 3 am) an fun ao ap=>
 oP E (bC .gtr 3 35 ao (vI 1024)) ap fun aq g=>
 xcond aq
 (dX g fun i=>
 qP pG (fA 70 a 0) fun j=>
 qL pG i (blk j) (lA 9 j) fun ar=>
 R (Value.tuple #[(Value.map none),ar,(vI 61)]) i)
 (oP E (xV (Instr.lookup 172 x6 b false)) g fun au av=>
 oP E (bC .lss 3 42 au (vI 0)) av fun aw k=>
 xcond aw
 (dX k fun l=>
 qP pG (fA 70 a 0) fun m=>
 qL pG l (blk m) (lA 9 m) fun ax=>
 R (Value.tuple #[(Value.map none),ax,(vI 62)]) l)
 (oP E (fA 70 a 0) k fun ay az=>
 oP E (lA 9 ay) az fun ba bb=>
 oP E (xU (Instr.mapUpdate 66 x5 ba b)) bb fun _ bc=>
 oP E (bC .add 3 15 x15 (vI 1)) bc fun bd be=>
 next2 [bd] be))))
 (j1 [] c)
def F93(x0 w)(R:RT)(E):=
 opK pG E (xV (Instr.makeMap 66 none)) w fun b c=>
 oP E (xV (Instr.makeMap 172 none)) c fun a d=>
 oP E (xU (Instr.mapUpdate 172 a (vI 1) (vI 32))) d fun _ e=>
 oP E (xU (Instr.mapUpdate 172 a (vI 2) (vI 16))) e fun _ f=>
 xcut (fun _ g=>c2z b g R E) fun j1=>
 oP E (xBuiltin .len #[22] 3 [false] [x0]) f fun i j=>
 xloop [15] [(vI 0)] j fun k l next2=>
 c2A b a x0 i (k 15) l next2 j1 R E
def h93:Hint:=(sQ (sQ (sQ (hU [] (sQ (hB (hL [15] (sQ (hS (hC hN hN) (hS (hB (sQ (sQ (sQ (hS (hB (sQ (hC (hS (.reg [(0,2147483648,256),(1,4294967296,2147483648),(0,4,0),(7,8,4294967296),(15,16,0)] [2,0,2,2,2] (.early 0 (.early 2 (.load 1 (.early 3 (.early 4 .done)))))) hN) (sQ (hC (hS (.reg [(0,137438953472,256),(1,274877906944,137438953472),(0,4,0),(7,8,274877906944),(15,16,0)] [2,0,2,2,2] (.early 0 (.early 2 (.load 1 (.early 3 (.early 4 .done)))))) hN) (sQ (hC (hS (.reg [(0,17592186044416,256),(1,35184372088832,17592186044416),(0,4,0),(7,8,35184372088832),(15,16,0)] [2,0,2,2,2] (.early 0 (.early 2 (.load 1 (.early 3 (.early 4 .done)))))) hN) hN))))))) hN))))) hN)))))) (sQ hN)))))
theorem c8i{x0:Value}(h:F93 x0 w R E):Cv pG 93 #[x0] w R E:=okF (h:=h93) Tryz.func93 (by kernel_rfl) (by kernel_rfl) h
end Go.Proofs.YtaokfhdinhimfaaGreatDoor
