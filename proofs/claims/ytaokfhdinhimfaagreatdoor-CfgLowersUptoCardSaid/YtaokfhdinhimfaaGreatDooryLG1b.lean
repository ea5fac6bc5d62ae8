/- The second reading of some of the program's functions, printed by gen2.py off the code; each is held against the code by the kernel. -/
import Derived.KernelRfl
import Derived.Test.YtaokfhdinhimfaaGreatDooryLGz
namespace Go.Proofs.YtaokfhdinhimfaaGreatDoor
open Go.RowKit
set_option maxRecDepth 100000
variable {w:World}{R:RT}{E:Pan}
def F44(x0 x1 w)(R:RT)(E):=
 opK pG E (xV (Instr.box 25 x0)) w fun a e=>
 oP E (xV (Instr.box 3 x1)) e fun f g=>
 oP E (lA 25 a) g fun i j=>
 oP E (xCall (fC 61) [i]) j fun b k=>
 oP E (xT b 0) k fun _t11_9 l=>
 oP E (xT b 1) l fun c m=>
 oP E (bC .neq 31 13 c (vI 0)) m fun n d=>
 xcond n
 (R (Value.tuple #[(nS),c]) d)
 (oP E (fA 25 a 0) d fun o p=>
 oP E (lA 22 o) p fun q r=>
 oP E (xCall (fC 63) [q]) r fun s t=>
 oP E (xV (Instr.makeFunc (.func 64) #[] #[f])) t fun u v=>
 oP E (xCall (fC 62) [s,u]) v fun y z=>
 R (Value.tuple #[y,(vI 0)]) z)
def h44:Hint:=(sQ (hS (sQ (sQ (hC (sQ hN) hN))) (sQ hN)))
theorem c9B{x0 x1:Value}(h:F44 x0 x1 w R E):Cv pG 44 #[x0,x1] w R E:=okF (h:=h44) Tryz.func44 (by kernel_rfl) (by kernel_rfl) h
def F45(x0 x1 x2 x3 w)(R:RT)(E):=
 opK pG E (xV (Instr.box 60 x1)) w fun a aj=>
 oP E (fA 60 a 0) aj fun ak al=>
 oP E (lA 3 ak) al fun c am=>
 oP E (bC .eql 3 15 c (vI 1)) am fun an i=>
 xcond an
 (dX i fun b=>
 qP pG (xNil x0) fun ao=>
 qP pG (fA 68 ao 1) fun j=>
 qP pG (fA 60 a 1) fun k=>
 qP pG (fA 60 a 2) fun l=>
 qL pG b (blk j) (lA 66 j) fun m=>
 qL pG b (blk k) (lA 9 k) fun ap=>
 qL pG b (blk m) (xV (Instr.lookup 66 m ap false)) fun aq=>
 qL pG b (blk l) (lA 57 l) fun ar=>
 qP pG (iA 57 ar (vI 0)) fun n=>
 qL pG b (blk n) (lA 123 n) fun au=>
 oP E (xCall (fC 66) [x0,aq,au,x2,x3]) b fun _t37_20 o=>
 keepX [] b o (R (Value.tuple #[]) o))
 (oP E (bC .eql 3 15 c (vI 2)) i fun av p=>
 xcond av
 (oP E (xCall (fC 67) [x2,x3,(vI 11)]) p fun aw ax=>
 oP E (xV (Instr.alloc 40 true (.tuple #[]))) ax fun d ay=>
 oP E (sA 40 d aw) ay fun _ az=>
 dX az fun e=>
 qP pG (xNil x0) fun ba=>
 qP pG (fA 68 ba 2) fun q=>
 qP pG (fA 60 a 1) fun r=>
 qL pG e (blk q) (lA 66 q) fun s=>
 qL pG e (blk r) (lA 9 r) fun bb=>
 qL pG e (blk s) (xV (Instr.lookup 66 s bb false)) fun bc=>
 qP pG (fA 40 d 4) fun bd=>
 oP E (sA 3 bd bc) e fun _ t=>
 keepX [] e t (opK pG E (fA 60 a 2) t fun be bf=>
 oP E (lA 57 be) bf fun bg bh=>
 oP E (xCall (fC 68) [x0,bg,x2,(vI 0)]) bh fun g bi=>
 oP E (xT g 0) bi fun bj bk=>
 oP E (xT g 1) bk fun bl bm=>
 oP E (xT g 2) bm fun bn bo=>
 oP E (fA 40 d 6) bo fun bp bq=>
 oP E (sA 38 bp bj) bq fun _ br=>
 oP E (fA 40 d 7) br fun bs bt=>
 oP E (sA 38 bs bl) bt fun _ bu=>
 oP E (fA 40 d 0) bu fun bv bw=>
 oP E (sA 3 bv bn) bw fun _ bz=>
 oP E (lA 40 d) bz fun ca cb=>
 oP E (xCall (fC 69) [x0,ca]) cb fun _t65_66 cc=>
 R (Value.tuple #[]) cc))
 (oP E (bC .eql 3 15 c (vI 3)) p fun cd u=>
 xcond cd
 (oP E (fA 60 a 4) u fun ce cf=>
 oP E (lA 23 ce) cf fun cg ch=>
 oP E (xCall (fC 70) [x0,cg,x3]) ch fun v ci=>
 oP E (fA 60 a 5) ci fun cj ck=>
 oP E (lA 23 cj) ck fun cl cm=>
 oP E (xCall (fC 70) [x0,cl,x3]) cm fun y cn=>
 oP E (fA 60 a 3) cn fun co cp=>
 oP E (lA 58 co) cp fun cq cr=>
 oP E (iA 58 cq (vI 0)) cr fun cs ct=>
 oP E (lA 131 cs) ct fun cu cv=>
 oP E (xCall (fC 71) [x0,cu,x2,v,y]) cv fun _t86_90 cw=>
 oP E (fA 60 a 4) cw fun cx cy=>
 oP E (lA 23 cx) cy fun cz da=>
 oP E (xCall (fC 24) [x0,cz,v,x3]) da fun _t92_96 db=>
 oP E (fA 60 a 5) db fun dc dd=>
 oP E (lA 23 dc) dd fun de df=>
 oP E (xCall (fC 24) [x0,de,y,x3]) df fun _t98_102 dg=>
 R (Value.tuple #[]) dg)
 (oP E (bC .eql 3 15 c (vI 4)) u fun dh z=>
 xcond dh
 (oP E (fA 60 a 4) z fun di dj=>
 oP E (lA 23 di) dj fun dk dl=>
 oP E (xCall (fC 70) [x0,dk,x2]) dl fun aa dm=>
 oP E (fA 60 a 3) dm fun dn dp=>
 oP E (lA 58 dn) dp fun dq dr=>
 oP E (iA 58 dq (vI 0)) dr fun ds dt=>
 oP E (lA 131 ds) dt fun du dv=>
 oP E (xCall (fC 71) [x0,du,x2,aa,x3]) dv fun _t114_120 dw=>
 oP E (fA 60 a 4) dw fun dx dy=>
 oP E (lA 23 dx) dy fun dz ea=>
 oP E (xCall (fC 24) [x0,dz,aa,x2]) ea fun _t120_126 eb=>
 R (Value.tuple #[]) eb)
 (oP E (bC .eql 3 15 c (vI 5)) z fun ec ab=>
 xcond ec
 (oP E (xCall (fC 23) [x0]) ab fun ac ed=>
 oP E (xCall (fC 23) [x0]) ed fun ad ee=>
 oP E (fA 60 a 3) ee fun ef eg=>
 oP E (lA 58 ef) eg fun eh ei=>
 oP E (iA 58 eh (vI 0)) ei fun ej ek=>
 oP E (lA 131 ej) ek fun el em=>
 oP E (xCall (fC 71) [x0,el,x2,ac,ad]) em fun _t135_142 en=>
 oP E (xCall (fC 67) [ac,x3,(vI 13)]) en fun eo ep=>
 oP E (xCall (fC 69) [x0,eo]) ep fun _t140_146 eq=>
 oP E (xCall (fC 67) [ad,x3,(vI 14)]) eq fun er es=>
 oP E (xCall (fC 69) [x0,er]) es fun _t145_150 et=>
 R (Value.tuple #[]) et)
 (oP E (bC .eql 3 15 c (vI 6)) ab fun eu ae=>
 xcond eu
 (dX ae fun f=>
 qP pG (fA 60 a 3) fun af=>
 qP pG (xNil x0) fun ev=>
 qP pG (fA 68 ev 0) fun ew=>
 qP pG (fA 30 ew 4) fun ag=>
 qL pG f (blk af) (lA 58 af) fun ex=>
 qP pG (iA 58 ex (vI 0)) fun ah=>
 qL pG f (blk ah) (lA 131 ah) fun ey=>
 qL pG f (blk ag) (lA 3 ag) fun ez=>
 oP E (xCall (fC 71) [x0,ey,x2,x3,ez]) f fun _t160_163 ai=>
 keepX [] f ai (R (Value.tuple #[]) ai))
 (oP E (xCall (fC 67) [x2,x3,(vI 1)]) ae fun fa fb=>
 oP E (xCall (fC 69) [x0,fa]) fb fun _t20_167 fc=>
 R (Value.tuple #[]) fc))))))
def h45:Hint:=(sQ (sQ (hB (sQ (hC (.reg [(0,8388608,1),(0,16777216,1),(2,33554432,16777216),(4,67108864,33554432),(8,134217728,67108864),(0,268435456,32),(32,536870912,268435456),(80,1073741824,671088640),(0,2147483648,32),(256,4294967296,2147483648),(512,8589934592,4294967296),(1024,17179869184,8589934592),(0,34359738368,4),(0,68719476736,8),(14465,137438953472,121341214720)] [2768,2768,2768,2768,2752,2768,2704,2640,2768,2256,2768,720,2768,2768,0] (.early 0 (.early 1 (.early 2 (.early 3 (.early 5 (.early 8 (.early 12 (.early 13 (.load 4 (.load 6 (.load 7 (.load 9 (.early 10 (.load 11 (.step 14 .done)))))))))))))))) (sQ (hC (sQ (hS (.reg [(0,8796093022208,1),(1,17592186044416,8796093022208),(2,35184372088832,17592186044416),(4,70368744177664,35184372088832),(0,140737488355328,32),(16,281474976710656,140737488355328),(40,562949953421312,351843720888320),(127,1125899906842624,256),(255,0,1688849860263936)] [104,104,104,96,104,72,40,104,0] (.early 0 (.early 1 (.early 2 (.early 4 (.load 3 (.load 5 (.load 6 (.early 7 (.step 8 .done)))))))))) (sQ hN))) (sQ (hC (sQ (sQ (sQ (sQ hN)))) (sQ (hC (sQ (sQ hN)) (sQ (hC (sQ (sQ (sQ hN))) (sQ (hC (.reg [(0,356811923176489970264571492362373784095686656,1),(0,713623846352979940529142984724747568191373312,32),(2,1427247692705959881058285969449495136382746624,713623846352979940529142984724747568191373312),(4,2854495385411919762116571938898990272765493248,1427247692705959881058285969449495136382746624),(8,5708990770823839524233143877797980545530986496,2854495385411919762116571938898990272765493248),(0,11417981541647679048466287755595961091061972992,4),(0,22835963083295358096932575511191922182123945984,8),(0,45671926166590716193865151022383844364247891968,1),(128,91343852333181432387730302044767688728495783936,45671926166590716193865151022383844364247891968),(256,182687704666362864775460604089535377456991567872,91343852333181432387730302044767688728495783936),(512,365375409332725729550921208179070754913983135744,182687704666362864775460604089535377456991567872),(1024,730750818665451459101842416358141509827966271488,365375409332725729550921208179070754913983135744),(2161,1461501637330902918203684832716283019655932542976,771070565984394825741738994995089747430778863616)] [2068,2068,2064,2068,2052,2068,2068,2068,2068,2068,2068,20,0] (.early 0 (.early 1 (.early 5 (.early 6 (.early 7 (.early 8 (.early 9 (.early 10 (.load 2 (.early 3 (.load 4 (.load 11 (.step 12 .done)))))))))))))) hN)))))))))))))))
theorem c9C{x0 x1 x2 x3:Value}(h:F45 x0 x1 x2 x3 w R E):Cv pG 45 #[x0,x1,x2,x3] w R E:=okF (h:=h45) Tryz.func45 (by kernel_rfl) (by kernel_rfl) h
def b9E(x4 w)(R:RT)(E):=
 ∀_τ:Fr,(oP E (lA 136 x4) w fun a b=>
 oP E (xCall (fC 75) [a]) b fun c d=>
 R c d)
def c4j(x1 x4 x6 w)(next3:NT)(j2:NT)(_R:RT)(E):=
 opK pG E (fA 25 x1 1) w fun c d=>
 oP E (lA 23 c) d fun e f=>
 oP E (xBuiltin .len #[23] 3 [false] [e]) f fun g i=>
 oP E (bN .lss 3 50 53 x6 g) i fun a j=>
 oP E (gYs a (fA 136 x4 0)) j fun k l=>
 oP E (gYs a (lA 4 k)) l fun m n=>
 oP E (xPick a m (vB false)) n fun o b=>
 xcond o
 (oP E (fA 25 x1 1) b fun p q=>
 oP E (lA 23 p) q fun r s=>
 oP E (iA 23 r x6) s fun t u=>
 oP E (lA 60 t) u fun v y=>
 oP E (xCall (fC 74) [x4,v]) y fun _t66_55 z=>
 oP E (bC .add 3 59 x6 (vI 1)) z fun aa ab=>
 next3 [aa] ab)
 (j2 [] b)
def b9F(x1 x4 w)(R:RT)(E):=
 ∀_τ:Fr,(xcut (fun _ a=>b9E x4 a R E) fun j2=>
 xloop [6] [(vI 0)] w fun b c next3=>
 c4j x1 x4 (b 6) c next3 j2 R E)
def c4k(x1 x4 x5 w)(next4:NT)(j1:NT)(_R:RT)(E):=
 opK pG E (fA 25 x1 0) w fun d e=>
 oP E (lA 22 d) e fun f g=>
 oP E (xBuiltin .len #[22] 3 [false] [f]) g fun i j=>
 oP E (bN .lss 3 15 18 x5 i) j fun k c=>
 xcond k
 (oP E (fA 136 x4 0) c fun l m=>
 oP E (lA 4 l) m fun a n=>
 oP E (gYs a (fA 25 x1 0)) n fun o p=>
 oP E (gYs a (lA 22 o)) p fun q r=>
 oP E (gYs a (iA 22 q (zT a x5))) r fun s t=>
 oP E (gYs a (fA 70 s 1)) t fun u v=>
 oP E (gYs a (lA 3 u)) v fun y z=>
 oP E (gYs a (bC .geq 3 30 y (vI 0))) z fun aa ab=>
 oP E (xPick a aa (vB false)) ab fun b ac=>
 oP E (gYs b (fA 25 x1 0)) ac fun ad ae=>
 oP E (gYs b (lA 22 ad)) ae fun af ag=>
 oP E (gYs b (iA 22 af (zT b x5))) ag fun ah ai=>
 oP E (gYs b (fA 70 ah 1)) ai fun aj ak=>
 oP E (gYs b (lA 3 aj)) ak fun al am=>
 oP E (gYs b (bC .leq 3 39 al (vI 2147483647))) am fun an ao=>
 oP E (xPick b an (vB false)) ao fun ap aq=>
 oP E (fA 136 x4 0) aq fun ar au=>
 oP E (sA 4 ar ap) au fun _ av=>
 oP E (fA 25 x1 0) av fun aw ax=>
 oP E (lA 22 aw) ax fun ay az=>
 oP E (iA 22 ay x5) az fun ba bb=>
 oP E (fA 70 ba 0) bb fun bc bd=>
 oP E (lA 9 bc) bd fun be bf=>
 oP E (xCall (fC 73) [x4,be,(vB true)]) bf fun _t49_117 bg=>
 oP E (bC .add 3 20 x5 (vI 1)) bg fun bh bi=>
 next4 [bh] bi)
 (j1 [] c)
def F46(x0 w)(R:RT)(E):=
 opK pG E (xV (Instr.box 25 x0)) w fun a e=>
 oP E (lA 25 a) e fun f g=>
 oP E (xCall (fC 72) [f]) g fun i j=>
 oP E (xV (Instr.alloc 133 true (.tuple #[]))) j fun b k=>
 oP E (sA 133 b i) k fun _ l=>
 oP E (fA 133 b 2) l fun m n=>
 oP E (lA 3 m) n fun o p=>
 oP E (bC .neq 3 10 o (vI 0)) p fun q d=>
 xcond q
 (oP E (fA 133 b 2) d fun r s=>
 oP E (lA 3 r) s fun t u=>
 R t u)
 (oP E (xV (Instr.build 136 #[(0,(vB true)),(1,(vB true))])) d fun v y=>
 oP E (xV (Instr.alloc 136 true (.tuple #[]))) y fun c z=>
 oP E (sA 136 c v) z fun _ aa=>
 xcut (fun _ ab=>b9F a c ab R E) fun j1=>
 xloop [5] [(vI 0)] aa fun ac ad next4=>
 c4k a c (ac 5) ad next4 j1 R E)
def h46:Hint:=(sQ (sQ (hS (sQ (hC (sQ hN) hN)) (sQ (hU [] (sQ (hB (hL [5] (hS (sQ (hC hN hN)) (hS (hB (sQ hN)) hN))))) (hU [] (sQ (hB (hL [6] (hS (sQ (hC hN hN)) (hS (hB hN) hN))))) (sQ hN)))))))
theorem c9D{x0:Value}(h:F46 x0 w R E):Cv pG 46 #[x0] w R E:=okF (h:=h46) Tryz.func46 (by kernel_rfl) (by kernel_rfl) h
def b9G(w)(R:RT)(_E:Pan):=
 ∀_τ:Fr,(R (vI (-1)) w)
def c4l(x0 x1 x5 w)(next2:NT)(j1:NT)(R:RT)(E):=
 opK pG E (xBuiltin .len #[22] 3 [false] [x0]) w fun c d=>
 oP E (bN .lss 3 6 8 x5 c) d fun e a=>
 xcond e
 (oP E (iA 22 x0 x5) a fun f g=>
 oP E (fA 70 f 0) g fun i j=>
 oP E (lA 9 i) j fun k l=>
 oP E (bN .eql 9 16 17 k x1) l fun m b=>
 xcond m
 (R x5 b)
 (oP E (bC .add 3 10 x5 (vI 1)) b fun n o=>
 next2 [n] o))
 (j1 [] a)
def F47(x0 x1 w)(R:RT)(E):=
 xcut (fun _ a=>b9G a R E) fun j1=>
 xloop [5] [(vI 0)] w fun b c next2=>
 c4l x0 x1 (b 5) c next2 j1 R E
def h47:Hint:=(sQ (hU [] (sQ (hB (hL [5] (hS (sQ (hC hN hN)) (hS (hB (sQ (hC (sQ hN) hN))) hN))))) (sQ hN)))
theorem c9E{x0 x1:Value}(h:F47 x0 x1 w R E):Cv pG 47 #[x0,x1] w R E:=okF (h:=h47) Tryz.func47 (by kernel_rfl) (by kernel_rfl) h
def F48(x0 w)(R:RT)(E):=
 opK pG E (xV (Instr.box 25 x0)) w fun a b=>
 oP E (fA 25 a 1) b fun c d=>
 oP E (lA 23 c) d fun e f=>
 oP E (xCall (fC 76) [(nS),e]) f fun g i=>
 R g i
def h48:Hint:=(sQ (sQ hN))
theorem c9F{x0:Value}(h:F48 x0 w R E):Cv pG 48 #[x0] w R E:=okF (h:=h48) Tryz.func48 (by kernel_rfl) (by kernel_rfl) h
def F49(x0 x1 x2 x3 w)(R:RT)(E):=
 opK pG E (xV (Instr.box 60 x1)) w fun a av=>
 oP E (fA 60 a 0) av fun aw ax=>
 oP E (lA 3 aw) ax fun c ay=>
 oP E (bC .eql 3 18 c (vI 7)) ay fun az r=>
 xcond az
 (oP E (xCall (fC 78) [(vI 1),x2,x3]) r fun ba bb=>
 oP E (xCall (fC 77) [x0,ba]) bb fun _t25_11 bc=>
 R (Value.tuple #[]) bc)
 (oP E (bC .eql 3 18 c (vI 1)) r fun bd s=>
 xcond bd
 (oP E (fA 60 a 2) s fun be bf=>
 oP E (lA 57 be) bf fun bg bh=>
 oP E (iA 57 bg (vI 0)) bh fun bi bj=>
 oP E (lA 123 bi) bj fun bk bl=>
 oP E (xCall (fC 79) [x0,bk]) bl fun t bm=>
 oP E (xT t 0) bm fun bn bo=>
 oP E (xT t 1) bo fun bp bq=>
 oP E (xV (Instr.alloc 38 true (.tuple #[]))) bq fun u br=>
 oP E (sA 38 u bn) br fun _ bs=>
 oP E (xV (Op.unary .not bp)) bs fun bt v=>
 xcond bt
 (dX v fun e=>
 qP pG (fA 60 a 2) fun i=>
 qP pG (fA 60 a 1) fun y=>
 qL pG e (blk i) (lA 57 i) fun bu=>
 qP pG (iA 57 bu (vI 0)) fun j=>
 qL pG e (blk j) (lA 123 j) fun bv=>
 qL pG e (blk y) (lA 9 y) fun bw=>
 oP E (xCall (fC 81) [x0,bw]) e fun bz k=>
 keepX [(blk j),(blk i)] e k (opK pG E (xCall (fC 80) [x0,bv,bz,x2,x3,(vI 0)]) k fun _t50_44 z=>
 keepX [] k z (R (Value.tuple #[]) z)))
 (oP E (xCall (fC 78) [(vI 2),x2,x3]) v fun ca cb=>
 oP E (xV (Instr.alloc 40 true (.tuple #[]))) cb fun g cc=>
 oP E (sA 40 g ca) cc fun _ cd=>
 oP E (fA 60 a 1) cd fun ce cf=>
 oP E (lA 9 ce) cf fun cg ch=>
 oP E (xCall (fC 81) [x0,cg]) ch fun ci cj=>
 oP E (fA 40 g 3) cj fun ck cl=>
 oP E (sA 3 ck ci) cl fun _ cm=>
 oP E (lA 38 u) cm fun cn co=>
 oP E (fA 40 g 6) co fun cp cq=>
 oP E (sA 38 cp cn) cq fun _ cr=>
 oP E (lA 40 g) cr fun cs ct=>
 oP E (xCall (fC 77) [x0,cs]) ct fun _t63_70 cu=>
 R (Value.tuple #[]) cu))
 (oP E (bC .eql 3 18 c (vI 2)) s fun cv aa=>
 xcond cv
 (oP E (xCall (fC 78) [(vI 11),x2,x3]) aa fun cw cx=>
 oP E (xV (Instr.alloc 40 true (.tuple #[]))) cx fun b cy=>
 oP E (sA 40 b cw) cy fun _ cz=>
 oP E (fA 60 a 1) cz fun da db=>
 oP E (lA 9 da) db fun dc dd=>
 oP E (xCall (fC 82) [x0,dc]) dd fun de df=>
 oP E (fA 40 b 4) df fun dg dh=>
 oP E (sA 3 dg de) dh fun _ di=>
 oP E (fA 60 a 2) di fun dj dk=>
 oP E (lA 57 dj) dk fun dl dm=>
 oP E (iA 57 dl (vI 0)) dm fun dn dp=>
 oP E (lA 123 dn) dp fun dq dr=>
 oP E (xCall (fC 83) [x0,dq,x2,(vI 0)]) dr fun ab ds=>
 oP E (xT ab 0) ds fun dt du=>
 oP E (xT ab 1) du fun dv dw=>
 oP E (fA 40 b 6) dw fun dx dy=>
 oP E (sA 38 dx dt) dy fun _ dz=>
 oP E (fA 40 b 0) dz fun ea eb=>
 oP E (sA 3 ea dv) eb fun _ ec=>
 dX ec fun d=>
 qP pG (fA 60 a 2) fun l=>
 qP pG (fA 40 b 0) fun m=>
 qP pG (fA 60 a 2) fun ac=>
 qL pG d (blk l) (lA 57 l) fun ed=>
 qP pG (iA 57 ed (vI 1)) fun n=>
 qL pG d (blk n) (lA 123 n) fun ee=>
 qL pG d (blk m) (lA 3 m) fun ef=>
 qL pG d (blk ac) (lA 57 ac) fun eg=>
 qP pG (iA 57 eg (vI 0)) fun ad=>
 qL pG d (blk ad) (lA 123 ad) fun eh=>
 oP E (xCall (fC 84) [eh,(vI 0)]) d fun ei o=>
 keepX [(blk m),(blk n),(blk l)] d o (opK pG E (xCall (fC 83) [x0,ee,ef,ei]) o fun ae p=>
 keepX [] o p (qP pG (xT ae 0) fun ej=>
 qP pG (xT ae 1) fun ek=>
 qP pG (fA 40 b 7) fun el=>
 oP E (sA 38 el ej) p fun _ q=>
 keepX [] p q (qP pG (fA 40 b 0) fun em=>
 oP E (sA 3 em ek) q fun _ af=>
 keepX [] q af (opK pG E (lA 40 b) af fun en eo=>
 oP E (xCall (fC 77) [x0,en]) eo fun _t106_137 ep=>
 R (Value.tuple #[]) ep)))))
 (oP E (bC .eql 3 18 c (vI 3)) aa fun eq ag=>
 xcond eq
 (oP E (fA 60 a 4) ag fun er es=>
 oP E (lA 23 er) es fun et eu=>
 oP E (xCall (fC 85) [x0,et,x3]) eu fun ah ev=>
 oP E (fA 60 a 5) ev fun ew ex=>
 oP E (lA 23 ew) ex fun ey ez=>
 oP E (xCall (fC 85) [x0,ey,x3]) ez fun ai fa=>
 oP E (fA 60 a 3) fa fun fb fc=>
 oP E (lA 58 fb) fc fun fd fe=>
 oP E (iA 58 fd (vI 0)) fe fun ff fg=>
 oP E (lA 131 ff) fg fun fh fi=>
 oP E (xCall (fC 86) [x0,fh,x2,ah,ai]) fi fun _t127_161 fj=>
 oP E (fA 60 a 4) fj fun fk fl=>
 oP E (lA 23 fk) fl fun fm fn=>
 oP E (xCall (fC 87) [x0,fm,ah,x3]) fn fun _t133_167 fo=>
 oP E (fA 60 a 5) fo fun fp fq=>
 oP E (lA 23 fp) fq fun fs ft=>
 oP E (xCall (fC 87) [x0,fs,ai,x3]) ft fun _t139_173 fu=>
 R (Value.tuple #[]) fu)
 (oP E (bC .eql 3 18 c (vI 4)) ag fun fv aj=>
 xcond fv
 (oP E (fA 60 a 4) aj fun fw fx=>
 oP E (lA 23 fw) fx fun fy fz=>
 oP E (xCall (fC 85) [x0,fy,x2]) fz fun ak ga=>
 oP E (fA 60 a 3) ga fun gb gc=>
 oP E (lA 58 gb) gc fun gd ge=>
 oP E (iA 58 gd (vI 0)) ge fun gf gg=>
 oP E (lA 131 gf) gg fun gh gi=>
 oP E (xCall (fC 86) [x0,gh,x2,ak,x3]) gi fun _t155_191 gj=>
 oP E (fA 60 a 4) gj fun gk gl=>
 oP E (lA 23 gk) gl fun gm gn=>
 oP E (xCall (fC 87) [x0,gm,ak,x2]) gn fun _t161_197 go=>
 R (Value.tuple #[]) go)
 (oP E (bC .eql 3 18 c (vI 5)) aj fun gp al=>
 xcond gp
 (oP E (xCall (fC 28) [x0]) al fun am gq=>
 oP E (xCall (fC 28) [x0]) gq fun an gr=>
 oP E (fA 60 a 3) gr fun gs gt=>
 oP E (lA 58 gs) gt fun gu gv=>
 oP E (iA 58 gu (vI 0)) gv fun gw gx=>
 oP E (lA 131 gw) gx fun gy gz=>
 oP E (xCall (fC 86) [x0,gy,x2,am,an]) gz fun _t176_213 ha=>
 oP E (xCall (fC 78) [(vI 13),am,x3]) ha fun hb hc=>
 oP E (xCall (fC 77) [x0,hb]) hc fun _t181_217 hd=>
 oP E (xCall (fC 78) [(vI 14),an,x3]) hd fun he hf=>
 oP E (xCall (fC 77) [x0,he]) hf fun _t186_221 hg=>
 R (Value.tuple #[]) hg)
 (oP E (bC .eql 3 18 c (vI 6)) al fun hh ao=>
 xcond hh
 (dX ao fun f=>
 qP pG (fA 60 a 3) fun ap=>
 qP pG (xNil x0) fun hi=>
 qP pG (fA 77 hi 0) fun hj=>
 qP pG (fA 30 hj 4) fun aq=>
 qL pG f (blk ap) (lA 58 ap) fun hk=>
 qP pG (iA 58 hk (vI 0)) fun ar=>
 qL pG f (blk ar) (lA 131 ar) fun hl=>
 qL pG f (blk aq) (lA 3 aq) fun hm=>
 oP E (xCall (fC 86) [x0,hl,x2,x3,hm]) f fun _t201_234 au=>
 keepX [] f au (R (Value.tuple #[]) au))
 (R (Value.tuple #[]) ao)))))))
def h49:Hint:=(sQ (sQ (hB (sQ (hC hN (sQ (hC (sQ (hS (sQ (hC (hS (.reg [(0,549755813888,1),(0,1099511627776,32),(2,2199023255552,1099511627776),(4,4398046511104,2199023255552),(8,8796093022208,4398046511104),(0,17592186044416,1),(0,35184372088832,32),(64,70368744177664,35184372088832),(160,140737488355328,87960930222080),(0,281474976710656,4),(0,562949953421312,8),(1809,1125899906842624,994508267323392)] [148,148,144,148,132,148,148,20,20,148,148,0] (.early 0 (.early 1 (.early 5 (.early 6 (.early 9 (.early 10 (.load 2 (.early 3 (.load 4 (.load 7 (.step 8 (.step 11 .done))))))))))))) hN) hN)) (sQ (sQ (sQ hN))))) (sQ (hC (sQ (sQ (sQ (hS (.reg [(0,154742504910672534362390528,1),(0,309485009821345068724781056,32),(2,618970019642690137449562112,309485009821345068724781056),(4,1237940039285380274899124224,618970019642690137449562112),(8,2475880078570760549798248448,1237940039285380274899124224),(0,4951760157141521099596496896,2048),(32,9903520314283042199192993792,4951760157141521099596496896),(0,19807040628566084398385987584,32),(128,39614081257132168796771975168,19807040628566084398385987584),(256,79228162514264337593543950336,39614081257132168796771975168),(512,158456325028528675187087900672,79228162514264337593543950336),(1024,316912650057057350374175801344,158456325028528675187087900672),(2129,633825300114114700748351602688,329446792954821825657529434112),(4096,77371252455336267181195264,633825300114114700748351602688),(8192,1267650600228229401496703205376,77371252455336267181195264),(8192,2535301200456458802993406410752,77371252455336267181195264),(32767,5070602400912917605986812821504,2048),(98303,0,6338253001141147007483516026880),(262143,10141204801825835211973625643008,2048),(524287,0,12676506002282294014967032053760)] [1364,1364,1360,1364,1348,1364,1300,1364,1108,1364,340,84,0,1364,1364,1364,1364,0,1364,0] (.early 0 (.early 1 (.early 5 (.early 7 (.load 2 (.early 3 (.load 4 (.load 6 (.load 8 (.early 9 (.load 10 (.step 11 (.step 12 (.early 13 (.early 14 (.early 15 (.early 16 (.step 17 (.early 18 (.step 19 .done))))))))))))))))))))) hN)))) (sQ (hC (sQ (sQ (sQ (sQ hN)))) (sQ (hC (sQ (sQ hN)) (sQ (hC (sQ (sQ (sQ (sQ hN)))) (sQ (hC (.reg [(0,784637716923335095479473677900958302012794430558004314112,1),(0,1569275433846670190958947355801916604025588861116008628224,32),(2,3138550867693340381917894711603833208051177722232017256448,1569275433846670190958947355801916604025588861116008628224),(4,6277101735386680763835789423207666416102355444464034512896,3138550867693340381917894711603833208051177722232017256448),(8,12554203470773361527671578846415332832204710888928069025792,6277101735386680763835789423207666416102355444464034512896),(0,25108406941546723055343157692830665664409421777856138051584,4),(0,50216813883093446110686315385661331328818843555712276103168,8),(0,100433627766186892221372630771322662657637687111424552206336,1),(128,200867255532373784442745261542645325315275374222849104412672,100433627766186892221372630771322662657637687111424552206336),(256,401734511064747568885490523085290650630550748445698208825344,200867255532373784442745261542645325315275374222849104412672),(512,803469022129495137770981046170581301261101496891396417650688,401734511064747568885490523085290650630550748445698208825344),(1024,1606938044258990275541962092341162602522202993782792835301376,803469022129495137770981046170581301261101496891396417650688),(2161,3213876088517980551083924184682325205044405987565585670602752,1695602106271327141331142617943970890649648764435847322796032)] [2068,2068,2064,2068,2052,2068,2068,2068,2068,2068,2068,20,0] (.early 0 (.early 1 (.early 5 (.early 6 (.early 7 (.early 8 (.early 9 (.early 10 (.load 2 (.early 3 (.load 4 (.load 11 (.step 12 .done)))))))))))))) hN)))))))))))))))))
theorem c9G{x0 x1 x2 x3:Value}(h:F49 x0 x1 x2 x3 w R E):Cv pG 49 #[x0,x1,x2,x3] w R E:=okF (h:=h49) Tryz.func49 (by kernel_rfl) (by kernel_rfl) h
def b9H(x3 w)(R:RT)(_E:Pan):=
 ∀_τ:Fr,(R x3 w)
def b9I(_x0 x3 x4:Value)(w)(next2:NT)(_R:RT)(E):=
 ∀_τ:Fr,(oP E (bC .add 3 11 x4 (vI 1)) w fun a b=>
 next2 [x3,a] b)
def b9J(_x0 x3 _x4 x5:Value)(w)(j3:NT)(_R:RT)(E):=
 ∀_τ:Fr,(dX w fun a=>
 qP pG (fA 60 x5 4) fun d=>
 qP pG (fA 60 x5 5) fun b=>
 qL pG a (blk d) (lA 23 d) fun f=>
 qL pG a (blk b) (lA 23 b) fun g=>
 oP E (xCall (fC 50) [f]) a fun i c=>
 keepX [(blk b)] a c (opK pG E (xCall (fC 50) [g]) c fun j e=>
 keepX [] c e (qP pG (xBuiltin .max #[3,3,3] 3 [false,false,false] [x3,i,j]) fun k=>
 j3 [k] e)))
def c4m(_x0 x3 _x4 x5 x6:Value)(w)(next5:NT)(j4:NT)(_R:RT)(E):=
 opK pG E (fA 60 x5 3) w fun b c=>
 oP E (lA 58 b) c fun d e=>
 oP E (xBuiltin .len #[58] 3 [false] [d]) e fun f g=>
 oP E (bN .lss 3 19 22 x6 f) g fun i a=>
 xcond i
 (oP E (fA 60 x5 3) a fun j k=>
 oP E (lA 58 j) k fun l m=>
 oP E (iA 58 l x6) m fun n o=>
 oP E (lA 131 n) o fun p q=>
 oP E (xCall (fC 90) [p]) q fun r s=>
 oP E (xBuiltin .max #[3,3] 3 [false,false] [x3,r]) s fun t u=>
 oP E (bC .add 3 24 x6 (vI 1)) u fun v y=>
 next5 [t,v] y)
 (j4 [x3] a)
def c4n(x0 x3 x4 w)(next2:NT)(j1:NT)(R:RT)(E):=
 opK pG E (xBuiltin .len #[23] 3 [false] [x0]) w fun r s=>
 oP E (bN .lss 3 7 9 x4 r) s fun t j=>
 xcond t
 (xcut (fun u v=>b9I x0 (nth u 0) x4 v next2 R E) fun j3=>
 oP E (iA 23 x0 x4) j fun y z=>
 oP E (lA 60 y) z fun aa ab=>
 oP E (xV (Instr.alloc 60 true (.tuple #[]))) ab fun a ac=>
 oP E (sA 60 a aa) ac fun _ ad=>
 xcut (fun ae af=>b9J x0 (nth ae 0) x4 a af j3 R E) fun j4=>
 oP E (fA 60 a 0) ad fun ag ah=>
 oP E (lA 3 ag) ah fun k ai=>
 oP E (bC .eql 3 18 k (vI 1)) ai fun aj l=>
 xcond aj
 (oP E (fA 60 a 2) l fun ak al=>
 oP E (lA 57 ak) al fun am an=>
 oP E (iA 57 am (vI 0)) an fun ao ap=>
 oP E (lA 123 ao) ap fun aq ar=>
 oP E (xCall (fC 88) [aq,(vI 0)]) ar fun au av=>
 oP E (xBuiltin .max #[3,3] 3 [false,false] [x3,au]) av fun aw ax=>
 j4 [aw] ax)
 (oP E (bC .eql 3 18 k (vI 2)) l fun ay m=>
 xcond ay
 (dX m fun b=>
 qP pG (fA 60 a 2) fun n=>
 qP pG (fA 60 a 2) fun c=>
 qP pG (fA 60 a 2) fun e=>
 qL pG b (blk n) (lA 57 n) fun az=>
 qP pG (iA 57 az (vI 0)) fun o=>
 qL pG b (blk o) (lA 123 o) fun ba=>
 qL pG b (blk c) (lA 57 c) fun bb=>
 qP pG (iA 57 bb (vI 1)) fun d=>
 qL pG b (blk d) (lA 123 d) fun bc=>
 qL pG b (blk e) (lA 57 e) fun bd=>
 qP pG (iA 57 bd (vI 0)) fun f=>
 qL pG b (blk f) (lA 123 f) fun be=>
 oP E (xCall (fC 89) [ba,(vI 0)]) b fun bf g=>
 keepX [(blk f),(blk e),(blk d),(blk c)] b g (opK pG E (xCall (fC 84) [be,(vI 0)]) g fun bg i=>
 keepX [(blk d),(blk c)] g i (opK pG E (xCall (fC 89) [bc,bg]) i fun bh p=>
 keepX [] i p (qP pG (xBuiltin .max #[3,3,3] 3 [false,false,false] [x3,bf,bh]) fun bi=>
 j4 [bi] p))))
 (xloop [3,6] [x3,(vI 0)] m fun q bj next5=>
 c4m x0 (q 3) x4 a (q 6) bj next5 j4 R E)))
 (j1 [x3] j)
def F50(x0 w)(R:RT)(E):=
 xcut (fun b c=>b9H (nth b 0) c R E) fun j1=>
 xloop [3,4] [(vI 0),(vI 0)] w fun a d next2=>
 c4n x0 (a 3) (a 4) d next2 j1 R E
def h50:Hint:=(sQ (sQ (hU [3] (sQ (hB (hL [3,4] (hS (sQ (hC hN hN)) (hU [3] (hB (sQ (hU [3] (sQ (hB (sQ (hC hN (sQ (hC (.reg [(0,35184372088832,8),(0,70368744177664,32),(2,140737488355328,70368744177664),(4,281474976710656,140737488355328),(8,562949953421312,281474976710656),(16,1125899906842624,562949953421312),(0,2251799813685248,32),(64,4503599627370496,2251799813685248),(128,9007199254740992,4503599627370496),(256,18014398509481984,9007199254740992),(0,36028797018963968,32),(1024,72057594037927936,36028797018963968),(2048,144115188075855872,72057594037927936),(4096,288230376151711744,144115188075855872),(8224,576460752303423488,288230376151711744),(16896,1152921504606846976,594475150812905472),(32801,2305843009213693952,1154082588885778432),(131071,8,2305843009213693952)] [10900,10900,10896,10900,10884,10880,10900,10772,10900,10388,10900,8852,10900,2708,640,0,10900,10900] (.early 0 (.early 1 (.early 6 (.early 10 (.load 2 (.early 3 (.load 4 (.load 7 (.early 8 (.load 9 (.load 11 (.early 12 (.load 13 (.step 5 (.step 14 (.step 15 (.early 16 (.early 17 .done))))))))))))))))))) (sQ (hB (hL [3,6] (hS (sQ (hC hN hN)) (hS (hB hN) hN))))))))))) (.reg [(0,4611686018427387904,8),(0,9223372036854775808,32),(2,18446744073709551616,9223372036854775808),(4,36893488147419103232,18446744073709551616),(0,73786976294838206464,32),(16,147573952589676412928,73786976294838206464),(40,295147905179352825856,147573952589676412928),(73,590295810358705651712,336653079345199316992),(255,8,590295810358705651712)] [36,36,32,32,36,4,0,36,36] (.early 0 (.early 1 (.early 4 (.load 2 (.load 5 (.step 3 (.step 6 (.early 7 (.early 8 .done))))))))))))) hN))))) (sQ hN))))
theorem c9H{x0:Value}(h:F50 x0 w R E):Cv pG 50 #[x0] w R E:=okF (h:=h50) Tryz.func50 (by kernel_rfl) (by kernel_rfl) h
def F52(x0 w)(R:RT)(E):=
 opK pG E (bC .eql 3 3 x0 (vI 1)) w fun g a=>
 xcond g
 (R (vI 6) a)
 (oP E (bC .eql 3 3 x0 (vI 2)) a fun i b=>
 xcond i
 (R (vI 5) b)
 (oP E (bC .eql 3 3 x0 (vI 3)) b fun j c=>
 xcond j
 (R (vI 4) c)
 (oP E (bC .eql 3 3 x0 (vI 4)) c fun k d=>
 xcond k
 (R (vI 3) d)
 (oP E (bC .eql 3 3 x0 (vI 5)) d fun l e=>
 xcond l
 (R (vI 2) e)
 (oP E (bC .eql 3 3 x0 (vI 6)) e fun m f=>
 xcond m
 (R (vI 1) f)
 (R (vI 0) f))))))
def h52:Hint:=(sQ (hS (sQ (hB (sQ (hC (sQ hN) (sQ (hC (sQ hN) (sQ (hC (sQ hN) (sQ (hC (sQ hN) (sQ (hC (sQ hN) (sQ (hC (sQ hN) hN)))))))))))))) (sQ hN)))
theorem c9I{x0:Value}(h:F52 x0 w R E):Cv pG 52 #[x0] w R E:=okF (h:=h52) Tryz.func52 (by kernel_rfl) (by kernel_rfl) h
def F58(w)(R:RT)(E):=
 opK pG E (xV (Instr.alloc 38 true (.tuple #[]))) w fun a c=>
 oP E (xV (Instr.build 38 #[(0,(vI (-1)))])) c fun d e=>
 oP E (sA 38 a d) e fun _ b=>
 xcell pG 38 a b fun f=>
 R f b
def h58:Hint:=(sQ (sQ hN))
theorem c9J(h:F58  w R E):Cv pG 58 #[] w R E:=okF (h:=h58) Tryz.func58 (by kernel_rfl) (by kernel_rfl) h
def F59(x0 w)(R:RT)(E):=
 opK pG E (bC .lss 3 3 x0 (vI 1)) w fun a c=>
 oP E (gNo a (bC .gtr 3 6 (zF a x0) (vI 6))) c fun d e=>
 oP E (xPick a (vB true) d) e fun f b=>
 xcond f
 (R (vI 0) b)
 (oP E (xV (Instr.build 148 #[(0,(vI 0)),(1,(vI 6)),(2,(vI 5)),(3,(vI 4)),(4,(vI 3)),(5,(vI 2)),(6,(vI 1))])) b fun g i=>
 oP E (xV (Instr.index 148 g x0)) i fun j k=>
 R j k)
def h59:Hint:=(sQ (hS (sQ (hC (sQ hN) hN)) (sQ hN)))
theorem c9K{x0:Value}(h:F59 x0 w R E):Cv pG 59 #[x0] w R E:=okF (h:=h59) Tryz.func59 (by kernel_rfl) (by kernel_rfl) h
def b9K(x7 x9 w)(R:RT)(_E:Pan):=
 ∀_τ:Fr,(R (Value.tuple #[x9,x7]) w)
def c4o(x5 x7 x9 x37 x38 x39 w)(next2:NT)(j1:NT)(_R:RT)(E):=
 opK pG E (bN .lss 3 39 38 x39 x38) w fun f b=>
 xcond f
 (oP E (iA 153 x37 x39) b fun g i=>
 oP E (lA 158 g) i fun j k=>
 oP E (xV (Instr.alloc 158 true (.tuple #[]))) k fun a l=>
 oP E (sA 158 a j) l fun _ m=>
 oP E (fA 158 a 0) m fun n o=>
 oP E (lA 9 n) o fun p q=>
 oP E (xV (Instr.lookup 66 x5 p false)) q fun c r=>
 oP E (fA 158 a 1) r fun s t=>
 oP E (lA 3 s) t fun u v=>
 oP E (bN .eql 3 46 51 c u) v fun y d=>
 xcond y
 (oP E (bC .add 3 39 x39 (vI 1)) d fun z aa=>
 next2 [x7,x9,z] aa)
 (oP E (bC .eql 3 46 c (vI 0)) d fun ab e=>
 xcond ab
 (oP E (fA 158 a 0) e fun ac ad=>
 oP E (lA 9 ac) ad fun ae af=>
 j1 [(vI 63),ae] af)
 (oP E (fA 158 a 0) e fun ag ah=>
 oP E (lA 9 ag) ah fun ai aj=>
 j1 [(vI 64),ai] aj)))
 (j1 [x7,x9] b)
def F61(x0 w)(R:RT)(E):=
 opK pG E (xV (Instr.box 25 x0)) w fun a l=>
 oP E (lA 25 a) l fun m n=>
 oP E (xCall (fC 92) [m]) n fun e o=>
 oP E (bC .neq 31 14 e (vI 0)) o fun p f=>
 xcond p
 (R (Value.tuple #[(eS),e]) f)
 (oP E (fA 25 a 0) f fun q r=>
 oP E (lA 22 q) r fun s t=>
 oP E (xCall (fC 93) [s]) t fun b u=>
 oP E (xT b 0) u fun v y=>
 oP E (xT b 1) y fun z aa=>
 oP E (xT b 2) aa fun c ab=>
 oP E (bC .neq 31 24 c (vI 0)) ab fun ac g=>
 xcond ac
 (R (Value.tuple #[z,c]) g)
 (oP E (xV (Instr.build 155 #[])) g fun ad ae=>
 oP E (xV (Instr.box 155 ad)) ae fun i af=>
 oP E (fA 25 a 1) af fun ag ah=>
 oP E (lA 23 ag) ah fun ai aj=>
 oP E (xCall (fC 94) [i,ai]) aj fun _t33_31 ak=>
 xcut (fun j al=>b9K (nth j 0) (nth j.tail 0) al R E) fun j1=>
 oP E (xNil i) ak fun am an=>
 oP E (fA 155 am 0) an fun ao ap=>
 oP E (lA 153 ao) ap fun k aq=>
 oP E (xBuiltin .len #[153] 3 [false] [k]) aq fun ar au=>
 xloop [7,9,39] [c,(eS),(vI 0)] au fun d av next2=>
 c4o v (d 7) (d 9) k ar (d 39) av next2 j1 R E))
def h61:Hint:=(sQ (.scope (hS (sQ (sQ (hC (sQ hN) hN))) (sQ (hS (sQ (hC (sQ hN) hN)) (sQ (sQ (sQ (sQ (hU [7,9] (sQ (hB (hL [7,9,39] (sQ (hS (hC hN hN) (hS (hB (sQ (sQ (hB (sQ (hC hN (sQ (hC (sQ hN) (sQ hN))))))))) hN)))))) (sQ hN)))))))))))
theorem c9L{x0:Value}(h:F61 x0 w R E):Cv pG 61 #[x0] w R E:=okF (h:=h61) Tryz.func61 (by kernel_rfl) (by kernel_rfl) h
def c4p(x0 x5 w)(R:RT)(E):=
 ∀_τ:Fr,(oP E (xV (Instr.sliceAt 22 x0 (some x5) none none)) w fun a b=>
 oP E (xBuiltin .clear #[22] 0 [false] [a]) b fun _ c=>
 oP E (xV (Instr.sliceAt 22 x0 none (some x5) none)) c fun d e=>
 R d e)
def b9L(_x0 _x1 x5 x6:Value)(w)(next2:NT)(_R:RT)(E):=
 ∀_τ:Fr,(oP E (bC .add 3 20 x6 (vI 1)) w fun a b=>
 next2 [x5,a] b)
def c4q(x0 x1 x5 x6 w)(next2:NT)(j1:NT)(R:RT)(E):=
 opK pG E (xBuiltin .len #[22] 3 [false] [x0]) w fun d e=>
 oP E (bN .lss 3 16 18 x6 d) e fun f b=>
 xcond f
 (xcut (fun g i=>b9L x0 x1 (nth g 0) x6 i next2 R E) fun j3=>
 oP E (iA 22 x0 x6) b fun j k=>
 oP E (lA 70 j) k fun l m=>
 oP E (xV (Instr.alloc 70 true (.tuple #[]))) m fun a n=>
 oP E (sA 70 a l) n fun _ o=>
 oP E (lA 70 a) o fun p q=>
 oP E (xCall x1 [p]) q fun r s=>
 oP E (xV (Op.unary .not r)) s fun t c=>
 xcond t
 (oP E (lA 70 a) c fun u v=>
 oP E (iA 22 x0 x5) v fun y z=>
 oP E (sA 70 y u) z fun _ aa=>
 oP E (bC .add 3 34 x5 (vI 1)) aa fun ab ac=>
 j3 [ab] ac)
 (j3 [x5] c))
 (j1 [x5] b)
def F62(x0 x1 w)(R:RT)(E):=
 opK pG E (xCall (fC 95) [x0,x1]) w fun a d=>
 oP E (bC .eql 3 11 a (vI (-1))) d fun e b=>
 xcond e
 (R x0 b)
 (xcut (fun f g=>c4p x0 (nth f 0) g R E) fun j1=>
 oP E (bC .add 3 14 a (vI 1)) b fun i j=>
 xloop [5,6] [a,i] j fun c k next2=>
 c4q x0 x1 (c 5) (c 6) k next2 j1 R E)
def h62:Hint:=(sQ (sQ (hS (sQ (hC (sQ hN) hN)) (hU [5] (sQ (hB (hL [5,6] (hS (sQ (hC hN hN)) (hU [5] (hB (sQ (sQ (hC (sQ hN) hN)))) hN))))) (sQ (sQ hN))))))
theorem c9M{x0 x1:Value}(h:F62 x0 x1 w R E):Cv pG 62 #[x0,x1] w R E:=okF (h:=h62) Tryz.func62 (by kernel_rfl) (by kernel_rfl) h
def F63(x0 w)(R:RT)(E):=
 opK pG E (bC .eql 22 3 x0 (nS)) w fun b a=>
 xcond b
 (R (nS) a)
 (oP E (xV (Instr.buildSlice 22 0 #[])) a fun c d=>
 oP E (xBuiltin .append #[22,22] 22 [false,false] [c,x0]) d fun e f=>
 R e f)
def h63:Hint:=(sQ (hS (sQ (hC (sQ hN) hN)) (sQ hN)))
theorem c9N{x0:Value}(h:F63 x0 w R E):Cv pG 63 #[x0] w R E:=okF (h:=h63) Tryz.func63 (by kernel_rfl) (by kernel_rfl) h
def F64(x0 x1 w)(R:RT)(E):=
 opK pG E (xV (Instr.box 70 x0)) w fun b d=>
 dX d fun a=>
 qL pG a (blk b) (lA 70 b) fun e=>
 qL pG a (blk x1) (lA 3 x1) fun f=>
 oP E (xCall (fC 65) [e]) a fun g c=>
 keepX [(blk x1)] a c (qP pG (bN .neq 3 5 6 g f) fun i=>
 R i c)
def h64:Hint:=(sQ (hS (.reg [(0,16,4),(1,32,16),(0,64,2),(6,128,96),(15,8,128)] [4,4,1,5,5] (.load 0 (.load 2 (.step 1 (.early 3 (.early 4 .done)))))) hN))
theorem c9O{x0 x1:Value}(h:F64 x0 x1 w R E):Cv pG 64 #[x0,x1] w R E:=okF (h:=h64) Tryz.func64 (by kernel_rfl) (by kernel_rfl) h
def F65(x0 w)(R:RT)(E):=
 opK pG E (xV (Instr.box 70 x0)) w fun b c=>
 oP E (fA 70 b 1) c fun d e=>
 oP E (lA 3 d) e fun f g=>
 oP E (bC .gtr 3 4 f (vI 0)) g fun i a=>
 xcond i
 (R (vI 2) a)
 (R (vI 1) a)
def h65:Hint:=(sQ (hS (sQ (hC (sQ hN) hN)) (sQ hN)))
theorem c9P{x0:Value}(h:F65 x0 w R E):Cv pG 65 #[x0] w R E:=okF (h:=h65) Tryz.func65 (by kernel_rfl) (by kernel_rfl) h
def F66(x0 x1 x2 x3 x4 w)(R:RT)(E):=
 opK pG E (xV (Instr.box 123 x2)) w fun e j=>
 oP E (lA 123 e) j fun k l=>
 oP E (xCall (fC 96) [x0,k]) l fun f m=>
 oP E (xT f 0) m fun n o=>
 oP E (xT f 1) o fun p q=>
 oP E (xV (Instr.alloc 38 true (.tuple #[]))) q fun a r=>
 oP E (sA 38 a n) r fun _ s=>
 oP E (xV (Op.unary .not p)) s fun t g=>
 xcond t
 (oP E (lA 123 e) g fun u v=>
 oP E (xCall (fC 97) [x0,u,x1,x3,x4,(vI 0)]) v fun _t26_19 y=>
 R (Value.tuple #[]) y)
 (oP E (xCall (fC 67) [x3,x4,(vI 2)]) g fun z aa=>
 oP E (xV (Instr.alloc 40 true (.tuple #[]))) aa fun b ab=>
 oP E (sA 40 b z) ab fun _ ac=>
 dX ac fun c=>
 qP pG (fA 40 b 3) fun ad=>
 qL pG c (blk a) (lA 38 a) fun ae=>
 oP E (sA 3 ad x1) c fun _ d=>
 keepX [(blk a)] c d (qP pG (fA 40 b 6) fun af=>
 oP E (sA 38 af ae) d fun _ i=>
 keepX [] d i (opK pG E (lA 40 b) i fun ag ah=>
 oP E (xCall (fC 69) [x0,ag]) ah fun _t36_37 ai=>
 R (Value.tuple #[]) ai)))
def h66:Hint:=(sQ (sQ (hS (sQ (hC (sQ hN) hN)) (sQ (hS (.reg [(0,1073741824,2),(0,2147483648,1024),(1,4294967296,4096),(5,0,5368709120),(15,8589934592,4096),(31,0,10737418240)] [2,0,2,2,2,0] (.early 0 (.early 2 (.load 1 (.step 3 (.early 4 (.step 5 .done))))))) hN)))))
theorem c9Q{x0 x1 x2 x3 x4:Value}(h:F66 x0 x1 x2 x3 x4 w R E):Cv pG 66 #[x0,x1,x2,x3,x4] w R E:=okF (h:=h66) Tryz.func66 (by kernel_rfl) (by kernel_rfl) h
def F67(x0 x1 x2 w)(R:RT)(E):=
 opK pG E (xV (Instr.alloc 40 true (.tuple #[]))) w fun a c=>
 oP E (xCall (fC 58) []) c fun d e=>
 oP E (xCall (fC 58) []) e fun f g=>
 oP E (xV (Instr.build 40 #[(0,x0),(1,x1),(2,x2),(3,(vI (-1))),(4,(vI (-1))),(6,d),(7,f)])) g fun i j=>
 oP E (sA 40 a i) j fun _ b=>
 xcell pG 40 a b fun k=>
 R k b
def h67:Hint:=(sQ (sQ hN))
theorem c9R{x0 x1 x2:Value}(h:F67 x0 x1 x2 w R E):Cv pG 67 #[x0,x1,x2] w R E:=okF (h:=h67) Tryz.func67 (by kernel_rfl) (by kernel_rfl) h
def F68(x0 x1 x2 x3 w)(R:RT)(E):=
 opK pG E (xV (Instr.alloc 38 true (.tuple #[]))) w fun a n=>
 oP E (xV (Instr.alloc 38 true (.tuple #[]))) n fun b o=>
 oP E (iA 57 x1 (vI 0)) o fun p q=>
 oP E (lA 123 p) q fun r s=>
 oP E (xCall (fC 98) [x0,r,x2,x3]) s fun k t=>
 oP E (xT k 0) t fun u v=>
 oP E (xT k 1) v fun y z=>
 oP E (sA 38 a u) z fun _ aa=>
 dX aa fun c=>
 qP pG (iA 57 x1 (vI 1)) fun f=>
 qL pG c (blk f) (lA 123 f) fun ab=>
 qL pG c (blk a) (lA 38 a) fun ac=>
 oP E (xCall (fC 99) [x0,ac,x3]) c fun ad g=>
 keepX [(blk f)] c g (opK pG E (xCall (fC 98) [x0,ab,y,ad]) g fun l i=>
 keepX [] g i (qP pG (xT l 0) fun ae=>
 qP pG (xT l 1) fun af=>
 oP E (sA 38 b ae) i fun _ m=>
 keepX [] i m (dX m fun d=>
 qL pG d (blk a) (lA 38 a) fun ag=>
 qL pG d (blk b) (lA 38 b) fun ah=>
 oP E (sA 38 a ag) d fun _ j=>
 keepX [(blk b)] d j (opK pG E (sA 38 b ah) j fun _ e=>
 keepX [] j e (xcell pG 38 a e fun ai=>
 xcell pG 38 b e fun aj=>
 R (Value.tuple #[ai,aj,af]) e)))))
def h68:Hint:=(sQ (sQ (hS (.reg [(0,4194304,1),(0,8388608,2),(2,16777216,8388608),(4,33554432,16777216),(0,67108864,1024),(0,134217728,1),(0,268435456,256),(0,536870912,8),(224,1073741824,939524096),(281,2147483648,1178599424),(512,2097152,2147483648),(1024,4294967296,2097152),(1024,8589934592,2097152),(4095,0,4294967808),(16383,1024,8589934592)] [72,72,72,64,72,72,8,72,8,0,72,72,72,0,72] (.early 0 (.early 1 (.early 2 (.early 4 (.early 5 (.early 7 (.load 3 (.load 6 (.step 8 (.step 9 (.early 10 (.early 11 (.early 12 (.step 13 (.early 14 .done)))))))))))))))) (hS (.reg [(0,17179869184,256),(0,34359738368,512),(0,68719476736,1024),(1,0,17179869440),(11,0,34359738880),(31,1024,68719476736)] [2,1,3,2,0,3] (.early 2 (.load 0 (.load 1 (.step 3 (.step 4 (.early 5 .done))))))) hN))))
theorem c9S{x0 x1 x2 x3:Value}(h:F68 x0 x1 x2 x3 w R E):Cv pG 68 #[x0,x1,x2,x3] w R E:=okF (h:=h68) Tryz.func68 (by kernel_rfl) (by kernel_rfl) h
def F69(x0 x1 w)(R:RT)(E):=
 opK pG E (xV (Instr.box 40 x1)) w fun e g=>
 dX g fun a=>
 qP pG (xNil x0) fun i=>
 qP pG (fA 68 i 0) fun j=>
 qP pG (fA 30 j 5) fun b=>
 qL pG a (blk b) (lA 28 b) fun k=>
 qL pG a (blk e) (lA 40 e) fun l=>
 oP E (xV (Instr.buildSlice 28 1 #[(0,l)])) a fun m c=>
 keepX [(blk b)] a c (opK pG E (xBuiltin .append #[28,28] 28 [false,false] [k,m]) c fun n d=>
 keepX [] c d (qP pG (xNil x0) fun o=>
 qP pG (fA 68 o 0) fun p=>
 qP pG (fA 30 p 5) fun q=>
 oP E (sA 28 q n) d fun _ f=>
 keepX [] d f (R (Value.tuple #[]) f)))
def h69:Hint:=(sQ (.reg [(0,16,1),(0,32,1),(2,64,32),(4,128,64),(8,256,128),(16,512,256),(0,1024,8),(64,2048,1024),(160,4096,2560),(511,8192,16),(1023,16384,8192),(1535,32768,16384),(2559,0,36864)] [96,96,96,96,96,64,32,32,0,96,96,96,0] (.early 0 (.early 1 (.early 2 (.early 3 (.early 4 (.load 5 (.load 6 (.step 7 (.step 8 (.early 9 (.early 10 (.early 11 (.step 12 .done)))))))))))))))
theorem c9T{x0 x1:Value}(h:F69 x0 x1 w R E):Cv pG 69 #[x0,x1] w R E:=okF (h:=h69) Tryz.func69 (by kernel_rfl) (by kernel_rfl) h
def F70(x0 x1 x2 w)(R:RT)(E):=
 opK pG E (xBuiltin .len #[23] 3 [false] [x1]) w fun b c=>
 oP E (bC .eql 3 8 b (vI 0)) c fun d a=>
 xcond d
 (R x2 a)
 (oP E (xCall (fC 23) [x0]) a fun e f=>
 R e f)
def h70:Hint:=(sQ (hS (sQ (hC (sQ hN) hN)) (sQ hN)))
theorem c9U{x0 x1 x2:Value}(h:F70 x0 x1 x2 w R E):Cv pG 70 #[x0,x1,x2] w R E:=okF (h:=h70) Tryz.func70 (by kernel_rfl) (by kernel_rfl) h
def F71(x0 x1 x2 x3 x4 w)(R:RT)(E):=
 opK pG E (xV (Instr.box 131 x1)) w fun a t=>
 oP E (fA 131 a 0) t fun u v=>
 oP E (lA 3 u) v fun c y=>
 oP E (bC .eql 3 17 c (vI 1)) y fun z k=>
 xcond z
 (oP E (xCall (fC 67) [x2,x3,(vI 1)]) k fun aa ab=>
 oP E (xCall (fC 69) [x0,aa]) ab fun _t55_11 ac=>
 R (Value.tuple #[]) ac)
 (oP E (bC .eql 3 17 c (vI 2)) k fun ad l=>
 xcond ad
 (oP E (xCall (fC 67) [x2,x4,(vI 1)]) l fun ae af=>
 oP E (xCall (fC 69) [x0,ae]) af fun _t62_17 ag=>
 R (Value.tuple #[]) ag)
 (oP E (bC .eql 3 17 c (vI 4)) l fun ah m=>
 xcond ah
 (oP E (fA 131 a 3) m fun ai aj=>
 oP E (lA 58 ai) aj fun ak al=>
 oP E (iA 58 ak (vI 0)) al fun am an=>
 oP E (lA 131 am) an fun ao ap=>
 oP E (xCall (fC 71) [x0,ao,x2,x4,x3]) ap fun _t73_29 aq=>
 R (Value.tuple #[]) aq)
 (oP E (bC .eql 3 17 c (vI 5)) m fun ar n=>
 xcond ar
 (oP E (xCall (fC 23) [x0]) n fun o au=>
 oP E (fA 131 a 3) au fun av aw=>
 oP E (lA 58 av) aw fun ax ay=>
 oP E (iA 58 ax (vI 0)) ay fun az ba=>
 oP E (lA 131 az) ba fun bb bc=>
 oP E (xCall (fC 71) [x0,bb,x2,o,x4]) bc fun _t86_43 bd=>
 oP E (fA 131 a 3) bd fun be bf=>
 oP E (lA 58 be) bf fun bg bh=>
 oP E (iA 58 bg (vI 1)) bh fun bi bj=>
 oP E (lA 131 bi) bj fun bk bl=>
 oP E (xCall (fC 71) [x0,bk,o,x3,x4]) bl fun _t95_53 bm=>
 R (Value.tuple #[]) bm)
 (oP E (bC .eql 3 17 c (vI 6)) n fun bn p=>
 xcond bn
 (oP E (xCall (fC 23) [x0]) p fun q bo=>
 oP E (fA 131 a 3) bo fun bp bq=>
 oP E (lA 58 bp) bq fun br bs=>
 oP E (iA 58 br (vI 0)) bs fun bt bu=>
 oP E (lA 131 bt) bu fun bv bw=>
 oP E (xCall (fC 71) [x0,bv,x2,x3,q]) bw fun _t108_67 bz=>
 oP E (fA 131 a 3) bz fun ca cb=>
 oP E (lA 58 ca) cb fun cc cd=>
 oP E (iA 58 cc (vI 1)) cd fun ce cf=>
 oP E (lA 131 ce) cf fun cg ch=>
 oP E (xCall (fC 71) [x0,cg,q,x3,x4]) ch fun _t117_77 ci=>
 R (Value.tuple #[]) ci)
 (oP E (fA 131 a 2) p fun cj ck=>
 oP E (lA 57 cj) ck fun cl cm=>
 oP E (xCall (fC 68) [x0,cl,x2,(vI 0)]) cm fun g cn=>
 oP E (xT g 0) cn fun co cp=>
 oP E (xT g 1) cp fun cq cr=>
 oP E (xT g 2) cr fun cs ct=>
 oP E (xV (Instr.alloc 38 true (.tuple #[]))) ct fun f cu=>
 oP E (xV (Instr.alloc 38 true (.tuple #[]))) cu fun d cv=>
 oP E (sA 38 f co) cv fun _ cw=>
 oP E (sA 38 d cq) cw fun _ cx=>
 oP E (xCall (fC 67) [cs,x3,(vI 12)]) cx fun cy cz=>
 oP E (xV (Instr.alloc 40 true (.tuple #[]))) cz fun b da=>
 oP E (sA 40 b cy) da fun _ db=>
 dX db fun e=>
 qP pG (fA 131 a 1) fun r=>
 qL pG e (blk r) (lA 3 r) fun dc=>
 qP pG (fA 40 b 5) fun dd=>
 qL pG e (blk f) (lA 38 f) fun de=>
 qL pG e (blk d) (lA 38 d) fun df=>
 oP E (sA 3 dd dc) e fun _ i=>
 keepX [(blk d),(blk f)] e i (qP pG (fA 40 b 6) fun dg=>
 oP E (sA 38 dg de) i fun _ j=>
 keepX [(blk d)] i j (qP pG (fA 40 b 7) fun dh=>
 oP E (sA 38 dh df) j fun _ s=>
 keepX [] j s (opK pG E (lA 40 b) s fun di dj=>
 oP E (xCall (fC 69) [x0,di]) dj fun _t39_121 dk=>
 oP E (fA 131 a 1) dk fun dl dm=>
 oP E (lA 3 dl) dm fun dn dp=>
 oP E (xCall (fC 59) [dn]) dp fun dq dr=>
 oP E (fA 40 b 1) dr fun ds dt=>
 oP E (sA 3 ds x4) dt fun _ du=>
 oP E (fA 40 b 5) du fun dv dw=>
 oP E (sA 3 dv dq) dw fun _ dx=>
 oP E (lA 40 b) dx fun dy dz=>
 oP E (xCall (fC 69) [x0,dy]) dz fun _t48_139 ea=>
 R (Value.tuple #[]) ea))))))))
def h71:Hint:=(sQ (sQ (hB (sQ (hC hN (sQ (hC hN (sQ (hC hN (sQ (hC (sQ (sQ hN)) (sQ (hC (sQ (sQ hN)) (sQ (sQ (hS (.reg [(0,1073741824,64),(1,2147483648,1073741824),(0,4294967296,4096),(0,8589934592,8192),(3,17179869184,32768),(19,0,19327352832),(55,34359738368,32768),(119,0,38654705664),(255,68719476736,32768),(511,0,77309411328)] [14,12,10,6,14,12,14,8,14,0] (.early 0 (.load 1 (.early 4 (.load 2 (.load 3 (.step 5 (.early 6 (.step 7 (.early 8 (.step 9 .done))))))))))) (sQ (sQ hN))))))))))))))))))
theorem c9V{x0 x1 x2 x3 x4:Value}(h:F71 x0 x1 x2 x3 x4 w R E):Cv pG 71 #[x0,x1,x2,x3,x4] w R E:=okF (h:=h71) Tryz.func71 (by kernel_rfl) (by kernel_rfl) h
def b9M(x2 x3 w)(R:RT)(E):=
 ∀_τ:Fr,(oP E (lA 133 x3) w fun b c=>
 oP E (sA 133 x2 b) c fun _ a=>
 xcell pG 133 x2 a fun d=>
 R d a)
def c4r(x1 _x2 x3 x5:Value)(w)(next3:NT)(j2:NT)(_R:RT)(E):=
 opK pG E (fA 25 x1 1) w fun c d=>
 oP E (lA 23 c) d fun e f=>
 oP E (xBuiltin .len #[23] 3 [false] [e]) f fun g i=>
 oP E (bN .lss 3 20 23 x5 g) i fun a j=>
 oP E (gYs a (fA 133 x3 2)) j fun k l=>
 oP E (gYs a (lA 3 k)) l fun m n=>
 oP E (gYs a (bC .eql 3 27 m (vI 0))) n fun o p=>
 oP E (xPick a o (vB false)) p fun q b=>
 xcond q
 (oP E (fA 25 x1 1) b fun r s=>
 oP E (lA 23 r) s fun t u=>
 oP E (iA 23 t x5) u fun v y=>
 oP E (lA 60 v) y fun z aa=>
 oP E (xCall (fC 101) [x3,z,(vI 1)]) aa fun _t37_42 ab=>
 oP E (bC .add 3 30 x5 (vI 1)) ab fun ac ad=>
 next3 [ac] ad)
 (j2 [] b)
def b9N(x1 x2 x3 w)(R:RT)(E):=
 ∀_τ:Fr,(xcut (fun _ a=>b9M x2 x3 a R E) fun j2=>
 xloop [5] [(vI 0)] w fun b c next3=>
 c4r x1 x2 x3 (b 5) c next3 j2 R E)
def c4s(x1 _x2 x3 x4:Value)(w)(next4:NT)(j1:NT)(_R:RT)(E):=
 opK pG E (fA 25 x1 0) w fun c d=>
 oP E (lA 22 c) d fun e f=>
 oP E (xBuiltin .len #[22] 3 [false] [e]) f fun g i=>
 oP E (bN .lss 3 7 10 x4 g) i fun a j=>
 oP E (gYs a (fA 133 x3 2)) j fun k l=>
 oP E (gYs a (lA 3 k)) l fun m n=>
 oP E (gYs a (bC .eql 3 14 m (vI 0))) n fun o p=>
 oP E (xPick a o (vB false)) p fun q b=>
 xcond q
 (oP E (xCall (fC 100) [x3,(vI 1)]) b fun _t19_66 r=>
 oP E (bC .add 3 17 x4 (vI 1)) r fun s t=>
 next4 [s] t)
 (j1 [] b)
def F72(x0 w)(R:RT)(E):=
 opK pG E (xV (Instr.box 25 x0)) w fun b d=>
 oP E (xV (Instr.alloc 133 true (.tuple #[]))) d fun c e=>
 oP E (xV (Instr.build 133 #[])) e fun f g=>
 oP E (xV (Instr.alloc 133 true (.tuple #[]))) g fun a i=>
 oP E (sA 133 a f) i fun _ j=>
 xcut (fun _ k=>b9N b c a k R E) fun j1=>
 xloop [4] [(vI 0)] j fun l m next4=>
 c4s b c a (l 4) m next4 j1 R E
def h72:Hint:=(sQ (sQ (hU [] (sQ (hB (hL [4] (hS (sQ (hC hN hN)) (hS (hB hN) hN))))) (hU [] (sQ (hB (hL [5] (hS (sQ (hC hN hN)) (hS (hB hN) hN))))) (sQ hN)))))
theorem c9W{x0:Value}(h:F72 x0 w R E):Cv pG 72 #[x0] w R E:=okF (h:=h72) Tryz.func72 (by kernel_rfl) (by kernel_rfl) h
def F73(x0 x1 x2 w)(R:RT)(E):=
 opK pG E (xV (Op.unary .not x2)) w fun d c=>
 xcond d
 (oP E (xNil x0) c fun e f=>
 oP E (fA 136 e 0) f fun g i=>
 oP E (lA 4 g) i fun a j=>
 oP E (gYs a (bC .eql 9 14 (zT a x1) (eS))) j fun k l=>
 oP E (xPick a k (vB false)) l fun m n=>
 oP E (xNil x0) n fun o p=>
 oP E (fA 136 o 0) p fun q r=>
 oP E (sA 4 q m) r fun _ s=>
 R (Value.tuple #[]) s)
 (oP E (xNil x0) c fun t u=>
 oP E (fA 136 t 1) u fun v y=>
 oP E (lA 4 v) y fun b z=>
 oP E (gYs b (xCall (fC 102) [(zT b x1)])) z fun aa ab=>
 oP E (xPick b aa (vB false)) ab fun ac ad=>
 oP E (xNil x0) ad fun ae af=>
 oP E (fA 136 ae 1) af fun ag ah=>
 oP E (sA 4 ag ac) ah fun _ ai=>
 R (Value.tuple #[]) ai)
def h73:Hint:=(hS (sQ (hC (sQ hN) hN)) hN)
theorem c9X{x0 x1 x2:Value}(h:F73 x0 x1 x2 w R E):Cv pG 73 #[x0,x1,x2] w R E:=okF (h:=h73) Tryz.func73 (by kernel_rfl) (by kernel_rfl) h
def c4t(x0 x3 x9 w)(next5:NT)(R:RT)(E):=
 opK pG E (fA 60 x3 5) w fun c d=>
 oP E (lA 23 c) d fun e f=>
 oP E (xBuiltin .len #[23] 3 [false] [e]) f fun g i=>
 oP E (bN .lss 3 146 149 x9 g) i fun a j=>
 oP E (gYs a (xNil (zT a x0))) j fun k l=>
 oP E (gYs a (fA 136 k 0)) l fun m n=>
 oP E (gYs a (lA 4 m)) n fun o p=>
 oP E (xPick a o (vB false)) p fun q b=>
 xcond q
 (oP E (fA 60 x3 5) b fun r s=>
 oP E (lA 23 r) s fun t u=>
 oP E (iA 23 t x9) u fun v y=>
 oP E (lA 60 v) y fun z aa=>
 oP E (xCall (fC 74) [x0,z]) aa fun _t165_123 ab=>
 oP E (bC .add 3 157 x9 (vI 1)) ab fun ac ad=>
 next5 [ac] ad)
 (R (Value.tuple #[]) b)
def b9O(x0 x3 w)(R:RT)(E):=
 ∀_τ:Fr,(xloop [9] [(vI 0)] w fun a b next5=>
 c4t x0 x3 (a 9) b next5 R E)
def c4u(x0 x3 x8 w)(next6:NT)(j4:NT)(_R:RT)(E):=
 opK pG E (fA 60 x3 4) w fun c d=>
 oP E (lA 23 c) d fun e f=>
 oP E (xBuiltin .len #[23] 3 [false] [e]) f fun g i=>
 oP E (bN .lss 3 126 129 x8 g) i fun a j=>
 oP E (gYs a (xNil (zT a x0))) j fun k l=>
 oP E (gYs a (fA 136 k 0)) l fun m n=>
 oP E (gYs a (lA 4 m)) n fun o p=>
 oP E (xPick a o (vB false)) p fun q b=>
 xcond q
 (oP E (fA 60 x3 4) b fun r s=>
 oP E (lA 23 r) s fun t u=>
 oP E (iA 23 t x8) u fun v y=>
 oP E (lA 60 v) y fun z aa=>
 oP E (xCall (fC 74) [x0,z]) aa fun _t145_155 ab=>
 oP E (bC .add 3 137 x8 (vI 1)) ab fun ac ad=>
 next6 [ac] ad)
 (j4 [] b)
def b9P(x0 x3 w)(R:RT)(E):=
 ∀_τ:Fr,(xcut (fun _ a=>b9O x0 x3 a R E) fun j4=>
 xloop [8] [(vI 0)] w fun b c next6=>
 c4u x0 x3 (b 8) c next6 j4 R E)
def c4v(x0 x3 x7 w)(next7:NT)(j3:NT)(_R:RT)(E):=
 opK pG E (fA 60 x3 2) w fun c d=>
 oP E (lA 57 c) d fun e f=>
 oP E (xBuiltin .len #[57] 3 [false] [e]) f fun g i=>
 oP E (bN .lss 3 106 109 x7 g) i fun a j=>
 oP E (gYs a (xNil (zT a x0))) j fun k l=>
 oP E (gYs a (fA 136 k 0)) l fun m n=>
 oP E (gYs a (lA 4 m)) n fun o p=>
 oP E (xPick a o (vB false)) p fun q b=>
 xcond q
 (oP E (fA 60 x3 2) b fun r s=>
 oP E (lA 57 r) s fun t u=>
 oP E (iA 57 t x7) u fun v y=>
 oP E (lA 123 v) y fun z aa=>
 oP E (xCall (fC 104) [x0,z]) aa fun _t125_187 ab=>
 oP E (bC .add 3 117 x7 (vI 1)) ab fun ac ad=>
 next7 [ac] ad)
 (j3 [] b)
def b9Q(x0 x3 w)(R:RT)(E):=
 ∀_τ:Fr,(xcut (fun _ a=>b9P x0 x3 a R E) fun j3=>
 xloop [7] [(vI 0)] w fun b c next7=>
 c4v x0 x3 (b 7) c next7 j3 R E)
def c4w(x0 x3 x6 w)(next8:NT)(j2:NT)(_R:RT)(E):=
 opK pG E (fA 60 x3 3) w fun c d=>
 oP E (lA 58 c) d fun e f=>
 oP E (xBuiltin .len #[58] 3 [false] [e]) f fun g i=>
 oP E (bN .lss 3 86 89 x6 g) i fun a j=>
 oP E (gYs a (xNil (zT a x0))) j fun k l=>
 oP E (gYs a (fA 136 k 0)) l fun m n=>
 oP E (gYs a (lA 4 m)) n fun o p=>
 oP E (xPick a o (vB false)) p fun q b=>
 xcond q
 (oP E (fA 60 x3 3) b fun r s=>
 oP E (lA 58 r) s fun t u=>
 oP E (iA 58 t x6) u fun v y=>
 oP E (lA 131 v) y fun z aa=>
 oP E (xCall (fC 103) [x0,z]) aa fun _t105_219 ab=>
 oP E (bC .add 3 97 x6 (vI 1)) ab fun ac ad=>
 next8 [ac] ad)
 (j2 [] b)
def b9R(x0 x3 x4 x5 w)(R:RT)(E):=
 ∀_τ:Fr,(oP E (fA 60 x3 1) w fun j k=>
 oP E (lA 9 j) k fun l m=>
 oP E (fA 60 x3 0) m fun n o=>
 oP E (lA 3 n) o fun p q=>
 oP E (bC .eql 3 30 p (vI 1)) q fun e r=>
 oP E (gNo e (fA 60 x3 0)) r fun s t=>
 oP E (gNo e (lA 3 s)) t fun u v=>
 oP E (gNo e (bC .eql 3 34 u (vI 2))) v fun y z=>
 oP E (xPick e (vB true) y) z fun aa ab=>
 oP E (xCall (fC 73) [x0,l,aa]) ab fun _t37_21 ac=>
 oP E (xNil x0) ac fun ad ae=>
 oP E (fA 136 ad 0) ae fun af ag=>
 oP E (lA 4 af) ag fun c ah=>
 oP E (gYs c (fA 60 x3 2)) ah fun ai aj=>
 oP E (gYs c (lA 57 ai)) aj fun ak al=>
 oP E (gYs c (xBuiltin .len #[57] 3 [false] [ak])) al fun am an=>
 oP E (gYs c (bN .eql 3 46 47 am (zT c x4))) an fun ao ap=>
 oP E (xPick c ao (vB false)) ap fun d aq=>
 oP E (gYs d (fA 60 x3 3)) aq fun ar au=>
 oP E (gYs d (lA 58 ar)) au fun av aw=>
 oP E (gYs d (xBuiltin .len #[58] 3 [false] [av])) aw fun ax ay=>
 oP E (gYs d (bN .eql 3 53 54 ax (zT d x5))) ay fun az ba=>
 oP E (xPick d az (vB false)) ba fun a bb=>
 oP E (gYs a (fA 60 x3 4)) bb fun bc bd=>
 oP E (gYs a (lA 23 bc)) bd fun be bf=>
 oP E (gYs a (xBuiltin .len #[23] 3 [false] [be])) bf fun bg bh=>
 oP E (gYs a (bC .eql 3 60 bg (vI 0))) bh fun f bi=>
 oP E (gsem (asB (zT a f)) false (fA 60 x3 0)) bi fun bj bk=>
 oP E (gsem (asB (zT a f)) false (lA 3 bj)) bk fun bl bm=>
 oP E (gsem (asB (zT a f)) false (bC .eql 3 64 bl (vI 3))) bm fun bn bo=>
 oP E (gYs a (xPick (zT a f) (vB true) bn)) bo fun g bp=>
 oP E (gsem (asB (zT a g)) false (fA 60 x3 0)) bp fun bq br=>
 oP E (gsem (asB (zT a g)) false (lA 3 bq)) br fun bs bt=>
 oP E (gsem (asB (zT a g)) false (bC .eql 3 69 bs (vI 4))) bt fun bu bv=>
 oP E (gYs a (xPick (zT a g) (vB true) bu)) bv fun bw bz=>
 oP E (xPick a bw (vB false)) bz fun b ca=>
 oP E (gYs b (fA 60 x3 5)) ca fun cb cc=>
 oP E (gYs b (lA 23 cb)) cc fun cd ce=>
 oP E (gYs b (xBuiltin .len #[23] 3 [false] [cd])) ce fun cf cg=>
 oP E (gYs b (bC .eql 3 76 cf (vI 0))) cg fun i ch=>
 oP E (gsem (asB (zT b i)) false (fA 60 x3 0)) ch fun ci cj=>
 oP E (gsem (asB (zT b i)) false (lA 3 ci)) cj fun ck cl=>
 oP E (gsem (asB (zT b i)) false (bC .eql 3 80 ck (vI 3))) cl fun cm cn=>
 oP E (gYs b (xPick (zT b i) (vB true) cm)) cn fun co cp=>
 oP E (xPick b co (vB false)) cp fun cq cr=>
 oP E (xNil x0) cr fun cs ct=>
 oP E (fA 136 cs 0) ct fun cu cv=>
 oP E (sA 4 cu cq) cv fun _ cw=>
 xcut (fun _ cx=>b9Q x0 x3 cx R E) fun j2=>
 xloop [6] [(vI 0)] cw fun cy cz next8=>
 c4w x0 x3 (cy 6) cz next8 j2 R E)
def b9S(x0 _x3 x4 x5 x11 x19:Value)(w)(j1:NT)(_R:RT)(E):=
 ∀_τ:Fr,(xcond x19
 (j1 [x4,(vI 1)] w)
 (oP E (bC .eql 3 11 x11 (vI 7)) w fun b a=>
 xcond b
 (j1 [x4,x5] a)
 (oP E (xNil x0) a fun c d=>
 oP E (fA 136 c 0) d fun e f=>
 oP E (sA 4 e (vB false)) f fun _ g=>
 j1 [x4,x5] g)))
def F74(x0 x1 w)(R:RT)(E):=
 opK pG E (xV (Instr.box 60 x1)) w fun b m=>
 xcut (fun c n=>b9R x0 b (nth c 0) (nth c.tail 0) n R E) fun j1=>
 oP E (fA 60 b 0) m fun o p=>
 oP E (lA 3 o) p fun a q=>
 oP E (bC .eql 3 11 a (vI 1)) q fun r d=>
 xcond r
 (j1 [(vI 1),(vI 0)] d)
 (oP E (bC .eql 3 11 a (vI 2)) d fun s e=>
 xcond s
 (j1 [(vI 2),(vI 0)] e)
 (xcut (fun t u=>b9S x0 b (vI 0) (vI 0) a (nth t 0) u j1 R E) fun j9=>
 oP E (bC .eql 3 11 a (vI 3)) e fun f g=>
 xcond f
 (j9 [f] g)
 (oP E (bC .eql 3 11 a (vI 4)) g fun i j=>
 xcond i
 (j9 [i] j)
 (oP E (bC .eql 3 11 a (vI 5)) j fun k l=>
 xcond k
 (j9 [k] l)
 (oP E (bC .eql 3 11 a (vI 6)) l fun v y=>
 j9 [v] y)))))
def h74:Hint:=(sQ (sQ (hU [4,5] (sQ (hB (sQ (hC hN (sQ (hC hN (hU [19] (sQ (hC hN (sQ (hC hN (sQ (hC hN hN)))))) (hC hN (sQ (hC hN hN)))))))))) (sQ (sQ (hU [] (sQ (hB (hL [6] (hS (sQ (hC hN hN)) (hS (hB hN) hN))))) (hU [] (sQ (hB (hL [7] (hS (sQ (hC hN hN)) (hS (hB hN) hN))))) (hU [] (sQ (hB (hL [8] (hS (sQ (hC hN hN)) (hS (hB hN) hN))))) (sQ (hB (hL [9] (hS (sQ (hC hN hN)) (hS (hB hN) hN)))))))))))))
theorem c9Y{x0 x1:Value}(h:F74 x0 x1 w R E):Cv pG 74 #[x0,x1] w R E:=okF (h:=h74) Tryz.func74 (by kernel_rfl) (by kernel_rfl) h
def F75(x0 w)(R:RT)(E):=
 opK pG E (xV (Instr.box 136 x0)) w fun a d=>
 oP E (fA 136 a 0) d fun e f=>
 oP E (lA 4 e) f fun g i=>
 oP E (xV (Op.unary .not g)) i fun j b=>
 xcond j
 (R (vI 30) b)
 (oP E (fA 136 a 1) b fun k l=>
 oP E (lA 4 k) l fun m n=>
 oP E (xV (Op.unary .not m)) n fun o c=>
 xcond o
 (R (vI 31) c)
 (R (vI 0) c))
def h75:Hint:=(sQ (hS (sQ (hC (sQ hN) hN)) (hS (sQ (hC (sQ hN) hN)) (sQ hN))))
theorem c9Z{x0:Value}(h:F75 x0 w R E):Cv pG 75 #[x0] w R E:=okF (h:=h75) Tryz.func75 (by kernel_rfl) (by kernel_rfl) h
def b9T(x0 w)(R:RT)(_E:Pan):=
 ∀_τ:Fr,(R x0 w)
def b9U(x0 _x1 x5:Value)(w)(next2:NT)(_R:RT)(E):=
 ∀_τ:Fr,(oP E (bC .add 3 13 x5 (vI 1)) w fun a b=>
 next2 [x0,a] b)
def b9V(x0 _x1 _x5 x6:Value)(w)(j3:NT)(_R:RT)(E):=
 ∀_τ:Fr,(oP E (fA 60 x6 4) w fun a b=>
 oP E (lA 23 a) b fun c d=>
 oP E (xCall (fC 76) [x0,c]) d fun e f=>
 oP E (fA 60 x6 5) f fun g i=>
 oP E (lA 23 g) i fun j k=>
 oP E (xCall (fC 76) [e,j]) k fun l m=>
 j3 [l] m)
def c4x(x0 _x1 _x5 x6 x8:Value)(w)(next7:NT)(j6:NT)(_R:RT)(E):=
 opK pG E (fA 60 x6 2) w fun b c=>
 oP E (lA 57 b) c fun d e=>
 oP E (xBuiltin .len #[57] 3 [false] [d]) e fun f g=>
 oP E (bN .lss 3 50 53 x8 f) g fun i a=>
 xcond i
 (oP E (fA 60 x6 2) a fun j k=>
 oP E (lA 57 j) k fun l m=>
 oP E (iA 57 l x8) m fun n o=>
 oP E (lA 123 n) o fun p q=>
 oP E (xCall (fC 106) [x0,p]) q fun r s=>
 oP E (bC .add 3 55 x8 (vI 1)) s fun t u=>
 next7 [r,t] u)
 (j6 [x0] a)
def b9W(x0 x1 x5 x6 w)(j3:NT)(R:RT)(E):=
 ∀_τ:Fr,(xcut (fun b c=>b9V (nth b 0) x1 x5 x6 c j3 R E) fun j6=>
 xloop [0,8] [x0,(vI 0)] w fun a d next7=>
 c4x (a 0) x1 x5 x6 (a 8) d next7 j6 R E)
def c4y(x0 _x1 _x5 x6 x7:Value)(w)(next8:NT)(j5:NT)(_R:RT)(E):=
 opK pG E (fA 60 x6 3) w fun b c=>
 oP E (lA 58 b) c fun d e=>
 oP E (xBuiltin .len #[58] 3 [false] [d]) e fun f g=>
 oP E (bN .lss 3 36 39 x7 f) g fun i a=>
 xcond i
 (oP E (fA 60 x6 3) a fun j k=>
 oP E (lA 58 j) k fun l m=>
 oP E (iA 58 l x7) m fun n o=>
 oP E (lA 131 n) o fun p q=>
 oP E (xCall (fC 105) [x0,p]) q fun r s=>
 oP E (bC .add 3 41 x7 (vI 1)) s fun t u=>
 next8 [r,t] u)
 (j5 [x0] a)
def b9X(x0 x1 x5 x6 w)(j3:NT)(R:RT)(E):=
 ∀_τ:Fr,(xcut (fun b c=>b9W (nth b 0) x1 x5 x6 c j3 R E) fun j5=>
 xloop [0,7] [x0,(vI 0)] w fun a d next8=>
 c4y (a 0) x1 x5 x6 (a 7) d next8 j5 R E)
def c4z(x0 x1 x5 w)(next2:NT)(j1:NT)(R:RT)(E):=
 opK pG E (xBuiltin .len #[23] 3 [false] [x1]) w fun e f=>
 oP E (bN .lss 3 9 11 x5 e) f fun g c=>
 xcond g
 (xcut (fun i j=>b9U (nth i 0) x1 x5 j next2 R E) fun j3=>
 oP E (iA 23 x1 x5) c fun k l=>
 oP E (lA 60 k) l fun m n=>
 oP E (xV (Instr.alloc 60 true (.tuple #[]))) n fun a o=>
 oP E (sA 60 a m) o fun _ p=>
 xcut (fun q r=>b9X (nth q 0) x1 x5 a r j3 R E) fun j4=>
 oP E (fA 60 a 0) p fun s t=>
 oP E (lA 3 s) t fun u v=>
 oP E (bC .eql 3 20 u (vI 1)) v fun b y=>
 oP E (gNo b (fA 60 a 0)) y fun z aa=>
 oP E (gNo b (lA 3 z)) aa fun ab ac=>
 oP E (gNo b (bC .eql 3 24 ab (vI 2))) ac fun ad ae=>
 oP E (xPick b (vB true) ad) ae fun af d=>
 xcond af
 (oP E (fA 60 a 1) d fun ag ah=>
 oP E (lA 9 ag) ah fun ai aj=>
 oP E (fA 60 a 0) aj fun ak al=>
 oP E (lA 3 ak) al fun am an=>
 oP E (bC .eql 3 31 am (vI 2)) an fun ao ap=>
 oP E (xV (Instr.build 105 #[(0,ai),(1,ao)])) ap fun aq ar=>
 oP E (xV (Instr.buildSlice 102 1 #[(0,aq)])) ar fun au av=>
 oP E (xBuiltin .append #[102,102] 102 [false,false] [x0,au]) av fun aw ax=>
 j4 [aw] ax)
 (j4 [x0] d))
 (j1 [x0] c)
def F76(x0 x1 w)(R:RT)(E):=
 xcut (fun b c=>b9T (nth b 0) c R E) fun j1=>
 xloop [0,5] [x0,(vI 0)] w fun a d next2=>
 c4z (a 0) x1 (a 5) d next2 j1 R E
def h76:Hint:=(sQ (hU [0] (sQ (hB (hL [0,5] (hS (sQ (hC hN hN)) (hU [0] (hB (sQ (hU [0] (sQ (hC hN hN)) (hU [0] (sQ (hB (hL [0,7] (hS (sQ (hC hN hN)) (hS (hB hN) hN))))) (hU [0] (sQ (hB (hL [0,8] (hS (sQ (hC hN hN)) (hS (hB hN) hN))))) (sQ hN)))))) hN))))) (sQ hN)))
theorem d0a{x0 x1:Value}(h:F76 x0 x1 w R E):Cv pG 76 #[x0,x1] w R E:=okF (h:=h76) Tryz.func76 (by kernel_rfl) (by kernel_rfl) h
def b9Y(x0 x3 w)(R:RT)(E):=
 ∀_τ:Fr,(oP E (xNil x0) w fun g i=>
 oP E (fA 77 g 1) i fun j k=>
 oP E (lA 4 j) k fun l m=>
 oP E (xV (Op.unary .not l)) m fun n e=>
 xcond n
 (dX e fun a=>
 qP pG (xNil x0) fun o=>
 qP pG (fA 77 o 0) fun p=>
 qP pG (fA 30 p 5) fun b=>
 qL pG a (blk b) (lA 28 b) fun q=>
 qL pG a (blk x3) (lA 40 x3) fun r=>
 oP E (xV (Instr.buildSlice 28 1 #[(0,r)])) a fun s c=>
 keepX [(blk b)] a c (opK pG E (xBuiltin .append #[28,28] 28 [false,false] [q,s]) c fun t d=>
 keepX [] c d (qP pG (xNil x0) fun u=>
 qP pG (fA 77 u 0) fun v=>
 qP pG (fA 30 v 5) fun y=>
 oP E (sA 28 y t) d fun _ f=>
 keepX [] d f (R (Value.tuple #[]) f))))
 (R (Value.tuple #[]) e))
def F77(x0 x1 w)(R:RT)(E):=
 opK pG E (xV (Instr.box 40 x1)) w fun b c=>
 xcut (fun _ d=>b9Y x0 b d R E) fun j1=>
 oP E (xNil x0) c fun e f=>
 oP E (fA 77 e 0) f fun g i=>
 oP E (fA 30 g 5) i fun j k=>
 oP E (lA 28 j) k fun l m=>
 oP E (xBuiltin .len #[28] 3 [false] [l]) m fun n o=>
 oP E (bC .eql 3 9 n (vI 8192)) o fun p a=>
 xcond p
 (oP E (xNil x0) a fun q r=>
 oP E (fA 77 q 1) r fun s t=>
 oP E (sA 4 s (vB true)) t fun _ u=>
 j1 [] u)
 (j1 [] a)
def h77:Hint:=(sQ (hU [] (sQ (hC hN hN)) (sQ (hC (.reg [(0,524288,1),(0,1048576,1),(2,2097152,1048576),(4,4194304,2097152),(8,8388608,4194304),(16,16777216,8388608),(0,33554432,8),(64,67108864,33554432),(160,134217728,83886080),(511,268435456,524288),(1023,536870912,268435456),(1535,1073741824,536870912),(2559,0,1207959552)] [96,96,96,96,96,64,32,32,0,96,96,96,0] (.early 0 (.early 1 (.early 2 (.early 3 (.early 4 (.load 5 (.load 6 (.step 7 (.step 8 (.early 9 (.early 10 (.early 11 (.step 12 .done)))))))))))))) hN))))
theorem d0b{x0 x1:Value}(h:F77 x0 x1 w R E):Cv pG 77 #[x0,x1] w R E:=okF (h:=h77) Tryz.func77 (by kernel_rfl) (by kernel_rfl) h
def F78(x0 x1 x2 w)(R:RT)(E):=
 opK pG E (xV (Instr.alloc 40 true (.tuple #[]))) w fun a c=>
 oP E (xCall (fC 91) []) c fun d e=>
 oP E (xCall (fC 91) []) e fun f g=>
 oP E (xV (Instr.build 40 #[(0,x1),(1,x2),(2,x0),(3,(vI (-1))),(4,(vI (-1))),(6,d),(7,f)])) g fun i j=>
 oP E (sA 40 a i) j fun _ b=>
 xcell pG 40 a b fun k=>
 R k b
def h78:Hint:=(sQ (sQ hN))
theorem d0c{x0 x1 x2:Value}(h:F78 x0 x1 x2 w R E):Cv pG 78 #[x0,x1,x2] w R E:=okF (h:=h78) Tryz.func78 (by kernel_rfl) (by kernel_rfl) h
def F79(x0 x1 w)(R:RT)(E):=
 opK pG E (xV (Instr.box 123 x1)) w fun b l=>
 oP E (xV (Instr.alloc 38 true (.tuple #[]))) l fun a m=>
 oP E (fA 123 b 0) m fun n o=>
 oP E (lA 3 n) o fun p q=>
 oP E (bC .eql 3 8 p (vI 1)) q fun r d=>
 xcond r
 (oP E (fA 123 b 1) d fun s t=>
 oP E (lA 2 s) t fun u v=>
 oP E (xV (Instr.build 38 #[(0,(vI (-1))),(1,u)])) v fun y z=>
 oP E (sA 38 a y) z fun _ e=>
 xcell pG 38 a e fun aa=>
 R (Value.tuple #[aa,(vB true)]) e)
 (oP E (fA 123 b 0) d fun ab ac=>
 oP E (lA 3 ab) ac fun ad ae=>
 oP E (bC .eql 3 15 ad (vI 5)) ae fun c af=>
 oP E (gYs c (fA 123 b 3)) af fun ag ah=>
 oP E (gYs c (lA 57 ag)) ah fun ai aj=>
 oP E (gYs c (iA 57 ai (vI 0))) aj fun ak al=>
 oP E (gYs c (fA 123 ak 0)) al fun am an=>
 oP E (gYs c (lA 3 am)) an fun ao ap=>
 oP E (gYs c (bC .eql 3 22 ao (vI 1))) ap fun aq ar=>
 oP E (xPick c aq (vB false)) ar fun au f=>
 xcond au
 (oP E (fA 123 b 3) f fun av aw=>
 oP E (lA 57 av) aw fun ax ay=>
 oP E (iA 57 ax (vI 0)) ay fun az ba=>
 oP E (fA 123 az 1) ba fun bb bc=>
 oP E (lA 2 bb) bc fun bd be=>
 oP E (xV (Op.unary .neg bd)) be fun bf bg=>
 oP E (xV (Instr.build 38 #[(0,(vI (-1))),(1,bf)])) bg fun bh bi=>
 oP E (sA 38 a bh) bi fun _ g=>
 xcell pG 38 a g fun bj=>
 R (Value.tuple #[bj,(vB true)]) g)
 (oP E (fA 123 b 0) f fun bk bl=>
 oP E (lA 3 bk) bl fun bm bn=>
 oP E (bC .eql 3 34 bm (vI 2)) bn fun bo i=>
 xcond bo
 (oP E (fA 123 b 2) i fun bp bq=>
 oP E (lA 9 bp) bq fun br bs=>
 oP E (xCall (fC 81) [x0,br]) bs fun bt bu=>
 oP E (xV (Instr.build 38 #[(0,bt)])) bu fun bv bw=>
 oP E (sA 38 a bv) bw fun _ j=>
 xcell pG 38 a j fun bz=>
 R (Value.tuple #[bz,(vB true)]) j)
 (oP E (xV (Instr.build 38 #[])) i fun ca cb=>
 oP E (sA 38 a ca) cb fun _ k=>
 xcell pG 38 a k fun cc=>
 R (Value.tuple #[cc,(vB false)]) k)))
def h79:Hint:=(sQ (hS (hB (sQ (hC (sQ hN) (sQ (hC (sQ hN) (sQ (hC (sQ hN) hN))))))) (sQ hN)))
theorem d0d{x0 x1:Value}(h:F79 x0 x1 w R E):Cv pG 79 #[x0,x1] w R E:=okF (h:=h79) Tryz.func79 (by kernel_rfl) (by kernel_rfl) h
def b9Z(x0 x12 w)(R:RT)(E):=
 ∀_τ:Fr,(oP E (lA 40 x12) w fun a b=>
 oP E (xCall (fC 77) [x0,a]) b fun _t103_21 c=>
 R (Value.tuple #[]) c)
def F80(x0 x1 x2 x3 x4 x5 w)(R:RT)(E):=
 opK pG E (xV (Instr.box 123 x1)) w fun b y=>
 oP E (xNil x0) y fun z aa=>
 oP E (fA 77 z 1) aa fun ab ac=>
 oP E (lA 4 ab) ac fun ad l=>
 xcond ad
 (R (Value.tuple #[]) l)
 (oP E (xCall (fC 78) [(vI 0),x3,x4]) l fun ae af=>
 oP E (xV (Instr.alloc 40 true (.tuple #[]))) af fun a ag=>
 oP E (sA 40 a ae) ag fun _ ah=>
 oP E (fA 40 a 3) ah fun ai aj=>
 oP E (sA 3 ai x2) aj fun _ ak=>
 xcut (fun _ al=>b9Z x0 a al R E) fun j1=>
 oP E (fA 123 b 0) ak fun am an=>
 oP E (lA 3 am) an fun d ao=>
 oP E (bC .eql 3 23 d (vI 3)) ao fun ap m=>
 xcond ap
 (oP E (fA 40 a 2) m fun aq ar=>
 oP E (sA 3 aq (vI 9)) ar fun _ au=>
 j1 [] au)
 (oP E (bC .eql 3 23 d (vI 4)) m fun av n=>
 xcond av
 (oP E (fA 40 a 2) n fun aw ax=>
 oP E (sA 3 aw (vI 10)) ax fun _ ay=>
 oP E (fA 123 b 2) ay fun az ba=>
 oP E (lA 9 az) ba fun bb bc=>
 oP E (xCall (fC 82) [x0,bb]) bc fun bd be=>
 oP E (fA 40 a 4) be fun bf bg=>
 oP E (sA 3 bf bd) bg fun _ bh=>
 oP E (fA 123 b 3) bh fun bi bj=>
 oP E (lA 57 bi) bj fun bk bl=>
 oP E (iA 57 bk (vI 0)) bl fun bm bn=>
 oP E (lA 123 bm) bn fun bo bp=>
 oP E (xCall (fC 83) [x0,bo,x3,x5]) bp fun o bq=>
 oP E (xT o 0) bq fun br bs=>
 oP E (xT o 1) bs fun bt bu=>
 oP E (fA 40 a 6) bu fun bv bw=>
 oP E (sA 38 bv br) bw fun _ bz=>
 oP E (fA 40 a 0) bz fun ca cb=>
 oP E (sA 3 ca bt) cb fun _ cc=>
 j1 [] cc)
 (oP E (bC .eql 3 23 d (vI 5)) n fun cd p=>
 xcond cd
 (oP E (fA 40 a 2) p fun ce cf=>
 oP E (sA 3 ce (vI 3)) cf fun _ cg=>
 oP E (fA 123 b 3) cg fun ch ci=>
 oP E (lA 57 ch) ci fun cj ck=>
 oP E (iA 57 cj (vI 0)) ck fun cl cm=>
 oP E (lA 123 cl) cm fun cn co=>
 oP E (xCall (fC 83) [x0,cn,x3,x5]) co fun q cp=>
 oP E (xT q 0) cp fun cq cr=>
 oP E (xT q 1) cr fun cs ct=>
 oP E (fA 40 a 6) ct fun cu cv=>
 oP E (sA 38 cu cq) cv fun _ cw=>
 oP E (fA 40 a 0) cw fun cx cy=>
 oP E (sA 3 cx cs) cy fun _ cz=>
 j1 [] cz)
 (oP E (fA 123 b 0) p fun da db=>
 oP E (lA 3 da) db fun dc dd=>
 oP E (xBin .add 3 (.const (vI 4)) (.tmp 25) (vI 4) dc) dd fun de df=>
 oP E (bC .sub 3 26 de (vI 6)) df fun dg dh=>
 oP E (fA 40 a 2) dh fun di dj=>
 oP E (sA 3 di dg) dj fun _ dk=>
 oP E (fA 123 b 3) dk fun dl dm=>
 oP E (lA 57 dl) dm fun dn dp=>
 oP E (iA 57 dn (vI 0)) dp fun dq dr=>
 oP E (lA 123 dq) dr fun ds dt=>
 oP E (xCall (fC 83) [x0,ds,x3,x5]) dt fun r du=>
 oP E (xT r 0) du fun dv dw=>
 oP E (xT r 1) dw fun dx dy=>
 oP E (fA 40 a 6) dy fun dz ea=>
 oP E (sA 38 dz dv) ea fun _ eb=>
 oP E (fA 40 a 0) eb fun ec ed=>
 oP E (sA 3 ec dx) ed fun _ ee=>
 dX ee fun c=>
 qP pG (fA 123 b 3) fun e=>
 qP pG (fA 40 a 0) fun f=>
 qP pG (fA 123 b 3) fun s=>
 qL pG c (blk e) (lA 57 e) fun ef=>
 qP pG (iA 57 ef (vI 1)) fun g=>
 qL pG c (blk g) (lA 123 g) fun eg=>
 qL pG c (blk f) (lA 3 f) fun eh=>
 qL pG c (blk s) (lA 57 s) fun ei=>
 qP pG (iA 57 ei (vI 0)) fun t=>
 qL pG c (blk t) (lA 123 t) fun ej=>
 oP E (xCall (fC 84) [ej,x5]) c fun ek i=>
 keepX [(blk f),(blk g),(blk e)] c i (opK pG E (xCall (fC 83) [x0,eg,eh,ek]) i fun u j=>
 keepX [] i j (qP pG (xT u 0) fun el=>
 qP pG (xT u 1) fun em=>
 qP pG (fA 40 a 7) fun en=>
 oP E (sA 38 en el) j fun _ k=>
 keepX [] j k (qP pG (fA 40 a 0) fun eo=>
 oP E (sA 3 eo em) k fun _ v=>
 keepX [] k v (j1 [] v))))))))
def h80:Hint:=(sQ (hS (sQ (hC hN hN)) (sQ (sQ (hU [] (sQ (hB (sQ (hC hN (sQ (hC (sQ (sQ hN)) (sQ (hC (sQ hN) (sQ (sQ (.reg [(0,8796093022208,1),(0,17592186044416,128),(2,35184372088832,17592186044416),(4,70368744177664,35184372088832),(8,140737488355328,70368744177664),(0,281474976710656,4096),(32,562949953421312,281474976710656),(0,1125899906842624,128),(128,2251799813685248,1125899906842624),(256,4503599627370496,2251799813685248),(512,9007199254740992,4503599627370496),(0,18014398509481984,32),(3072,36028797018963968,27021597764222976),(4177,72057594037927936,36741280553762816),(8192,4398046511104,72057594037927936),(16384,144115188075855872,4398046511104),(16384,288230376151711744,4398046511104),(65535,576460752303423488,4096),(196607,0,720575940379279360),(524287,1152921504606846976,4096),(1048575,0,1441151880758558720)] [1364,1364,1360,1364,1348,1364,1300,1364,1108,1364,340,1364,84,0,1364,1364,1364,1364,0,1364,0] (.early 0 (.early 1 (.early 5 (.early 7 (.early 11 (.load 2 (.early 3 (.load 4 (.load 6 (.load 8 (.early 9 (.load 10 (.step 12 (.step 13 (.early 14 (.early 15 (.early 16 (.early 17 (.step 18 (.early 19 (.step 20 .done)))))))))))))))))))))))))))))))) hN)))))
theorem d0e{x0 x1 x2 x3 x4 x5:Value}(h:F80 x0 x1 x2 x3 x4 x5 w R E):Cv pG 80 #[x0,x1,x2,x3,x4,x5] w R E:=okF (h:=h80) Tryz.func80 (by kernel_rfl) (by kernel_rfl) h
def c0a(w)(R:RT)(_E:Pan):=
 ∀_τ:Fr,(R (vI (-1)) w)
def c4A(x0 x1 x5 w)(next2:NT)(j1:NT)(R:RT)(E):=
 opK pG E (xNil x0) w fun c d=>
 oP E (fA 77 c 0) d fun e f=>
 oP E (fA 30 e 0) f fun g i=>
 oP E (lA 27 g) i fun j k=>
 oP E (xBuiltin .len #[27] 3 [false] [j]) k fun l m=>
 oP E (bN .lss 3 6 12 x5 l) m fun n a=>
 xcond n
 (oP E (xNil x0) a fun o p=>
 oP E (fA 77 o 0) p fun q r=>
 oP E (fA 30 q 0) r fun s t=>
 oP E (lA 27 s) t fun u v=>
 oP E (iA 27 u x5) v fun y z=>
 oP E (lA 9 y) z fun aa ab=>
 oP E (bN .eql 9 23 24 aa x1) ab fun ac b=>
 xcond ac
 (R x5 b)
 (oP E (bC .add 3 14 x5 (vI 1)) b fun ad ae=>
 next2 [ad] ae))
 (j1 [] a)
def F81(x0 x1 w)(R:RT)(E):=
 xcut (fun _ a=>c0a a R E) fun j1=>
 xloop [5] [(vI 0)] w fun b c next2=>
 c4A x0 x1 (b 5) c next2 j1 R E
def h81:Hint:=(sQ (hU [] (sQ (hB (hL [5] (hS (sQ (hC hN hN)) (hS (hB (sQ (hC (sQ hN) hN))) hN))))) (sQ hN)))
theorem d0f{x0 x1:Value}(h:F81 x0 x1 w R E):Cv pG 81 #[x0,x1] w R E:=okF (h:=h81) Tryz.func81 (by kernel_rfl) (by kernel_rfl) h
def c0b(w)(R:RT)(_E:Pan):=
 ∀_τ:Fr,(R (vI (-1)) w)
def c4B(x0 x1 x5 w)(next2:NT)(j1:NT)(R:RT)(E):=
 opK pG E (xNil x0) w fun c d=>
 oP E (fA 77 c 0) d fun e f=>
 oP E (fA 30 e 2) f fun g i=>
 oP E (lA 22 g) i fun j k=>
 oP E (xBuiltin .len #[22] 3 [false] [j]) k fun l m=>
 oP E (bN .lss 3 6 12 x5 l) m fun n a=>
 xcond n
 (oP E (xNil x0) a fun o p=>
 oP E (fA 77 o 0) p fun q r=>
 oP E (fA 30 q 2) r fun s t=>
 oP E (lA 22 s) t fun u v=>
 oP E (iA 22 u x5) v fun y z=>
 oP E (fA 70 y 0) z fun aa ab=>
 oP E (lA 9 aa) ab fun ac ad=>
 oP E (bN .eql 9 24 25 ac x1) ad fun ae b=>
 xcond ae
 (R x5 b)
 (oP E (bC .add 3 14 x5 (vI 1)) b fun af ag=>
 next2 [af] ag))
 (j1 [] a)
def F82(x0 x1 w)(R:RT)(E):=
 xcut (fun _ a=>c0b a R E) fun j1=>
 xloop [5] [(vI 0)] w fun b c next2=>
 c4B x0 x1 (b 5) c next2 j1 R E
def h82:Hint:=(sQ (hU [] (sQ (hB (hL [5] (hS (sQ (hC hN hN)) (hS (hB (sQ (hC (sQ hN) hN))) hN))))) (sQ hN)))
theorem d0g{x0 x1:Value}(h:F82 x0 x1 w R E):Cv pG 82 #[x0,x1] w R E:=okF (h:=h82) Tryz.func82 (by kernel_rfl) (by kernel_rfl) h
def F83(x0 x1 x2 x3 w)(R:RT)(E):=
 opK pG E (xV (Instr.box 123 x1)) w fun c l=>
 oP E (xV (Instr.alloc 38 true (.tuple #[]))) l fun b m=>
 oP E (lA 123 c) m fun n o=>
 oP E (xCall (fC 79) [x0,n]) o fun d p=>
 oP E (xT d 0) p fun q r=>
 oP E (xT d 1) r fun a s=>
 oP E (xV (Instr.alloc 38 true (.tuple #[]))) s fun e t=>
 oP E (sA 38 e q) t fun _ u=>
 oP E (gNo a (xNil (zF a x0))) u fun v y=>
 oP E (gNo a (fA 77 v 1)) y fun z aa=>
 oP E (gNo a (lA 4 z)) aa fun ab ac=>
 oP E (xPick a (vB true) ab) ac fun ad f=>
 xcond ad
 (oP E (lA 38 e) f fun ae af=>
 oP E (sA 38 b ae) af fun _ g=>
 xcell pG 38 b g fun ag=>
 R (Value.tuple #[ag,x2]) g)
 (oP E (xCall (fC 28) [x0]) f fun i ah=>
 oP E (xNil x0) ah fun ai aj=>
 oP E (fA 77 ai 0) aj fun ak al=>
 oP E (fA 30 ak 1) al fun am an=>
 oP E (lA 3 am) an fun ao ap=>
 oP E (bC .add 3 37 x3 (vI 1)) ap fun aq ar=>
 oP E (xBuiltin .max #[3,3] 3 [false,false] [ao,aq]) ar fun au av=>
 oP E (xNil x0) av fun aw ax=>
 oP E (fA 77 aw 0) ax fun ay az=>
 oP E (fA 30 ay 1) az fun ba bb=>
 oP E (sA 3 ba au) bb fun _ bc=>
 oP E (xNil x0) bc fun bd be=>
 oP E (fA 77 bd 0) be fun bf bg=>
 oP E (fA 30 bf 0) bg fun bh bi=>
 oP E (lA 27 bh) bi fun bj bk=>
 oP E (xBuiltin .len #[27] 3 [false] [bj]) bk fun bl bm=>
 oP E (bN .add 3 48 49 bl x3) bm fun j bn=>
 oP E (lA 123 c) bn fun bo bp=>
 oP E (xCall (fC 80) [x0,bo,j,x2,i,x3]) bp fun _t57_66 bq=>
 oP E (xV (Instr.build 38 #[(0,j)])) bq fun br bs=>
 oP E (sA 38 b br) bs fun _ k=>
 xcell pG 38 b k fun bt=>
 R (Value.tuple #[bt,i]) k)
def h83:Hint:=(sQ (sQ (hS (sQ (hC (sQ hN) hN)) (sQ (sQ (sQ (sQ (sQ hN))))))))
theorem d0h{x0 x1 x2 x3:Value}(h:F83 x0 x1 x2 x3 w R E):Cv pG 83 #[x0,x1,x2,x3] w R E:=okF (h:=h83) Tryz.func83 (by kernel_rfl) (by kernel_rfl) h
def F84(x0 x1 w)(R:RT)(E):=
 opK pG E (xV (Instr.box 123 x0)) w fun c f=>
 oP E (fA 123 c 0) f fun g i=>
 oP E (lA 3 g) i fun j k=>
 oP E (bC .eql 3 7 j (vI 1)) k fun d l=>
 oP E (gNo d (fA 123 c 0)) l fun m n=>
 oP E (gNo d (lA 3 m)) n fun o p=>
 oP E (gNo d (bC .eql 3 11 o (vI 2))) p fun q r=>
 oP E (xPick d (vB true) q) r fun a s=>
 oP E (gNo a (fA 123 c 0)) s fun t u=>
 oP E (gNo a (lA 3 t)) u fun v y=>
 oP E (gNo a (bC .eql 3 16 v (vI 5))) y fun b z=>
 oP E (gsem (asB (zF a b)) true (fA 123 c 3)) z fun aa ab=>
 oP E (gsem (asB (zF a b)) true (lA 57 aa)) ab fun ac ad=>
 oP E (gsem (asB (zF a b)) true (iA 57 ac (vI 0))) ad fun ae af=>
 oP E (gsem (asB (zF a b)) true (fA 123 ae 0)) af fun ag ah=>
 oP E (gsem (asB (zF a b)) true (lA 3 ag)) ah fun ai aj=>
 oP E (gsem (asB (zF a b)) true (bC .eql 3 23 ai (vI 1))) aj fun ak al=>
 oP E (gNo a (xPick (zF a b) ak (vB false))) al fun am an=>
 oP E (xPick a (vB true) am) an fun ao e=>
 xcond ao
 (R x1 e)
 (oP E (bC .add 3 28 x1 (vI 1)) e fun ap aq=>
 R ap aq)
def h84:Hint:=(sQ (hS (hB (sQ (hC (sQ hN) hN))) (sQ hN)))
theorem d0i{x0 x1:Value}(h:F84 x0 x1 w R E):Cv pG 84 #[x0,x1] w R E:=okF (h:=h84) Tryz.func84 (by kernel_rfl) (by kernel_rfl) h
def F85(x0 x1 x2 w)(R:RT)(E):=
 opK pG E (xBuiltin .len #[23] 3 [false] [x1]) w fun b c=>
 oP E (bC .eql 3 8 b (vI 0)) c fun d a=>
 xcond d
 (R x2 a)
 (oP E (xCall (fC 28) [x0]) a fun e f=>
 R e f)
def h85:Hint:=(sQ (hS (sQ (hC (sQ hN) hN)) (sQ hN)))
theorem d0j{x0 x1 x2:Value}(h:F85 x0 x1 x2 w R E):Cv pG 85 #[x0,x1,x2] w R E:=okF (h:=h85) Tryz.func85 (by kernel_rfl) (by kernel_rfl) h
def c0c(x0 x3 x4 x6 x12 x14 x15 w)(R:RT)(E):=
 ∀_τ:Fr,(oP E (xCall (fC 78) [(vI 12),x15,x3]) w fun b c=>
 oP E (xV (Instr.alloc 40 true (.tuple #[]))) c fun a d=>
 oP E (sA 40 a b) d fun _ e=>
 oP E (fA 131 x6 1) e fun f g=>
 oP E (lA 3 f) g fun i j=>
 oP E (fA 40 a 5) j fun k l=>
 oP E (sA 3 k i) l fun _ m=>
 oP E (lA 38 x12) m fun n o=>
 oP E (fA 40 a 6) o fun p q=>
 oP E (sA 38 p n) q fun _ r=>
 oP E (lA 38 x14) r fun s t=>
 oP E (fA 40 a 7) t fun u v=>
 oP E (sA 38 u s) v fun _ y=>
 oP E (lA 40 a) y fun z aa=>
 oP E (xCall (fC 77) [x0,z]) aa fun _t131_133 ab=>
 oP E (fA 40 a 1) ab fun ac ad=>
 oP E (sA 3 ac x4) ad fun _ ae=>
 oP E (fA 131 x6 1) ae fun af ag=>
 oP E (lA 3 af) ag fun ah ai=>
 oP E (xCall (fC 52) [ah]) ai fun aj ak=>
 oP E (fA 40 a 5) ak fun al am=>
 oP E (sA 3 al aj) am fun _ an=>
 oP E (lA 40 a) an fun ao ap=>
 oP E (xCall (fC 77) [x0,ao]) ap fun _t140_151 aq=>
 R (Value.tuple #[]) aq)
def F86(x0 x1 x2 x3 x4 w)(R:RT)(E):=
 opK pG E (xV (Instr.box 131 x1)) w fun a ar=>
 oP E (xNil x0) ar fun au av=>
 oP E (fA 77 au 1) av fun aw ax=>
 oP E (lA 4 aw) ax fun ay s=>
 xcond ay
 (R (Value.tuple #[]) s)
 (oP E (fA 131 a 0) s fun az ba=>
 oP E (lA 3 az) ba fun e bb=>
 oP E (bC .eql 3 22 e (vI 1)) bb fun bc t=>
 xcond bc
 (oP E (xCall (fC 78) [(vI 1),x2,x3]) t fun bd be=>
 oP E (xCall (fC 77) [x0,bd]) be fun _t29_17 bf=>
 R (Value.tuple #[]) bf)
 (oP E (bC .eql 3 22 e (vI 2)) t fun bg u=>
 xcond bg
 (oP E (xCall (fC 78) [(vI 1),x2,x4]) u fun bh bi=>
 oP E (xCall (fC 77) [x0,bh]) bi fun _t36_23 bj=>
 R (Value.tuple #[]) bj)
 (oP E (bC .eql 3 22 e (vI 4)) u fun bk v=>
 xcond bk
 (oP E (fA 131 a 3) v fun bl bm=>
 oP E (lA 58 bl) bm fun bn bo=>
 oP E (iA 58 bn (vI 0)) bo fun bp bq=>
 oP E (lA 131 bp) bq fun br bs=>
 oP E (xCall (fC 86) [x0,br,x2,x4,x3]) bs fun _t47_35 bt=>
 R (Value.tuple #[]) bt)
 (oP E (bC .eql 3 22 e (vI 5)) v fun bu y=>
 xcond bu
 (oP E (xCall (fC 28) [x0]) y fun z bv=>
 oP E (fA 131 a 3) bv fun bw bz=>
 oP E (lA 58 bw) bz fun ca cb=>
 oP E (iA 58 ca (vI 0)) cb fun cc cd=>
 oP E (lA 131 cc) cd fun ce cf=>
 oP E (xCall (fC 86) [x0,ce,x2,z,x4]) cf fun _t60_49 cg=>
 oP E (fA 131 a 3) cg fun ch ci=>
 oP E (lA 58 ch) ci fun cj ck=>
 oP E (iA 58 cj (vI 1)) ck fun cl cm=>
 oP E (lA 131 cl) cm fun cn co=>
 oP E (xCall (fC 86) [x0,cn,z,x3,x4]) co fun _t69_59 cp=>
 R (Value.tuple #[]) cp)
 (oP E (bC .eql 3 22 e (vI 6)) y fun cq aa=>
 xcond cq
 (oP E (xCall (fC 28) [x0]) aa fun ab cr=>
 oP E (fA 131 a 3) cr fun cs ct=>
 oP E (lA 58 cs) ct fun cu cv=>
 oP E (iA 58 cu (vI 0)) cv fun cw cx=>
 oP E (lA 131 cw) cx fun cy cz=>
 oP E (xCall (fC 86) [x0,cy,x2,x3,ab]) cz fun _t82_73 da=>
 oP E (fA 131 a 3) da fun db dc=>
 oP E (lA 58 db) dc fun dd de=>
 oP E (iA 58 dd (vI 1)) de fun df dg=>
 oP E (lA 131 df) dg fun dh di=>
 oP E (xCall (fC 86) [x0,dh,ab,x3,x4]) di fun _t91_83 dj=>
 R (Value.tuple #[]) dj)
 (oP E (bC .eql 3 22 e (vI 3)) aa fun dk ac=>
 xcond dk
 (oP E (fA 131 a 2) ac fun dl dm=>
 oP E (lA 57 dl) dm fun dn dp=>
 oP E (iA 57 dn (vI 0)) dp fun dq dr=>
 oP E (lA 123 dq) dr fun ds dt=>
 oP E (xCall (fC 83) [x0,ds,x2,(vI 0)]) dt fun ad du=>
 oP E (xT ad 0) du fun dv dw=>
 oP E (xT ad 1) dw fun j dx=>
 oP E (xV (Instr.alloc 38 true (.tuple #[]))) dx fun ae dy=>
 oP E (sA 38 ae dv) dy fun _ dz=>
 xcut (fun af ea=>c0c x0 x3 x4 a ae (nth af 0) (nth af.tail 0) ea R E) fun j1=>
 dX dz fun b=>
 qP pG (fA 131 a 2) fun c=>
 qP pG (fA 131 a 2) fun f=>
 qL pG b (blk c) (lA 57 c) fun eb=>
 qP pG (iA 57 eb (vI 1)) fun d=>
 qL pG b (blk d) (lA 123 d) fun k=>
 qL pG b (blk f) (lA 57 f) fun ec=>
 qP pG (iA 57 ec (vI 0)) fun g=>
 qL pG b (blk g) (lA 123 g) fun ag=>
 (oP E (xCall (fC 84) [ag,(vI 0)]) b fun ah i=>
 keepX [(blk d),(blk c)] b i ((oP E (xCall (fC 83) [x0,k,j,ah]) i fun ai l=>
 keepX [] i l (qP pG (xT ai 0) fun ed=>
 qP pG (xT ai 1) fun ee=>
 oP E (xV (Instr.alloc 38 true (.tuple #[]))) l fun aj m=>
 keepX [(blk g),(blk f),(blk d),(blk c)] l m (opK pG E (sA 38 aj ed) m fun _ ak=>
 keepX [] m ak (j1 [aj,ee] ak))))∧
 (oP E (xV (Instr.alloc 38 true (.tuple #[]))) i fun al n=>
 keepX [(blk g),(blk f),(blk d),(blk c)] i n (opK pG E (xCall (fC 83) [x0,k,j,ah]) n fun am o=>
 keepX [] n o (qP pG (xT am 0) fun ef=>
 qP pG (xT am 1) fun eg=>
 oP E (sA 38 al ef) o fun _ an=>
 keepX [] o an (j1 [al,eg] an))))))∧
 (oP E (xV (Instr.alloc 38 true (.tuple #[]))) b fun ao p=>
 keepX [(blk g),(blk f),(blk d),(blk c)] b p (opK pG E (xCall (fC 84) [ag,(vI 0)]) p fun eh q=>
 keepX [(blk d),(blk c)] p q (opK pG E (xCall (fC 83) [x0,k,j,eh]) q fun ap r=>
 keepX [] q r (qP pG (xT ap 0) fun ei=>
 qP pG (xT ap 1) fun ej=>
 oP E (sA 38 ao ei) r fun _ aq=>
 keepX [] r aq (j1 [ao,ej] aq))))))
 (R (Value.tuple #[]) ac)))))))
def h86:Hint:=(sQ (hS (sQ (hC hN hN)) (sQ (hB (sQ (hC hN (sQ (hC hN (sQ (hC hN (sQ (hC (sQ (sQ hN)) (sQ (hC (sQ (sQ hN)) (sQ (hC (sQ (hU [14,15] (.reg [(0,40564819207303340847894502572032,1),(0,81129638414606681695789005144064,64),(2,162259276829213363391578010288128,81129638414606681695789005144064),(4,324518553658426726783156020576256,162259276829213363391578010288128),(8,649037107316853453566312041152512,324518553658426726783156020576256),(0,1298074214633706907132624082305024,8192),(0,2596148429267413814265248164610048,64),(64,5192296858534827628530496329220096,2596148429267413814265248164610048),(128,10384593717069655257060992658440192,5192296858534827628530496329220096),(256,20769187434139310514121985316880384,10384593717069655257060992658440192),(512,41538374868278621028243970633760768,20769187434139310514121985316880384),(1073,83076749736557242056487941267521536,43526051009436484729790801259790336),(2048,20282409603651670423947251286016,83076749736557242056487941267521536),(4096,166153499473114484112975882535043072,20282409603651670423947251286016),(4096,332306998946228968225951765070086144,20282409603651670423947251286016),(0,16384,0),(49151,0,166153499473114484112975882535059456),(131071,32768,332306998946228968225951765070086144)] [660,660,656,660,644,660,660,532,660,148,20,0,660,660,660,660,0,660] (.early 0 (.early 1 (.early 5 (.early 6 (.load 2 (.early 3 (.load 4 (.load 7 (.early 8 (.load 9 (.alt 10 (.alt 11 (.early 12 (.early 13 (.early 14 (.step 15 (.step 16 (.early 17 .done)))))) (.step 15 (.step 11 (.early 12 (.early 13 (.early 14 (.step 16 (.early 17 .done)))))))) (.step 15 (.step 10 (.step 11 (.early 12 (.early 13 (.early 14 (.step 16 (.early 17 .done)))))))))))))))))))) (sQ (sQ (sQ (sQ (sQ (sQ (sQ hN))))))))) hN))))))))))))))))
theorem d0k{x0 x1 x2 x3 x4:Value}(h:F86 x0 x1 x2 x3 x4 w R E):Cv pG 86 #[x0,x1,x2,x3,x4] w R E:=okF (h:=h86) Tryz.func86 (by kernel_rfl) (by kernel_rfl) h
def F87(x0 x1 x2 x3 w)(R:RT)(E):=
 opK pG E (xBuiltin .len #[23] 3 [false] [x1]) w fun b c=>
 oP E (bC .gtr 3 9 b (vI 0)) c fun d a=>
 xcond d
 (oP E (xCall (fC 29) [x0,x1,x2,x3]) a fun _t15_5 e=>
 R (Value.tuple #[]) e)
 (R (Value.tuple #[]) a)
def h87:Hint:=(sQ (hC hN hN))
theorem d0l{x0 x1 x2 x3:Value}(h:F87 x0 x1 x2 x3 w R E):Cv pG 87 #[x0,x1,x2,x3] w R E:=okF (h:=h87) Tryz.func87 (by kernel_rfl) (by kernel_rfl) h
def F88(x0 x1 w)(R:RT)(E):=
 opK pG E (xV (Instr.box 123 x0)) w fun b q=>
 oP E (lA 123 b) q fun r s=>
 oP E (xCall (fC 84) [r,x1]) s fun t u=>
 oP E (bN .eql 3 7 8 t x1) u fun v j=>
 xcond v
 (R (vI 0) j)
 (oP E (fA 123 b 3) j fun y z=>
 oP E (lA 57 y) z fun aa ab=>
 oP E (xBuiltin .len #[57] 3 [false] [aa]) ab fun k ac=>
 oP E (bC .eql 3 12 k (vI 1)) ac fun ad l=>
 xcond ad
 (oP E (fA 123 b 3) l fun ae af=>
 oP E (lA 57 ae) af fun ag ah=>
 oP E (iA 57 ag (vI 0)) ah fun ai aj=>
 oP E (lA 123 ai) aj fun ak al=>
 oP E (xCall (fC 89) [ak,x1]) al fun am an=>
 R am an)
 (oP E (bC .eql 3 12 k (vI 2)) l fun ao m=>
 xcond ao
 (dX m fun a=>
 qP pG (fA 123 b 3) fun n=>
 qP pG (fA 123 b 3) fun c=>
 qP pG (fA 123 b 3) fun e=>
 qL pG a (blk n) (lA 57 n) fun ap=>
 qP pG (iA 57 ap (vI 0)) fun o=>
 qL pG a (blk o) (lA 123 o) fun aq=>
 qL pG a (blk c) (lA 57 c) fun ar=>
 qP pG (iA 57 ar (vI 1)) fun d=>
 qL pG a (blk d) (lA 123 d) fun au=>
 qL pG a (blk e) (lA 57 e) fun av=>
 qP pG (iA 57 av (vI 0)) fun f=>
 qL pG a (blk f) (lA 123 f) fun aw=>
 oP E (xCall (fC 89) [aq,x1]) a fun ax g=>
 keepX [(blk f),(blk e),(blk d),(blk c)] a g (opK pG E (xCall (fC 84) [aw,x1]) g fun ay i=>
 keepX [(blk d),(blk c)] g i (opK pG E (xCall (fC 89) [au,ay]) i fun az p=>
 keepX [] i p (qP pG (xBuiltin .max #[3,3] 3 [false,false] [ax,az]) fun ba=>
 R ba p))))
 (R (vI 0) m)))
def h88:Hint:=(sQ (hS (sQ (hC (sQ hN) hN)) (hS (sQ (hB (sQ (hC (sQ hN) (sQ (hC (hS (.reg [(0,8388608,4),(1,16777216,8388608),(2,33554432,16777216),(4,67108864,33554432),(0,134217728,2),(24,268435456,201326592),(0,536870912,4),(64,1073741824,536870912),(128,2147483648,1073741824),(256,4294967296,2147483648),(0,8589934592,4),(1024,17179869184,8589934592),(2048,34359738368,17179869184),(4096,68719476736,34359738368),(0,137438953472,2),(24608,274877906944,206158430208),(33280,549755813888,279172874240),(65568,1099511627776,550024249344),(262143,16,1099511627776)] [10890,10888,10890,10882,10890,10880,10890,10762,10890,10378,10890,8842,10890,2698,10890,640,0,10890,10890] (.early 0 (.early 4 (.early 6 (.early 10 (.early 14 (.load 1 (.early 2 (.load 3 (.load 7 (.early 8 (.load 9 (.load 11 (.early 12 (.load 13 (.step 5 (.step 15 (.step 16 (.early 17 (.early 18 .done)))))))))))))))))))) hN) hN)))))) (sQ hN))))
theorem d0m{x0 x1:Value}(h:F88 x0 x1 w R E):Cv pG 88 #[x0,x1] w R E:=okF (h:=h88) Tryz.func88 (by kernel_rfl) (by kernel_rfl) h
def F89(x0 x1 w)(R:RT)(E):=
 opK pG E (xV (Instr.box 123 x0)) w fun a c=>
 oP E (lA 123 a) c fun d e=>
 oP E (xCall (fC 84) [d,x1]) e fun f g=>
 oP E (bN .eql 3 7 8 f x1) g fun i b=>
 xcond i
 (R (vI 0) b)
 (oP E (bC .add 3 10 x1 (vI 1)) b fun j k=>
 oP E (lA 123 a) k fun l m=>
 oP E (xCall (fC 88) [l,x1]) m fun n o=>
 oP E (xBuiltin .max #[3,3] 3 [false,false] [j,n]) o fun p q=>
 R p q)
def h89:Hint:=(sQ (hS (sQ (hC (sQ hN) hN)) (sQ hN)))
theorem d0n{x0 x1:Value}(h:F89 x0 x1 w R E):Cv pG 89 #[x0,x1] w R E:=okF (h:=h89) Tryz.func89 (by kernel_rfl) (by kernel_rfl) h
def c0d(x3 w)(R:RT)(_E:Pan):=
 ∀_τ:Fr,(R x3 w)
def c4C(x1 x3 x4 w)(next3:NT)(j2:NT)(_R:RT)(E):=
 opK pG E (fA 131 x1 3) w fun b c=>
 oP E (lA 58 b) c fun d e=>
 oP E (xBuiltin .len #[58] 3 [false] [d]) e fun f g=>
 oP E (bN .lss 3 24 27 x4 f) g fun i a=>
 xcond i
 (oP E (fA 131 x1 3) a fun j k=>
 oP E (lA 58 j) k fun l m=>
 oP E (iA 58 l x4) m fun n o=>
 oP E (lA 131 n) o fun p q=>
 oP E (xCall (fC 90) [p]) q fun r s=>
 oP E (xBuiltin .max #[3,3] 3 [false,false] [x3,r]) s fun t u=>
 oP E (bC .add 3 29 x4 (vI 1)) u fun v y=>
 next3 [t,v] y)
 (j2 [x3] a)
def c0e(x1 x3 w)(R:RT)(E):=
 ∀_τ:Fr,(xcut (fun b c=>c0d (nth b 0) c R E) fun j2=>
 xloop [3,4] [x3,(vI 0)] w fun a d next3=>
 c4C x1 (a 3) (a 4) d next3 j2 R E)
def F90(x0 w)(R:RT)(E):=
 opK pG E (xV (Instr.box 131 x0)) w fun b n=>
 xcut (fun o p=>c0e b (nth o 0) p R E) fun j1=>
 oP E (fA 131 b 0) n fun q r=>
 oP E (lA 3 q) r fun s t=>
 oP E (bC .eql 3 6 s (vI 3)) t fun u j=>
 xcond u
 (dX j fun a=>
 qP pG (fA 131 b 2) fun k=>
 qP pG (fA 131 b 2) fun c=>
 qP pG (fA 131 b 2) fun e=>
 qL pG a (blk k) (lA 57 k) fun v=>
 qP pG (iA 57 v (vI 0)) fun l=>
 qL pG a (blk l) (lA 123 l) fun y=>
 qL pG a (blk c) (lA 57 c) fun z=>
 qP pG (iA 57 z (vI 1)) fun d=>
 qL pG a (blk d) (lA 123 d) fun aa=>
 qL pG a (blk e) (lA 57 e) fun ab=>
 qP pG (iA 57 ab (vI 0)) fun f=>
 qL pG a (blk f) (lA 123 f) fun ac=>
 oP E (xCall (fC 89) [y,(vI 0)]) a fun ad g=>
 keepX [(blk f),(blk e),(blk d),(blk c)] a g (opK pG E (xCall (fC 84) [ac,(vI 0)]) g fun ae i=>
 keepX [(blk d),(blk c)] g i (opK pG E (xCall (fC 89) [aa,ae]) i fun af m=>
 keepX [] i m (qP pG (xBuiltin .max #[3,3] 3 [false,false] [ad,af]) fun ag=>
 j1 [ag] m))))
 (j1 [(vI 0)] j)
def h90:Hint:=(sQ (sQ (hU [3] (sQ (hC (.reg [(0,256,2),(1,512,256),(2,1024,512),(4,2048,1024),(8,4096,2048),(0,8192,2),(32,16384,8192),(64,32768,16384),(128,65536,32768),(0,131072,2),(512,262144,131072),(1024,524288,262144),(2048,1048576,524288),(4112,2097152,1048576),(8448,4194304,2162688),(16400,8388608,4198400),(65535,8,8388608)] [5450,5448,5450,5442,5440,5450,5386,5450,5194,5450,4426,5450,1354,320,0,5450,5450] (.early 0 (.early 5 (.early 9 (.load 1 (.early 2 (.load 3 (.load 6 (.early 7 (.load 8 (.load 10 (.early 11 (.load 12 (.step 4 (.step 13 (.step 14 (.early 15 (.early 16 .done)))))))))))))))))) hN)) (hU [3] (sQ (hB (hL [3,4] (hS (sQ (hC hN hN)) (hS (hB hN) hN))))) (sQ hN)))))
theorem d0o{x0:Value}(h:F90 x0 w R E):Cv pG 90 #[x0] w R E:=okF (h:=h90) Tryz.func90 (by kernel_rfl) (by kernel_rfl) h
def F91(w)(R:RT)(E):=
 opK pG E (xV (Instr.alloc 38 true (.tuple #[]))) w fun a c=>
 oP E (xV (Instr.build 38 #[(0,(vI (-1)))])) c fun d e=>
 oP E (sA 38 a d) e fun _ b=>
 xcell pG 38 a b fun f=>
 R f b
def h91:Hint:=(sQ (sQ hN))
theorem d0p(h:F91  w R E):Cv pG 91 #[] w R E:=okF (h:=h91) Tryz.func91 (by kernel_rfl) (by kernel_rfl) h
def F92(x0 w)(R:RT)(E):=
 opK pG E (xV (Instr.box 25 x0)) w fun a b=>
 oP E (lA 25 a) b fun c d=>
 oP E (xCall (fC 107) [c]) d fun e f=>
 oP E (xNil e) f fun g i=>
 oP E (fA 169 g 2) i fun j k=>
 oP E (lA 31 j) k fun l m=>
 R l m
def h92:Hint:=(sQ (sQ hN))
theorem d0q{x0:Value}(h:F92 x0 w R E):Cv pG 92 #[x0] w R E:=okF (h:=h92) Tryz.func92 (by kernel_rfl) (by kernel_rfl) h
def c4D(x5 w)(R:RT)(_E:Pan):=
 ∀_τ:Fr,(R (Value.tuple #[x5,(eS),(vI 0)]) w)
def c4E(x5 x6 x13 x14 x15 w)(next2:NT)(j1:NT)(R:RT)(E):=
 opK pG E (bN .lss 3 15 14 x15 x14) w fun n c=>
 xcond n
 (oP E (iA 22 x13 x15) c fun o p=>
 oP E (lA 70 o) p fun q r=>
 oP E (xV (Instr.alloc 70 true (.tuple #[]))) r fun a s=>
 oP E (sA 70 a q) s fun _ t=>
 oP E (lA 70 a) t fun u v=>
 oP E (xCall (fC 65) [u]) v fun b y=>
 oP E (xV (Instr.lookup 172 x6 b false)) y fun z aa=>
 oP E (bC .sub 3 23 z (vI 1)) aa fun ab ac=>
 oP E (xU (Instr.mapUpdate 172 x6 b ab)) ac fun _ ad=>
 oP E (fA 70 a 0) ad fun ae af=>
 oP E (lA 9 ae) af fun ag ah=>
 oP E (xV (Instr.lookup 66 x5 ag false)) ah fun ai aj=>
 oP E (bC .neq 3 29 ai (vI 0)) aj fun ak d=>
 xcond ak
 (dX d fun e=>
 qP pG (fA 70 a 0) fun f=>
 qL pG e (blk f) (lA 9 f) fun al=>
 R (Value.tuple #[(Value.map none),al,(vI 60)]) e)
 (oP E (fA 70 a 1) d fun am an=>
 oP E (lA 3 am) an fun ao ap=>
 oP E (bC .gtr 3 35 ao (vI 1024)) ap fun aq g=>
 xcond aq
 (dX g fun i=>
 qP pG (fA 70 a 0) fun j=>
 qL pG i (blk j) (lA 9 j) fun ar=>
 R (Value.tuple #[(Value.map none),ar,(vI 61)]) i)
 (oP E (xV (Instr.lookup 172 x6 b false)) g fun au av=>
 oP E (bC .lss 3 42 au (vI 0)) av fun aw k=>
 xcond aw
 (dX k fun l=>
 qP pG (fA 70 a 0) fun m=>
 qL pG l (blk m) (lA 9 m) fun ax=>
 R (Value.tuple #[(Value.map none),ax,(vI 62)]) l)
 (oP E (fA 70 a 0) k fun ay az=>
 oP E (lA 9 ay) az fun ba bb=>
 oP E (xU (Instr.mapUpdate 66 x5 ba b)) bb fun _ bc=>
 oP E (bC .add 3 15 x15 (vI 1)) bc fun bd be=>
 next2 [bd] be))))
 (j1 [] c)
def F93(x0 w)(R:RT)(E):=
 opK pG E (xV (Instr.makeMap 66 none)) w fun b c=>
 oP E (xV (Instr.makeMap 172 none)) c fun a d=>
 oP E (xU (Instr.mapUpdate 172 a (vI 1) (vI 32))) d fun _ e=>
 oP E (xU (Instr.mapUpdate 172 a (vI 2) (vI 16))) e fun _ f=>
 xcut (fun _ g=>c4D b g R E) fun j1=>
 oP E (xBuiltin .len #[22] 3 [false] [x0]) f fun i j=>
 xloop [15] [(vI 0)] j fun k l next2=>
 c4E b a x0 i (k 15) l next2 j1 R E
def h93:Hint:=(sQ (sQ (sQ (hU [] (sQ (hB (hL [15] (sQ (hS (hC hN hN) (hS (hB (sQ (sQ (sQ (hS (hB (sQ (hC (hS (.reg [(0,2147483648,256),(1,4294967296,2147483648),(0,4,0),(7,8,4294967296),(15,16,0)] [2,0,2,2,2] (.early 0 (.early 2 (.load 1 (.early 3 (.early 4 .done)))))) hN) (sQ (hC (hS (.reg [(0,137438953472,256),(1,274877906944,137438953472),(0,4,0),(7,8,274877906944),(15,16,0)] [2,0,2,2,2] (.early 0 (.early 2 (.load 1 (.early 3 (.early 4 .done)))))) hN) (sQ (hC (hS (.reg [(0,17592186044416,256),(1,35184372088832,17592186044416),(0,4,0),(7,8,35184372088832),(15,16,0)] [2,0,2,2,2] (.early 0 (.early 2 (.load 1 (.early 3 (.early 4 .done)))))) hN) hN))))))) hN))))) hN)))))) (sQ hN)))))
theorem d0r{x0:Value}(h:F93 x0 w R E):Cv pG 93 #[x0] w R E:=okF (h:=h93) Tryz.func93 (by kernel_rfl) (by kernel_rfl) h
end Go.Proofs.YtaokfhdinhimfaaGreatDoor
