/- The second reading of some of the program's functions, printed by gen2.py off the code; each is held against the code by the kernel. -/
import Derived.KernelRfl
import Derived.Test.YtpgelfheccpejaaDooryCGz
namespace Go.Proofs.YtpgelfheccpejaaDoor
open Go.RowKit
set_option maxRecDepth 100000
variable {w:World}{R:RT}{E:Pan}
def F3(x0 w)(R:RT)(E):=
 opK pG E (xV (Instr.box 25 x0)) w fun a m=>
 oP E (xCall (fC 4) []) m fun n o=>
 oP E (xV (Op.unary .not n)) o fun p e=>
 xcond p
 (R (vB false) e)
 (oP E (lA 25 a) e fun q r=>
 oP E (xCall (fC 5) [q]) r fun f s=>
 oP E (xT f 0) s fun t u=>
 oP E (xT f 1) u fun g v=>
 oP E (xV (Instr.alloc 25 true (.tuple #[]))) v fun b y=>
 oP E (sA 25 b t) y fun _ z=>
 oP E (lA 25 a) z fun aa ab=>
 oP E (xCall (fC 6) [aa]) ab fun ac ad=>
 oP E (bN .neq 3 13 15 g ac) ad fun ae i=>
 xcond ae
 (R (vB false) i)
 (oP E (bC .neq 27 17 g (vI 0)) i fun af j=>
 xcond af
 (oP E (fA 25 b 0) j fun ag ah=>
 oP E (lA 22 ag) ah fun ai aj=>
 oP E (xBuiltin .len #[22] 3 [false] [ai]) aj fun ak al=>
 oP E (bC .eql 3 21 ak (vI 0)) al fun c am=>
 oP E (gYs c (fA 25 b 1)) am fun an ao=>
 oP E (gYs c (lA 23 an)) ao fun ap aq=>
 oP E (gYs c (xBuiltin .len #[23] 3 [false] [ap])) aq fun ar au=>
 oP E (gYs c (bC .eql 3 26 ar (vI 0))) au fun av aw=>
 oP E (xPick c av (vB false)) aw fun ax ay=>
 R ax ay)
 (oP E (lA 25 a) j fun az ba=>
 oP E (lA 25 b) ba fun bb bc=>
 oP E (xCall (fC 7) [az,bb]) bc fun bd be=>
 oP E (xV (Op.unary .not bd)) be fun d bf=>
 oP E (gNo d (lA 25 a)) bf fun bg bh=>
 oP E (gNo d (lA 25 b)) bh fun bi bj=>
 oP E (gNo d (xCall (fC 8) [bg,bi])) bj fun bk bl=>
 oP E (gNo d (xV (Op.unary .not bk))) bl fun bm bn=>
 oP E (xPick d (vB true) bm) bn fun bo k=>
 xcond bo
 (R (vB false) k)
 (oP E (lA 25 a) k fun bp bq=>
 oP E (xCall (fC 9) [bp]) bq fun br bs=>
 oP E (xV (Instr.alloc 25 true (.tuple #[]))) bs fun l bt=>
 oP E (sA 25 l br) bt fun _ bu=>
 oP E (lA 25 b) bu fun bv bw=>
 oP E (xCall (fC 10) [bv]) bw fun _t42_73 bz=>
 oP E (lA 25 a) bz fun ca cb=>
 oP E (lA 25 l) cb fun cc cd=>
 oP E (xCall (fC 7) [ca,cc]) cd fun ce cf=>
 R ce cf))))
def h3:Hint:=(sQ (hS (sQ (hC (sQ hN) hN)) (sQ (hS (sQ (hC (sQ hN) hN)) (hS (sQ (hC (sQ hN) hN)) (hS (sQ (hC (sQ hN) hN)) (sQ (sQ (sQ hN)))))))))
theorem b9Q{x0:Value}(h:F3 x0 w R E):Cv pG 3 #[x0] w R E:=okF (h:=h3) Tryd.func3 (by kernel_rfl) (by kernel_rfl) h
def F4(w)(R:RT)(E):=
 opK pG E (xCall (fC 12) []) w fun i j=>
 oP E (xCall (fC 11) [i]) j fun f k=>
 oP E (xT f 0) k fun l m=>
 oP E (xT f 1) m fun n o=>
 oP E (xCall (fC 12) []) o fun p q=>
 oP E (xCall (fC 13) [p]) q fun g r=>
 oP E (xT g 0) r fun s t=>
 oP E (xT g 1) t fun u v=>
 oP E (bC .eql 27 15 n (vI 0)) v fun c y=>
 oP E (gYs c (bC .eql 27 18 (zT c u) (vI 0))) y fun z aa=>
 oP E (xPick c z (vB false)) aa fun d ab=>
 oP E (gYs d (bC .eql 3 22 (zT d l) (vI 3))) ab fun ac ad=>
 oP E (xPick d ac (vB false)) ad fun e ae=>
 oP E (gYs e (bC .eql 3 26 (zT e s) (vI 5))) ae fun af ag=>
 oP E (xPick e af (vB false)) ag fun a ah=>
 oP E (gYs a (xV (Instr.build 41 #[(1,(vI (-1))),(0,(vI 1))]))) ah fun ai aj=>
 oP E (gYs a (xCall (fC 14) [ai])) aj fun ak al=>
 oP E (gYs a (bC .eql 27 31 ak (vI 30))) al fun am an=>
 oP E (xPick a am (vB false)) an fun b ao=>
 oP E (gYs b (xCall (fC 12) [])) ao fun ap aq=>
 oP E (gYs b (xCall (fC 12) [])) aq fun ar au=>
 oP E (gYs b (xCall (fC 8) [ap,ar])) au fun av aw=>
 oP E (xPick b av (vB false)) aw fun ax ay=>
 R ax ay
def h4:Hint:=(sQ (sQ (sQ (sQ hN))))
theorem b9R(h:F4  w R E):Cv pG 4 #[] w R E:=okF (h:=h4) Tryd.func4 (by kernel_rfl) (by kernel_rfl) h
def F5(x0 w)(R:RT)(E):=
 opK pG E (xV (Instr.box 25 x0)) w fun c m=>
 oP E (xV (Instr.alloc 25 true (.tuple #[]))) m fun a n=>
 oP E (lA 25 c) n fun o p=>
 oP E (xCall (fC 15) [o]) p fun i q=>
 oP E (bC .neq 27 7 i (vI 0)) q fun r j=>
 xcond r
 (oP E (xV (Instr.build 25 #[])) j fun s t=>
 oP E (sA 25 a s) t fun _ k=>
 xcell pG 25 a k fun u=>
 R (Value.tuple #[u,i]) k)
 (dX j fun b=>
 qP pG (fA 25 c 0) fun l=>
 qP pG (fA 25 c 1) fun d=>
 qL pG b (blk l) (lA 22 l) fun v=>
 qL pG b (blk d) (lA 23 d) fun y=>
 oP E (xCall (fC 16) [v]) b fun z e=>
 keepX [(blk d)] b e (opK pG E (xCall (fC 17) [y,(fC 18)]) e fun aa f=>
 keepX [] e f (qP pG (xV (Instr.build 25 #[(0,z),(1,aa)])) fun ab=>
 oP E (sA 25 a ab) f fun _ g=>
 keepX [] f g (xcell pG 25 a g fun ac=>
 R (Value.tuple #[ac,(vI 0)]) g))))
def h5:Hint:=(sQ (hS (sQ (sQ (hC (sQ hN) hN))) (hS (.reg [(0,2048,2),(1,4096,2048),(2,8192,4096),(0,16384,2),(8,32768,16384),(20,65536,32768),(36,131072,73728),(127,0,131076),(255,8,0)] [18,16,16,18,2,0,18,0,18] (.early 0 (.early 3 (.load 1 (.load 4 (.step 2 (.step 5 (.early 6 (.step 7 (.early 8 .done)))))))))) hN)))
theorem b9S{x0:Value}(h:F5 x0 w R E):Cv pG 5 #[x0] w R E:=okF (h:=h5) Tryd.func5 (by kernel_rfl) (by kernel_rfl) h
def b3x(x4 w)(R:RT)(E):=
 ∀_τ:Fr,(oP E (lA 55 x4) w fun a b=>
 oP E (xCall (fC 22) [a]) b fun c d=>
 R c d)
def b6F(x1 x4 x6 w)(next3:NT)(j2:NT)(_R:RT)(E):=
 opK pG E (fA 25 x1 1) w fun c d=>
 oP E (lA 23 c) d fun e f=>
 oP E (xBuiltin .len #[23] 3 [false] [e]) f fun g i=>
 oP E (bN .lss 3 50 53 x6 g) i fun a j=>
 oP E (gYs a (fA 55 x4 0)) j fun k l=>
 oP E (gYs a (lA 4 k)) l fun m n=>
 oP E (xPick a m (vB false)) n fun o b=>
 xcond o
 (oP E (fA 25 x1 1) b fun p q=>
 oP E (lA 23 p) q fun r s=>
 oP E (iA 23 r x6) s fun t u=>
 oP E (lA 49 t) u fun v y=>
 oP E (xCall (fC 21) [x4,v]) y fun _t66_55 z=>
 oP E (bC .add 3 59 x6 (vI 1)) z fun aa ab=>
 next3 [aa] ab)
 (j2 [] b)
def b3y(x1 x4 w)(R:RT)(E):=
 ∀_τ:Fr,(xcut (fun _ a=>b3x x4 a R E) fun j2=>
 xloop [6] [(vI 0)] w fun b c next3=>
 b6F x1 x4 (b 6) c next3 j2 R E)
def b6G(x1 x4 x5 w)(next4:NT)(j1:NT)(_R:RT)(E):=
 opK pG E (fA 25 x1 0) w fun d e=>
 oP E (lA 22 d) e fun f g=>
 oP E (xBuiltin .len #[22] 3 [false] [f]) g fun i j=>
 oP E (bN .lss 3 15 18 x5 i) j fun k c=>
 xcond k
 (oP E (fA 55 x4 0) c fun l m=>
 oP E (lA 4 l) m fun a n=>
 oP E (gYs a (fA 25 x1 0)) n fun o p=>
 oP E (gYs a (lA 22 o)) p fun q r=>
 oP E (gYs a (iA 22 q (zT a x5))) r fun s t=>
 oP E (gYs a (fA 45 s 1)) t fun u v=>
 oP E (gYs a (lA 3 u)) v fun y z=>
 oP E (gYs a (bC .geq 3 30 y (vI 0))) z fun aa ab=>
 oP E (xPick a aa (vB false)) ab fun b ac=>
 oP E (gYs b (fA 25 x1 0)) ac fun ad ae=>
 oP E (gYs b (lA 22 ad)) ae fun af ag=>
 oP E (gYs b (iA 22 af (zT b x5))) ag fun ah ai=>
 oP E (gYs b (fA 45 ah 1)) ai fun aj ak=>
 oP E (gYs b (lA 3 aj)) ak fun al am=>
 oP E (gYs b (bC .leq 3 39 al (vI 2147483647))) am fun an ao=>
 oP E (xPick b an (vB false)) ao fun ap aq=>
 oP E (fA 55 x4 0) aq fun ar au=>
 oP E (sA 4 ar ap) au fun _ av=>
 oP E (fA 25 x1 0) av fun aw ax=>
 oP E (lA 22 aw) ax fun ay az=>
 oP E (iA 22 ay x5) az fun ba bb=>
 oP E (fA 45 ba 0) bb fun bc bd=>
 oP E (lA 9 bc) bd fun be bf=>
 oP E (xCall (fC 20) [x4,be,(vB true)]) bf fun _t49_117 bg=>
 oP E (bC .add 3 20 x5 (vI 1)) bg fun bh bi=>
 next4 [bh] bi)
 (j1 [] c)
def F6(x0 w)(R:RT)(E):=
 opK pG E (xV (Instr.box 25 x0)) w fun a e=>
 oP E (lA 25 a) e fun f g=>
 oP E (xCall (fC 19) [f]) g fun i j=>
 oP E (xV (Instr.alloc 52 true (.tuple #[]))) j fun b k=>
 oP E (sA 52 b i) k fun _ l=>
 oP E (fA 52 b 2) l fun m n=>
 oP E (lA 3 m) n fun o p=>
 oP E (bC .neq 3 10 o (vI 0)) p fun q d=>
 xcond q
 (oP E (fA 52 b 2) d fun r s=>
 oP E (lA 3 r) s fun t u=>
 R t u)
 (oP E (xV (Instr.build 55 #[(0,(vB true)),(1,(vB true))])) d fun v y=>
 oP E (xV (Instr.alloc 55 true (.tuple #[]))) y fun c z=>
 oP E (sA 55 c v) z fun _ aa=>
 xcut (fun _ ab=>b3y a c ab R E) fun j1=>
 xloop [5] [(vI 0)] aa fun ac ad next4=>
 b6G a c (ac 5) ad next4 j1 R E)
def h6:Hint:=(sQ (sQ (hS (sQ (hC (sQ hN) hN)) (sQ (hU [] (sQ (hB (hL [5] (hS (sQ (hC hN hN)) (hS (hB (sQ hN)) hN))))) (hU [] (sQ (hB (hL [6] (hS (sQ (hC hN hN)) (hS (hB hN) hN))))) (sQ hN)))))))
theorem b9T{x0:Value}(h:F6 x0 w R E):Cv pG 6 #[x0] w R E:=okF (h:=h6) Tryd.func6 (by kernel_rfl) (by kernel_rfl) h
def b3z(w)(R:RT)(_E:Pan):=
 ∀_τ:Fr,(R (vB true) w)
def b6H(x2 x3 x5 w)(next2:NT)(j1:NT)(R:RT)(E):=
 opK pG E (fA 25 x2 0) w fun g i=>
 oP E (lA 22 g) i fun j k=>
 oP E (xBuiltin .len #[22] 3 [false] [j]) k fun l m=>
 oP E (bN .lss 3 31 34 x5 l) m fun n b=>
 xcond n
 (dX b fun a=>
 qP pG (fA 25 x2 0) fun c=>
 qP pG (fA 25 x3 0) fun d=>
 qL pG a (blk c) (lA 22 c) fun o=>
 qP pG (iA 22 o x5) fun e=>
 qL pG a (blk e) (lA 45 e) fun p=>
 qL pG a (blk d) (lA 22 d) fun q=>
 qP pG (iA 22 q x5) fun f=>
 qL pG a (blk f) (lA 45 f) fun r=>
 qP pG (bN .neq 45 42 47 p r) fun s=>
 xcond s
 (R (vB false) a)
 (oP E (bC .add 3 36 x5 (vI 1)) a fun t u=>
 next2 [t] u))
 (j1 [] b)
def F7(x0 x1 w)(R:RT)(E):=
 opK pG E (xV (Instr.box 25 x0)) w fun c g=>
 oP E (xV (Instr.box 25 x1)) g fun d i=>
 oP E (lA 25 c) i fun j k=>
 oP E (xCall (fC 23) [j]) k fun l m=>
 oP E (xV (Op.unary .not l)) m fun e n=>
 oP E (gNo e (lA 25 d)) n fun o p=>
 oP E (gNo e (xCall (fC 23) [o])) p fun q r=>
 oP E (gNo e (xV (Op.unary .not q))) r fun s t=>
 oP E (xPick e (vB true) s) t fun a u=>
 oP E (gNo a (fA 25 c 0)) u fun v y=>
 oP E (gNo a (lA 22 v)) y fun z aa=>
 oP E (gNo a (xBuiltin .len #[22] 3 [false] [z])) aa fun ab ac=>
 oP E (gNo a (fA 25 d 0)) ac fun ad ae=>
 oP E (gNo a (lA 22 ad)) ae fun af ag=>
 oP E (gNo a (xBuiltin .len #[22] 3 [false] [af])) ag fun ah ai=>
 oP E (gNo a (bN .neq 3 17 20 ab ah)) ai fun aj ak=>
 oP E (xPick a (vB true) aj) ak fun b al=>
 oP E (gNo b (fA 25 c 1)) al fun am an=>
 oP E (gNo b (lA 23 am)) an fun ao ap=>
 oP E (gNo b (fA 25 d 1)) ap fun aq ar=>
 oP E (gNo b (lA 23 aq)) ar fun au av=>
 oP E (gNo b (xCall (fC 24) [ao,au])) av fun aw ax=>
 oP E (gNo b (xV (Op.unary .not aw))) ax fun ay az=>
 oP E (xPick b (vB true) ay) az fun ba f=>
 xcond ba
 (R (vB false) f)
 (xcut (fun _ bb=>b3z bb R E) fun j1=>
 xloop [5] [(vI 0)] f fun bc bd next2=>
 b6H c d (bc 5) bd next2 j1 R E)
def h7:Hint:=(sQ (hS (sQ (hC (sQ hN) hN)) (hU [] (sQ (hB (hL [5] (hS (sQ (hC hN hN)) (hS (hB (hS (.reg [(0,274877906944,4),(1,549755813888,274877906944),(0,1099511627776,32),(6,2199023255552,1649267441664),(8,4398046511104,2199023255552),(0,8796093022208,8),(32,17592186044416,8796093022208),(0,35184372088832,32),(192,70368744177664,52776558133248),(256,140737488355328,70368744177664),(528,281474976710656,145135534866432)] [594,592,594,594,578,594,530,594,594,82,594] (.early 0 (.early 2 (.early 5 (.early 7 (.load 1 (.early 3 (.load 4 (.load 6 (.early 8 (.load 9 (.early 10 .done)))))))))))) (hC (sQ hN) hN))) hN))))) (sQ hN))))
theorem b9U{x0 x1:Value}(h:F7 x0 x1 w R E):Cv pG 7 #[x0,x1] w R E:=okF (h:=h7) Tryd.func7 (by kernel_rfl) (by kernel_rfl) h
def F8(x0 x1 w)(R:RT)(E):=
 opK pG E (xV (Instr.box 25 x0)) w fun c f=>
 oP E (xV (Instr.box 25 x1)) f fun d g=>
 oP E (lA 25 c) g fun i j=>
 oP E (xCall (fC 25) [i]) j fun e k=>
 oP E (gYs e (lA 25 d)) k fun l m=>
 oP E (gYs e (xCall (fC 25) [l])) m fun n o=>
 oP E (xPick e n (vB false)) o fun a p=>
 oP E (gYs a (fA 25 c 0)) p fun q r=>
 oP E (gYs a (lA 22 q)) r fun s t=>
 oP E (gYs a (fA 25 d 0)) t fun u v=>
 oP E (gYs a (lA 22 u)) v fun y z=>
 oP E (gYs a (xCall (fC 26) [s,y])) z fun aa ab=>
 oP E (xPick a aa (vB false)) ab fun b ac=>
 oP E (gYs b (fA 25 c 1)) ac fun ad ae=>
 oP E (gYs b (lA 23 ad)) ae fun af ag=>
 oP E (gYs b (fA 25 d 1)) ag fun ah ai=>
 oP E (gYs b (lA 23 ah)) ai fun aj ak=>
 oP E (gYs b (xCall (fC 27) [af,aj,(fC 28)])) ak fun al am=>
 oP E (xPick b al (vB false)) am fun an ao=>
 R an ao
def h8:Hint:=(sQ (sQ hN))
theorem b9V{x0 x1:Value}(h:F8 x0 x1 w R E):Cv pG 8 #[x0,x1] w R E:=okF (h:=h8) Tryd.func8 (by kernel_rfl) (by kernel_rfl) h
def F9(x0 w)(R:RT)(E):=
 opK pG E (xV (Instr.box 25 x0)) w fun f j=>
 oP E (xV (Instr.alloc 25 true (.tuple #[]))) j fun g k=>
 dX k fun a=>
 qP pG (fA 25 f 0) fun i=>
 qP pG (fA 25 f 1) fun b=>
 qL pG a (blk i) (lA 22 i) fun l=>
 qL pG a (blk b) (lA 23 b) fun m=>
 oP E (xBuiltin .append #[22,22] 22 [true,false] [(nS),l]) a fun n c=>
 keepX [(blk b)] a c (opK pG E (xCall (fC 29) [m]) c fun o d=>
 keepX [] c d (qP pG (xV (Instr.build 25 #[(0,n),(1,o)])) fun p=>
 oP E (sA 25 g p) d fun _ e=>
 keepX [] d e (xcell pG 25 g e fun q=>
 R q e)))
def h9:Hint:=(sQ (hS (.reg [(0,8,2),(1,16,8),(2,32,16),(0,64,2),(8,128,64),(20,256,128),(36,512,288),(127,0,516)] [18,16,16,18,2,0,18,0] (.early 0 (.early 3 (.load 1 (.load 4 (.step 2 (.step 5 (.early 6 (.step 7 .done))))))))) hN))
theorem b9W{x0:Value}(h:F9 x0 w R E):Cv pG 9 #[x0] w R E:=okF (h:=h9) Tryd.func9 (by kernel_rfl) (by kernel_rfl) h
def b4p(_x1 x3:Value)(w)(next2:NT)(_R:RT)(E):=
 ∀_τ:Fr,(oP E (bC .add 3 22 x3 (vI 1)) w fun a b=>
 next2 [a] b)
def b4q(x1 x3 w)(j3:NT)(_R:RT)(E):=
 ∀_τ:Fr,(oP E (fA 25 x1 1) w fun a b=>
 oP E (lA 23 a) b fun c d=>
 oP E (iA 23 c x3) d fun e f=>
 oP E (fA 49 e 4) f fun g i=>
 oP E (lA 23 g) i fun j k=>
 oP E (xV (Instr.build 25 #[(1,j)])) k fun l m=>
 oP E (xCall (fC 10) [l]) m fun _t51_27 n=>
 oP E (fA 25 x1 1) n fun o p=>
 oP E (lA 23 o) p fun q r=>
 oP E (iA 23 q x3) r fun s t=>
 oP E (fA 49 s 5) t fun u v=>
 oP E (lA 23 u) v fun y z=>
 oP E (xV (Instr.build 25 #[(1,y)])) z fun aa ab=>
 oP E (xCall (fC 10) [aa]) ab fun _t59_41 ac=>
 oP E (fA 25 x1 1) ac fun ad ae=>
 oP E (lA 23 ad) ae fun af ag=>
 oP E (xV (Instr.build 49 #[])) ag fun ah ai=>
 oP E (iA 23 af x3) ai fun aj ak=>
 oP E (sA 49 aj ah) ak fun _ al=>
 j3 [] al)
def b4r(x1 x3 x4 w)(next5:NT)(j4:NT)(_R:RT)(E):=
 opK pG E (fA 25 x1 1) w fun b c=>
 oP E (lA 23 b) c fun d e=>
 oP E (iA 23 d x3) e fun f g=>
 oP E (fA 49 f 2) g fun i j=>
 oP E (lA 39 i) j fun k l=>
 oP E (xBuiltin .len #[39] 3 [false] [k]) l fun m n=>
 oP E (bN .lss 3 24 31 x4 m) n fun o a=>
 xcond o
 (oP E (fA 25 x1 1) a fun p q=>
 oP E (lA 23 p) q fun r s=>
 oP E (iA 23 r x3) s fun t u=>
 oP E (fA 49 t 2) u fun v y=>
 oP E (lA 39 v) y fun z aa=>
 oP E (xV (Instr.build 41 #[])) aa fun ab ac=>
 oP E (iA 39 z x4) ac fun ad ae=>
 oP E (sA 41 ad ab) ae fun _ af=>
 oP E (bC .add 3 33 x4 (vI 1)) af fun ag ah=>
 next5 [ag] ah)
 (j4 [] a)
def b4s(x1 x3 w)(next2:NT)(R:RT)(E):=
 opK pG E (fA 25 x1 1) w fun b c=>
 oP E (lA 23 b) c fun d e=>
 oP E (xBuiltin .len #[23] 3 [false] [d]) e fun f g=>
 oP E (bN .lss 3 17 20 x3 f) g fun i a=>
 xcond i
 (xcut (fun _ j=>b4p x1 x3 j next2 R E) fun j3=>
 xcut (fun _ k=>b4q x1 x3 k j3 R E) fun j4=>
 xloop [4] [(vI 0)] a fun l m next5=>
 b4r x1 x3 (l 4) m next5 j4 R E)
 (R (Value.tuple #[]) a)
def b4t(x1 w)(R:RT)(E):=
 ∀_τ:Fr,(xloop [3] [(vI 0)] w fun a b next2=>
 b4s x1 (a 3) b next2 R E)
def b4u(x1 x2 w)(next6:NT)(j1:NT)(_R:RT)(E):=
 opK pG E (fA 25 x1 0) w fun b c=>
 oP E (lA 22 b) c fun d e=>
 oP E (xBuiltin .len #[22] 3 [false] [d]) e fun f g=>
 oP E (bN .lss 3 5 8 x2 f) g fun i a=>
 xcond i
 (oP E (fA 25 x1 0) a fun j k=>
 oP E (lA 22 j) k fun l m=>
 oP E (xV (Instr.build 45 #[(0,(Value.string ⟨#[119,104,105,108,101]⟩)),(1,(vI (-1)))])) m fun n o=>
 oP E (iA 22 l x2) o fun p q=>
 oP E (sA 45 p n) q fun _ r=>
 oP E (bC .add 3 10 x2 (vI 1)) r fun s t=>
 next6 [s] t)
 (j1 [] a)
def F10(x0 w)(R:RT)(E):=
 opK pG E (xV (Instr.box 25 x0)) w fun a b=>
 xcut (fun _ c=>b4t a c R E) fun j1=>
 xloop [2] [(vI 0)] b fun d e next6=>
 b4u a (d 2) e next6 j1 R E
def h10:Hint:=(sQ (hU [] (sQ (hB (hL [2] (hS (sQ (hC hN hN)) (hS (hB hN) hN))))) (sQ (hB (hL [3] (hS (sQ (hC hN hN)) (hU [] (hB (hU [] (sQ (hB (hL [4] (hS (sQ (hC hN hN)) (hS (hB hN) hN))))) (sQ (sQ hN)))) hN)))))))
theorem b8e{x0:Value}(h:F10 x0 w R E):Cv pG 10 #[x0] w R E:=okF (h:=h10) Tryd.func10 (by kernel_rfl) (by kernel_rfl) h
def F11(x0 w)(R:RT)(E):=
 opK pG E (xV (Instr.box 25 x0)) w fun e f=>
 oP E (lA 25 e) f fun g i=>
 oP E (xCall (fC 30) [g]) i fun a j=>
 oP E (xNil a) j fun k l=>
 oP E (fA 68 k 2) l fun m n=>
 oP E (lA 27 m) n fun o p=>
 oP E (bC .neq 27 10 o (vI 0)) p fun q b=>
 xcond q
 (dX b fun c=>
 qP pG (xNil a) fun r=>
 qP pG (fA 68 r 2) fun d=>
 qL pG c (blk d) (lA 27 d) fun s=>
 R (Value.tuple #[(vI 0),s]) c)
 (oP E (xNil a) b fun t u=>
 oP E (fA 68 t 1) u fun v y=>
 oP E (lA 3 v) y fun z aa=>
 R (Value.tuple #[z,(vI 0)]) aa)
def h11:Hint:=(sQ (sQ (hS (sQ (hC (hS (.reg [(0,4096,16),(1,8192,4096),(2,16384,8192),(4,32768,16384),(0,4,0),(31,8,32768)] [8,8,8,0,8,8] (.early 0 (.early 1 (.early 2 (.early 4 (.load 3 (.early 5 .done))))))) hN) hN)) (sQ hN))))
theorem b8f{x0:Value}(h:F11 x0 w R E):Cv pG 11 #[x0] w R E:=okF (h:=h11) Tryd.func11 (by kernel_rfl) (by kernel_rfl) h
def F12(w)(R:RT)(E):=
 opK pG E (xV (Instr.alloc 25 true (.tuple #[]))) w fun a d=>
 oP E (xV (Instr.build 41 #[(0,(vI 2)),(2,(Value.string ⟨#[120]⟩))])) d fun e f=>
 oP E (xV (Instr.build 41 #[(0,(vI 1)),(1,(vI 1))])) f fun g i=>
 oP E (xV (Instr.buildSlice 39 2 #[(0,e),(1,g)])) i fun j k=>
 oP E (xV (Instr.build 41 #[(0,(vI 6)),(3,j)])) k fun l m=>
 oP E (xV (Instr.alloc 41 true (.tuple #[]))) m fun b n=>
 oP E (sA 41 b l) n fun _ o=>
 oP E (xV (Instr.build 45 #[(0,(Value.string ⟨#[120]⟩))])) o fun p q=>
 oP E (xV (Instr.buildSlice 22 1 #[(0,p)])) q fun r s=>
 oP E (lA 41 b) s fun t u=>
 oP E (xV (Instr.buildSlice 39 1 #[(0,t)])) u fun v y=>
 oP E (xV (Instr.build 49 #[(0,(vI 1)),(1,(Value.string ⟨#[120]⟩)),(2,v)])) y fun z aa=>
 oP E (xV (Instr.buildSlice 23 1 #[(0,z)])) aa fun ab ac=>
 oP E (xV (Instr.build 25 #[(0,r),(1,ab)])) ac fun ad ae=>
 oP E (sA 25 a ad) ae fun _ c=>
 xcell pG 25 a c fun af=>
 R af c
def h12:Hint:=(sQ (sQ (sQ hN)))
theorem b8g(h:F12  w R E):Cv pG 12 #[] w R E:=okF (h:=h12) Tryd.func12 (by kernel_rfl) (by kernel_rfl) h
def F13(x0 w)(R:RT)(E):=
 opK pG E (xV (Instr.box 25 x0)) w fun e f=>
 oP E (lA 25 e) f fun g i=>
 oP E (xCall (fC 30) [g]) i fun a j=>
 oP E (xNil a) j fun k l=>
 oP E (fA 68 k 2) l fun m n=>
 oP E (lA 27 m) n fun o p=>
 oP E (bC .neq 27 10 o (vI 0)) p fun q b=>
 xcond q
 (dX b fun c=>
 qP pG (xNil a) fun r=>
 qP pG (fA 68 r 2) fun d=>
 qL pG c (blk d) (lA 27 d) fun s=>
 R (Value.tuple #[(vI 0),s]) c)
 (oP E (xNil a) b fun t u=>
 oP E (fA 68 t 0) u fun v y=>
 oP E (lA 3 v) y fun z aa=>
 R (Value.tuple #[z,(vI 0)]) aa)
def h13:Hint:=(sQ (sQ (hS (sQ (hC (hS (.reg [(0,4096,16),(1,8192,4096),(2,16384,8192),(4,32768,16384),(0,4,0),(31,8,32768)] [8,8,8,0,8,8] (.early 0 (.early 1 (.early 2 (.early 4 (.load 3 (.early 5 .done))))))) hN) hN)) (sQ hN))))
theorem b8h{x0:Value}(h:F13 x0 w R E):Cv pG 13 #[x0] w R E:=okF (h:=h13) Tryd.func13 (by kernel_rfl) (by kernel_rfl) h
def F14(x0 w)(R:RT)(E):=
 opK pG E (xV (Instr.box 41 x0)) w fun a b=>
 oP E (lA 41 a) b fun c d=>
 oP E (xV (Instr.build 71 #[(0,c)])) d fun e f=>
 oP E (xV (Instr.makeInterface 71 e)) f fun g i=>
 oP E (xV (Instr.buildSlice 72 1 #[(0,g)])) i fun j k=>
 oP E (xCall (fC 31) [j]) k fun l m=>
 oP E (xNil l) m fun n o=>
 oP E (fA 68 n 2) o fun p q=>
 oP E (lA 27 p) q fun r s=>
 R r s
def h14:Hint:=(sQ (sQ hN))
theorem b8i{x0:Value}(h:F14 x0 w R E):Cv pG 14 #[x0] w R E:=okF (h:=h14) Tryd.func14 (by kernel_rfl) (by kernel_rfl) h
def F15(x0 w)(R:RT)(E):=
 opK pG E (xV (Instr.box 25 x0)) w fun a b=>
 oP E (lA 25 a) b fun c d=>
 oP E (xCall (fC 30) [c]) d fun e f=>
 oP E (xNil e) f fun g i=>
 oP E (fA 68 g 2) i fun j k=>
 oP E (lA 27 j) k fun l m=>
 R l m
def h15:Hint:=(sQ (sQ hN))
theorem b8j{x0:Value}(h:F15 x0 w R E):Cv pG 15 #[x0] w R E:=okF (h:=h15) Tryd.func15 (by kernel_rfl) (by kernel_rfl) h
def F16(x0 w)(R:RT)(E):=
 opK pG E (bC .eql 22 3 x0 (nS)) w fun b a=>
 xcond b
 (R (nS) a)
 (oP E (xV (Instr.buildSlice 22 0 #[])) a fun c d=>
 oP E (xBuiltin .append #[22,22] 22 [false,false] [c,x0]) d fun e f=>
 R e f)
def h16:Hint:=(sQ (hS (sQ (hC (sQ hN) hN)) (sQ hN)))
theorem b8k{x0:Value}(h:F16 x0 w R E):Cv pG 16 #[x0] w R E:=okF (h:=h16) Tryd.func16 (by kernel_rfl) (by kernel_rfl) h
def b0P(x5 w)(R:RT)(_E:Pan):=
 ∀_τ:Fr,(R x5 w)
def b4v(x1 x5 x8 x9 x10 w)(next2:NT)(j1:NT)(_R:RT)(E):=
 opK pG E (bN .lss 3 10 9 x10 x9) w fun c a=>
 xcond c
 (oP E (iA 23 x8 x10) a fun d e=>
 oP E (lA 49 d) e fun f g=>
 oP E (xV (Instr.alloc 49 true (.tuple #[]))) g fun b i=>
 oP E (sA 49 b f) i fun _ j=>
 oP E (lA 49 b) j fun k l=>
 oP E (xCall x1 [k]) l fun m n=>
 oP E (xV (Instr.buildSlice 23 1 #[(0,m)])) n fun o p=>
 oP E (xBuiltin .append #[23,23] 23 [false,false] [x5,o]) p fun q r=>
 oP E (bC .add 3 10 x10 (vI 1)) r fun s t=>
 next2 [q,s] t)
 (j1 [x5] a)
def F17(x0 x1 w)(R:RT)(E):=
 xcut (fun b c=>b0P (nth b 0) c R E) fun j1=>
 oP E (xBuiltin .len #[23] 3 [false] [x0]) w fun d e=>
 xloop [5,10] [(nS),(vI 0)] e fun a f next2=>
 b4v x1 (a 5) x0 d (a 10) f next2 j1 R E
def h17:Hint:=(sQ (sQ (hU [5] (sQ (hB (hL [5,10] (sQ (hS (hC hN hN) (hS (hB (sQ hN)) hN)))))) (sQ hN))))
theorem b8l{x0 x1:Value}(h:F17 x0 x1 w R E):Cv pG 17 #[x0,x1] w R E:=okF (h:=h17) Tryd.func17 (by kernel_rfl) (by kernel_rfl) h
def F18(x0 w)(R:RT)(E):=
 opK pG E (xV (Instr.box 49 x0)) w fun a s=>
 oP E (xV (Instr.alloc 49 true (.tuple #[]))) s fun m t=>
 dX t fun b=>
 qP pG (fA 49 a 2) fun n=>
 qP pG (fA 49 a 3) fun d=>
 qL pG b (blk n) (lA 39 n) fun u=>
 qL pG b (blk d) (lA 47 d) fun v=>
 oP E (xCall (fC 32) [u,(fC 33)]) b fun y e=>
 keepX [(blk d)] b e (qP pG (fA 49 a 2) fun z=>
 oP E (xCall (fC 34) [v,(fC 35)]) e fun aa f=>
 keepX [] e f (opK pG E (sA 39 z y) f fun _ g=>
 keepX [] f g (qP pG (fA 49 a 3) fun ab=>
 oP E (sA 47 ab aa) g fun _ o=>
 keepX [] g o (dX o fun c=>
 qP pG (fA 49 a 4) fun p=>
 qP pG (fA 49 a 5) fun i=>
 qL pG c (blk p) (lA 23 p) fun ac=>
 qL pG c (blk i) (lA 23 i) fun ad=>
 oP E (xCall (fC 17) [ac,(fC 18)]) c fun ae j=>
 keepX [(blk i)] c j (qP pG (fA 49 a 4) fun af=>
 oP E (xCall (fC 17) [ad,(fC 18)]) j fun ag k=>
 keepX [] j k (opK pG E (sA 23 af ae) k fun _ l=>
 keepX [] k l (qP pG (fA 49 a 5) fun ah=>
 oP E (sA 23 ah ag) l fun _ q=>
 keepX [] l q (opK pG E (lA 49 a) q fun ai aj=>
 oP E (sA 49 m ai) aj fun _ r=>
 xcell pG 49 m r fun ak=>
 R ak r))))))))
def h18:Hint:=(sQ (hS (.reg [(0,8,2),(1,16,8),(2,32,16),(0,64,2),(8,128,64),(20,256,128),(31,512,2),(127,0,544),(255,1024,2),(511,0,1280)] [18,16,16,18,2,0,18,0,18,0] (.early 0 (.early 3 (.load 1 (.load 4 (.step 2 (.early 6 (.step 5 (.step 7 (.early 8 (.step 9 .done))))))))))) (hS (.reg [(0,2048,2),(1,4096,2048),(2,8192,4096),(0,16384,2),(8,32768,16384),(20,65536,32768),(31,131072,2),(127,0,139264),(255,262144,2),(511,0,327680)] [18,16,16,18,2,0,18,0,18,0] (.early 0 (.early 3 (.load 1 (.load 4 (.step 2 (.early 6 (.step 5 (.step 7 (.early 8 (.step 9 .done))))))))))) (sQ hN))))
theorem b8m{x0:Value}(h:F18 x0 w R E):Cv pG 18 #[x0] w R E:=okF (h:=h18) Tryd.func18 (by kernel_rfl) (by kernel_rfl) h
def b0Q(x2 x3 w)(R:RT)(E):=
 ∀_τ:Fr,(oP E (lA 52 x3) w fun b c=>
 oP E (sA 52 x2 b) c fun _ a=>
 xcell pG 52 x2 a fun d=>
 R d a)
def b4w(x1 _x2 x3 x5:Value)(w)(next3:NT)(j2:NT)(_R:RT)(E):=
 opK pG E (fA 25 x1 1) w fun c d=>
 oP E (lA 23 c) d fun e f=>
 oP E (xBuiltin .len #[23] 3 [false] [e]) f fun g i=>
 oP E (bN .lss 3 20 23 x5 g) i fun a j=>
 oP E (gYs a (fA 52 x3 2)) j fun k l=>
 oP E (gYs a (lA 3 k)) l fun m n=>
 oP E (gYs a (bC .eql 3 27 m (vI 0))) n fun o p=>
 oP E (xPick a o (vB false)) p fun q b=>
 xcond q
 (oP E (fA 25 x1 1) b fun r s=>
 oP E (lA 23 r) s fun t u=>
 oP E (iA 23 t x5) u fun v y=>
 oP E (lA 49 v) y fun z aa=>
 oP E (xCall (fC 37) [x3,z,(vI 1)]) aa fun _t37_42 ab=>
 oP E (bC .add 3 30 x5 (vI 1)) ab fun ac ad=>
 next3 [ac] ad)
 (j2 [] b)
def b0R(x1 x2 x3 w)(R:RT)(E):=
 ∀_τ:Fr,(xcut (fun _ a=>b0Q x2 x3 a R E) fun j2=>
 xloop [5] [(vI 0)] w fun b c next3=>
 b4w x1 x2 x3 (b 5) c next3 j2 R E)
def b4x(x1 _x2 x3 x4:Value)(w)(next4:NT)(j1:NT)(_R:RT)(E):=
 opK pG E (fA 25 x1 0) w fun c d=>
 oP E (lA 22 c) d fun e f=>
 oP E (xBuiltin .len #[22] 3 [false] [e]) f fun g i=>
 oP E (bN .lss 3 7 10 x4 g) i fun a j=>
 oP E (gYs a (fA 52 x3 2)) j fun k l=>
 oP E (gYs a (lA 3 k)) l fun m n=>
 oP E (gYs a (bC .eql 3 14 m (vI 0))) n fun o p=>
 oP E (xPick a o (vB false)) p fun q b=>
 xcond q
 (oP E (xCall (fC 36) [x3,(vI 1)]) b fun _t19_66 r=>
 oP E (bC .add 3 17 x4 (vI 1)) r fun s t=>
 next4 [s] t)
 (j1 [] b)
def F19(x0 w)(R:RT)(E):=
 opK pG E (xV (Instr.box 25 x0)) w fun b d=>
 oP E (xV (Instr.alloc 52 true (.tuple #[]))) d fun c e=>
 oP E (xV (Instr.build 52 #[])) e fun f g=>
 oP E (xV (Instr.alloc 52 true (.tuple #[]))) g fun a i=>
 oP E (sA 52 a f) i fun _ j=>
 xcut (fun _ k=>b0R b c a k R E) fun j1=>
 xloop [4] [(vI 0)] j fun l m next4=>
 b4x b c a (l 4) m next4 j1 R E
def h19:Hint:=(sQ (sQ (hU [] (sQ (hB (hL [4] (hS (sQ (hC hN hN)) (hS (hB hN) hN))))) (hU [] (sQ (hB (hL [5] (hS (sQ (hC hN hN)) (hS (hB hN) hN))))) (sQ hN)))))
theorem b8n{x0:Value}(h:F19 x0 w R E):Cv pG 19 #[x0] w R E:=okF (h:=h19) Tryd.func19 (by kernel_rfl) (by kernel_rfl) h
def F20(x0 x1 x2 w)(R:RT)(E):=
 opK pG E (xV (Op.unary .not x2)) w fun d c=>
 xcond d
 (oP E (xNil x0) c fun e f=>
 oP E (fA 55 e 0) f fun g i=>
 oP E (lA 4 g) i fun a j=>
 oP E (gYs a (bC .eql 9 14 (zT a x1) (eS))) j fun k l=>
 oP E (xPick a k (vB false)) l fun m n=>
 oP E (xNil x0) n fun o p=>
 oP E (fA 55 o 0) p fun q r=>
 oP E (sA 4 q m) r fun _ s=>
 R (Value.tuple #[]) s)
 (oP E (xNil x0) c fun t u=>
 oP E (fA 55 t 1) u fun v y=>
 oP E (lA 4 v) y fun b z=>
 oP E (gYs b (xCall (fC 38) [(zT b x1)])) z fun aa ab=>
 oP E (xPick b aa (vB false)) ab fun ac ad=>
 oP E (xNil x0) ad fun ae af=>
 oP E (fA 55 ae 1) af fun ag ah=>
 oP E (sA 4 ag ac) ah fun _ ai=>
 R (Value.tuple #[]) ai)
def h20:Hint:=(hS (sQ (hC (sQ hN) hN)) hN)
theorem b8o{x0 x1 x2:Value}(h:F20 x0 x1 x2 w R E):Cv pG 20 #[x0,x1,x2] w R E:=okF (h:=h20) Tryd.func20 (by kernel_rfl) (by kernel_rfl) h
def b4y(x0 x3 x9 w)(next5:NT)(R:RT)(E):=
 opK pG E (fA 49 x3 5) w fun c d=>
 oP E (lA 23 c) d fun e f=>
 oP E (xBuiltin .len #[23] 3 [false] [e]) f fun g i=>
 oP E (bN .lss 3 146 149 x9 g) i fun a j=>
 oP E (gYs a (xNil (zT a x0))) j fun k l=>
 oP E (gYs a (fA 55 k 0)) l fun m n=>
 oP E (gYs a (lA 4 m)) n fun o p=>
 oP E (xPick a o (vB false)) p fun q b=>
 xcond q
 (oP E (fA 49 x3 5) b fun r s=>
 oP E (lA 23 r) s fun t u=>
 oP E (iA 23 t x9) u fun v y=>
 oP E (lA 49 v) y fun z aa=>
 oP E (xCall (fC 21) [x0,z]) aa fun _t165_123 ab=>
 oP E (bC .add 3 157 x9 (vI 1)) ab fun ac ad=>
 next5 [ac] ad)
 (R (Value.tuple #[]) b)
def b0S(x0 x3 w)(R:RT)(E):=
 ∀_τ:Fr,(xloop [9] [(vI 0)] w fun a b next5=>
 b4y x0 x3 (a 9) b next5 R E)
def b4z(x0 x3 x8 w)(next6:NT)(j4:NT)(_R:RT)(E):=
 opK pG E (fA 49 x3 4) w fun c d=>
 oP E (lA 23 c) d fun e f=>
 oP E (xBuiltin .len #[23] 3 [false] [e]) f fun g i=>
 oP E (bN .lss 3 126 129 x8 g) i fun a j=>
 oP E (gYs a (xNil (zT a x0))) j fun k l=>
 oP E (gYs a (fA 55 k 0)) l fun m n=>
 oP E (gYs a (lA 4 m)) n fun o p=>
 oP E (xPick a o (vB false)) p fun q b=>
 xcond q
 (oP E (fA 49 x3 4) b fun r s=>
 oP E (lA 23 r) s fun t u=>
 oP E (iA 23 t x8) u fun v y=>
 oP E (lA 49 v) y fun z aa=>
 oP E (xCall (fC 21) [x0,z]) aa fun _t145_155 ab=>
 oP E (bC .add 3 137 x8 (vI 1)) ab fun ac ad=>
 next6 [ac] ad)
 (j4 [] b)
def b0T(x0 x3 w)(R:RT)(E):=
 ∀_τ:Fr,(xcut (fun _ a=>b0S x0 x3 a R E) fun j4=>
 xloop [8] [(vI 0)] w fun b c next6=>
 b4z x0 x3 (b 8) c next6 j4 R E)
def b4A(x0 x3 x7 w)(next7:NT)(j3:NT)(_R:RT)(E):=
 opK pG E (fA 49 x3 2) w fun c d=>
 oP E (lA 39 c) d fun e f=>
 oP E (xBuiltin .len #[39] 3 [false] [e]) f fun g i=>
 oP E (bN .lss 3 106 109 x7 g) i fun a j=>
 oP E (gYs a (xNil (zT a x0))) j fun k l=>
 oP E (gYs a (fA 55 k 0)) l fun m n=>
 oP E (gYs a (lA 4 m)) n fun o p=>
 oP E (xPick a o (vB false)) p fun q b=>
 xcond q
 (oP E (fA 49 x3 2) b fun r s=>
 oP E (lA 39 r) s fun t u=>
 oP E (iA 39 t x7) u fun v y=>
 oP E (lA 41 v) y fun z aa=>
 oP E (xCall (fC 40) [x0,z]) aa fun _t125_187 ab=>
 oP E (bC .add 3 117 x7 (vI 1)) ab fun ac ad=>
 next7 [ac] ad)
 (j3 [] b)
def b0U(x0 x3 w)(R:RT)(E):=
 ∀_τ:Fr,(xcut (fun _ a=>b0T x0 x3 a R E) fun j3=>
 xloop [7] [(vI 0)] w fun b c next7=>
 b4A x0 x3 (b 7) c next7 j3 R E)
def b4B(x0 x3 x6 w)(next8:NT)(j2:NT)(_R:RT)(E):=
 opK pG E (fA 49 x3 3) w fun c d=>
 oP E (lA 47 c) d fun e f=>
 oP E (xBuiltin .len #[47] 3 [false] [e]) f fun g i=>
 oP E (bN .lss 3 86 89 x6 g) i fun a j=>
 oP E (gYs a (xNil (zT a x0))) j fun k l=>
 oP E (gYs a (fA 55 k 0)) l fun m n=>
 oP E (gYs a (lA 4 m)) n fun o p=>
 oP E (xPick a o (vB false)) p fun q b=>
 xcond q
 (oP E (fA 49 x3 3) b fun r s=>
 oP E (lA 47 r) s fun t u=>
 oP E (iA 47 t x6) u fun v y=>
 oP E (lA 77 v) y fun z aa=>
 oP E (xCall (fC 39) [x0,z]) aa fun _t105_219 ab=>
 oP E (bC .add 3 97 x6 (vI 1)) ab fun ac ad=>
 next8 [ac] ad)
 (j2 [] b)
def b0V(x0 x3 x4 x5 w)(R:RT)(E):=
 ∀_τ:Fr,(oP E (fA 49 x3 1) w fun j k=>
 oP E (lA 9 j) k fun l m=>
 oP E (fA 49 x3 0) m fun n o=>
 oP E (lA 3 n) o fun p q=>
 oP E (bC .eql 3 30 p (vI 1)) q fun e r=>
 oP E (gNo e (fA 49 x3 0)) r fun s t=>
 oP E (gNo e (lA 3 s)) t fun u v=>
 oP E (gNo e (bC .eql 3 34 u (vI 2))) v fun y z=>
 oP E (xPick e (vB true) y) z fun aa ab=>
 oP E (xCall (fC 20) [x0,l,aa]) ab fun _t37_21 ac=>
 oP E (xNil x0) ac fun ad ae=>
 oP E (fA 55 ad 0) ae fun af ag=>
 oP E (lA 4 af) ag fun c ah=>
 oP E (gYs c (fA 49 x3 2)) ah fun ai aj=>
 oP E (gYs c (lA 39 ai)) aj fun ak al=>
 oP E (gYs c (xBuiltin .len #[39] 3 [false] [ak])) al fun am an=>
 oP E (gYs c (bN .eql 3 46 47 am (zT c x4))) an fun ao ap=>
 oP E (xPick c ao (vB false)) ap fun d aq=>
 oP E (gYs d (fA 49 x3 3)) aq fun ar au=>
 oP E (gYs d (lA 47 ar)) au fun av aw=>
 oP E (gYs d (xBuiltin .len #[47] 3 [false] [av])) aw fun ax ay=>
 oP E (gYs d (bN .eql 3 53 54 ax (zT d x5))) ay fun az ba=>
 oP E (xPick d az (vB false)) ba fun a bb=>
 oP E (gYs a (fA 49 x3 4)) bb fun bc bd=>
 oP E (gYs a (lA 23 bc)) bd fun be bf=>
 oP E (gYs a (xBuiltin .len #[23] 3 [false] [be])) bf fun bg bh=>
 oP E (gYs a (bC .eql 3 60 bg (vI 0))) bh fun f bi=>
 oP E (gsem (asB (zT a f)) false (fA 49 x3 0)) bi fun bj bk=>
 oP E (gsem (asB (zT a f)) false (lA 3 bj)) bk fun bl bm=>
 oP E (gsem (asB (zT a f)) false (bC .eql 3 64 bl (vI 3))) bm fun bn bo=>
 oP E (gYs a (xPick (zT a f) (vB true) bn)) bo fun g bp=>
 oP E (gsem (asB (zT a g)) false (fA 49 x3 0)) bp fun bq br=>
 oP E (gsem (asB (zT a g)) false (lA 3 bq)) br fun bs bt=>
 oP E (gsem (asB (zT a g)) false (bC .eql 3 69 bs (vI 4))) bt fun bu bv=>
 oP E (gYs a (xPick (zT a g) (vB true) bu)) bv fun bw bz=>
 oP E (xPick a bw (vB false)) bz fun b ca=>
 oP E (gYs b (fA 49 x3 5)) ca fun cb cc=>
 oP E (gYs b (lA 23 cb)) cc fun cd ce=>
 oP E (gYs b (xBuiltin .len #[23] 3 [false] [cd])) ce fun cf cg=>
 oP E (gYs b (bC .eql 3 76 cf (vI 0))) cg fun i ch=>
 oP E (gsem (asB (zT b i)) false (fA 49 x3 0)) ch fun ci cj=>
 oP E (gsem (asB (zT b i)) false (lA 3 ci)) cj fun ck cl=>
 oP E (gsem (asB (zT b i)) false (bC .eql 3 80 ck (vI 3))) cl fun cm cn=>
 oP E (gYs b (xPick (zT b i) (vB true) cm)) cn fun co cp=>
 oP E (xPick b co (vB false)) cp fun cq cr=>
 oP E (xNil x0) cr fun cs ct=>
 oP E (fA 55 cs 0) ct fun cu cv=>
 oP E (sA 4 cu cq) cv fun _ cw=>
 xcut (fun _ cx=>b0U x0 x3 cx R E) fun j2=>
 xloop [6] [(vI 0)] cw fun cy cz next8=>
 b4B x0 x3 (cy 6) cz next8 j2 R E)
def b0W(x0 _x3 x4 x5 x11 x19:Value)(w)(j1:NT)(_R:RT)(E):=
 ∀_τ:Fr,(xcond x19
 (j1 [x4,(vI 1)] w)
 (oP E (bC .eql 3 11 x11 (vI 7)) w fun b a=>
 xcond b
 (j1 [x4,x5] a)
 (oP E (xNil x0) a fun c d=>
 oP E (fA 55 c 0) d fun e f=>
 oP E (sA 4 e (vB false)) f fun _ g=>
 j1 [x4,x5] g)))
def F21(x0 x1 w)(R:RT)(E):=
 opK pG E (xV (Instr.box 49 x1)) w fun b m=>
 xcut (fun c n=>b0V x0 b (nth c 0) (nth c.tail 0) n R E) fun j1=>
 oP E (fA 49 b 0) m fun o p=>
 oP E (lA 3 o) p fun a q=>
 oP E (bC .eql 3 11 a (vI 1)) q fun r d=>
 xcond r
 (j1 [(vI 1),(vI 0)] d)
 (oP E (bC .eql 3 11 a (vI 2)) d fun s e=>
 xcond s
 (j1 [(vI 2),(vI 0)] e)
 (xcut (fun t u=>b0W x0 b (vI 0) (vI 0) a (nth t 0) u j1 R E) fun j9=>
 oP E (bC .eql 3 11 a (vI 3)) e fun f g=>
 xcond f
 (j9 [f] g)
 (oP E (bC .eql 3 11 a (vI 4)) g fun i j=>
 xcond i
 (j9 [i] j)
 (oP E (bC .eql 3 11 a (vI 5)) j fun k l=>
 xcond k
 (j9 [k] l)
 (oP E (bC .eql 3 11 a (vI 6)) l fun v y=>
 j9 [v] y)))))
def h21:Hint:=(sQ (sQ (hU [4,5] (sQ (hB (sQ (hC hN (sQ (hC hN (hU [19] (sQ (hC hN (sQ (hC hN (sQ (hC hN hN)))))) (hC hN (sQ (hC hN hN)))))))))) (sQ (sQ (hU [] (sQ (hB (hL [6] (hS (sQ (hC hN hN)) (hS (hB hN) hN))))) (hU [] (sQ (hB (hL [7] (hS (sQ (hC hN hN)) (hS (hB hN) hN))))) (hU [] (sQ (hB (hL [8] (hS (sQ (hC hN hN)) (hS (hB hN) hN))))) (sQ (hB (hL [9] (hS (sQ (hC hN hN)) (hS (hB hN) hN)))))))))))))
theorem b8p{x0 x1:Value}(h:F21 x0 x1 w R E):Cv pG 21 #[x0,x1] w R E:=okF (h:=h21) Tryd.func21 (by kernel_rfl) (by kernel_rfl) h
def F22(x0 w)(R:RT)(E):=
 opK pG E (xV (Instr.box 55 x0)) w fun a d=>
 oP E (fA 55 a 0) d fun e f=>
 oP E (lA 4 e) f fun g i=>
 oP E (xV (Op.unary .not g)) i fun j b=>
 xcond j
 (R (vI 30) b)
 (oP E (fA 55 a 1) b fun k l=>
 oP E (lA 4 k) l fun m n=>
 oP E (xV (Op.unary .not m)) n fun o c=>
 xcond o
 (R (vI 31) c)
 (R (vI 0) c))
def h22:Hint:=(sQ (hS (sQ (hC (sQ hN) hN)) (hS (sQ (hC (sQ hN) hN)) (sQ hN))))
theorem b8q{x0:Value}(h:F22 x0 w R E):Cv pG 22 #[x0] w R E:=okF (h:=h22) Tryd.func22 (by kernel_rfl) (by kernel_rfl) h
def F23(x0 w)(R:RT)(E):=
 opK pG E (xV (Instr.box 25 x0)) w fun a b=>
 oP E (lA 25 a) b fun c d=>
 oP E (xCall (fC 19) [c]) d fun e f=>
 oP E (xV (Instr.field 52 e 2)) f fun g i=>
 oP E (bC .eql 3 5 g (vI 0)) i fun j k=>
 R j k
def h23:Hint:=(sQ (sQ hN))
theorem b8r{x0:Value}(h:F23 x0 w R E):Cv pG 23 #[x0] w R E:=okF (h:=h23) Tryd.func23 (by kernel_rfl) (by kernel_rfl) h
def b0X(w)(R:RT)(_E:Pan):=
 ∀_τ:Fr,(R (vB true) w)
def b0Y(_x0 _x1 x5:Value)(w)(next2:NT)(_R:RT)(E):=
 ∀_τ:Fr,(oP E (bC .add 3 19 x5 (vI 1)) w fun a b=>
 next2 [a] b)
def b4C(_x0 _x1 _x5 x6 x7 x9:Value)(w)(next6:NT)(j3:NT)(R:RT)(E):=
 opK pG E (fA 49 x6 2) w fun i j=>
 oP E (lA 39 i) j fun k l=>
 oP E (xBuiltin .len #[39] 3 [false] [k]) l fun m n=>
 oP E (bN .lss 3 94 97 x9 m) n fun o c=>
 xcond o
 (dX c fun a=>
 qP pG (fA 49 x6 2) fun d=>
 qP pG (fA 49 x7 2) fun e=>
 qL pG a (blk d) (lA 39 d) fun p=>
 qP pG (iA 39 p x9) fun f=>
 qL pG a (blk f) (lA 41 f) fun q=>
 qL pG a (blk e) (lA 39 e) fun r=>
 qP pG (iA 39 r x9) fun g=>
 qL pG a (blk g) (lA 41 g) fun s=>
 oP E (xCall (fC 42) [q,s]) a fun t b=>
 keepX [] a b (qP pG (xV (Op.unary .not t)) fun u=>
 xcond u
 (R (vB false) b)
 (oP E (bC .add 3 99 x9 (vI 1)) b fun v y=>
 next6 [v] y)))
 (j3 [] c)
def b0Z(x0 x1 x5 x6 x7 w)(j3:NT)(R:RT)(E):=
 ∀_τ:Fr,(xloop [9] [(vI 0)] w fun a b next6=>
 b4C x0 x1 x5 x6 x7 (a 9) b next6 j3 R E)
def b4D(_x0 _x1 _x5 x6 x7 x8:Value)(w)(next7:NT)(j5:NT)(R:RT)(E):=
 opK pG E (fA 49 x6 3) w fun i j=>
 oP E (lA 47 i) j fun k l=>
 oP E (xBuiltin .len #[47] 3 [false] [k]) l fun m n=>
 oP E (bN .lss 3 75 78 x8 m) n fun o c=>
 xcond o
 (dX c fun a=>
 qP pG (fA 49 x6 3) fun d=>
 qP pG (fA 49 x7 3) fun e=>
 qL pG a (blk d) (lA 47 d) fun p=>
 qP pG (iA 47 p x8) fun f=>
 qL pG a (blk f) (lA 77 f) fun q=>
 qL pG a (blk e) (lA 47 e) fun r=>
 qP pG (iA 47 r x8) fun g=>
 qL pG a (blk g) (lA 77 g) fun s=>
 oP E (xCall (fC 41) [q,s]) a fun t b=>
 keepX [] a b (qP pG (xV (Op.unary .not t)) fun u=>
 xcond u
 (R (vB false) b)
 (oP E (bC .add 3 80 x8 (vI 1)) b fun v y=>
 next7 [v] y)))
 (j5 [] c)
def b1a(x0 x1 x5 x6 x7 w)(j3:NT)(R:RT)(E):=
 ∀_τ:Fr,(oP E (fA 49 x6 0) w fun g i=>
 oP E (lA 3 g) i fun j k=>
 oP E (fA 49 x7 0) k fun l m=>
 oP E (lA 3 l) m fun n o=>
 oP E (bN .neq 3 30 32 j n) o fun e p=>
 oP E (gNo e (fA 49 x6 1)) p fun q r=>
 oP E (gNo e (lA 9 q)) r fun s t=>
 oP E (gNo e (fA 49 x7 1)) t fun u v=>
 oP E (gNo e (lA 9 u)) v fun y z=>
 oP E (gNo e (bN .neq 9 36 38 s y)) z fun aa ab=>
 oP E (xPick e (vB true) aa) ab fun a ac=>
 oP E (gNo a (fA 49 x6 3)) ac fun ad ae=>
 oP E (gNo a (lA 47 ad)) ae fun af ag=>
 oP E (gNo a (xBuiltin .len #[47] 3 [false] [af])) ag fun ah ai=>
 oP E (gNo a (fA 49 x7 3)) ai fun aj ak=>
 oP E (gNo a (lA 47 aj)) ak fun al am=>
 oP E (gNo a (xBuiltin .len #[47] 3 [false] [al])) am fun an ao=>
 oP E (gNo a (bN .neq 3 44 47 ah an)) ao fun ap aq=>
 oP E (xPick a (vB true) ap) aq fun b ar=>
 oP E (gNo b (fA 49 x6 2)) ar fun au av=>
 oP E (gNo b (lA 39 au)) av fun aw ax=>
 oP E (gNo b (xBuiltin .len #[39] 3 [false] [aw])) ax fun ay az=>
 oP E (gNo b (fA 49 x7 2)) az fun ba bb=>
 oP E (gNo b (lA 39 ba)) bb fun bc bd=>
 oP E (gNo b (xBuiltin .len #[39] 3 [false] [bc])) bd fun be bf=>
 oP E (gNo b (bN .neq 3 53 56 ay be)) bf fun bg bh=>
 oP E (xPick b (vB true) bg) bh fun c bi=>
 oP E (gNo c (fA 49 x6 4)) bi fun bj bk=>
 oP E (gNo c (lA 23 bj)) bk fun bl bm=>
 oP E (gNo c (fA 49 x7 4)) bm fun bn bo=>
 oP E (gNo c (lA 23 bn)) bo fun bp bq=>
 oP E (gNo c (xCall (fC 24) [bl,bp])) bq fun br bs=>
 oP E (gNo c (xV (Op.unary .not br))) bs fun bt bu=>
 oP E (xPick c (vB true) bt) bu fun d bv=>
 oP E (gNo d (fA 49 x6 5)) bv fun bw bz=>
 oP E (gNo d (lA 23 bw)) bz fun ca cb=>
 oP E (gNo d (fA 49 x7 5)) cb fun cc cd=>
 oP E (gNo d (lA 23 cc)) cd fun ce cf=>
 oP E (gNo d (xCall (fC 24) [ca,ce])) cf fun cg ch=>
 oP E (gNo d (xV (Op.unary .not cg))) ch fun ci cj=>
 oP E (xPick d (vB true) ci) cj fun ck f=>
 xcond ck
 (R (vB false) f)
 (xcut (fun _ cl=>b0Z x0 x1 x5 x6 x7 cl j3 R E) fun j5=>
 xloop [8] [(vI 0)] f fun cm cn next7=>
 b4D x0 x1 x5 x6 x7 (cm 8) cn next7 j5 R E))
def b4E(x0 x1 x5 w)(next2:NT)(j1:NT)(R:RT)(E):=
 opK pG E (xBuiltin .len #[23] 3 [false] [x0]) w fun u v=>
 oP E (bN .lss 3 15 17 x5 u) v fun y k=>
 xcond y
 (xcut (fun _ z=>b0Y x0 x1 x5 z next2 R E) fun j3=>
 xcut (fun l aa=>b1a x0 x1 x5 (nth l 0) (nth l.tail 0) aa j3 R E) fun j4=>
 dX k fun b=>
 qP pG (iA 23 x0 x5) fun c=>
 qP pG (iA 23 x1 x5) fun a=>
 qL pG b (blk c) (lA 49 c) fun m=>
 qL pG b (blk a) (lA 49 a) fun n=>
 (oP E (xV (Instr.alloc 49 true (.tuple #[]))) b fun o d=>
 keepX [(blk a),(blk c)] b d (opK pG E (xV (Instr.alloc 49 true (.tuple #[]))) d fun p e=>
 keepX [(blk a),(blk c)] d e (opK pG E (sA 49 o m) e fun _ f=>
 keepX [(blk a)] e f (opK pG E (sA 49 p n) f fun _ q=>
 keepX [] f q (j4 [o,p] q)))))∧
 (oP E (xV (Instr.alloc 49 true (.tuple #[]))) b fun r g=>
 keepX [(blk a),(blk c)] b g (opK pG E (xV (Instr.alloc 49 true (.tuple #[]))) g fun s i=>
 keepX [(blk a),(blk c)] g i (opK pG E (sA 49 s m) i fun _ j=>
 keepX [(blk a)] i j (opK pG E (sA 49 r n) j fun _ t=>
 keepX [] j t (j4 [s,r] t))))))
 (j1 [] k)
def F24(x0 x1 w)(R:RT)(E):=
 opK pG E (xBuiltin .len #[23] 3 [false] [x0]) w fun b c=>
 oP E (xBuiltin .len #[23] 3 [false] [x1]) c fun d e=>
 oP E (bN .neq 3 11 13 b d) e fun f a=>
 xcond f
 (R (vB false) a)
 (xcut (fun _ g=>b0X g R E) fun j1=>
 xloop [5] [(vI 0)] a fun i j next2=>
 b4E x0 x1 (i 5) j next2 j1 R E)
def h24:Hint:=(sQ (hS (sQ (hC (sQ hN) hN)) (hU [] (sQ (hB (hL [5] (hS (sQ (hC hN hN)) (hU [] (hB (hU [6,7] (.reg [(0,2097152,1),(0,4194304,32),(3,8388608,6291456),(4,16777216,8388608),(0,33554432,2),(0,67108864,32),(48,134217728,100663296),(64,268435456,134217728),(0,64,0),(0,128,0),(783,0,16777280),(2047,0,268435584)] [136,136,136,128,136,136,136,8,136,136,128,0] (.early 0 (.early 1 (.early 2 (.early 4 (.early 5 (.early 6 (.load 3 (.load 7 (.alt 8 (.step 9 (.step 10 (.step 11 .done))) (.step 9 (.step 8 (.step 10 (.step 11 .done)))))))))))))) (hS (sQ (hC (sQ hN) hN)) (hU [] (sQ (hB (hL [8] (hS (sQ (hC hN hN)) (hS (hB (hS (.reg [(0,4835703278458516698824704,64),(1,9671406556917033397649408,4835703278458516698824704),(0,19342813113834066795298816,256),(6,38685626227668133590597632,29014219670751100192948224),(8,77371252455336267181195264,38685626227668133590597632),(0,154742504910672534362390528,128),(32,309485009821345068724781056,154742504910672534362390528),(0,618970019642690137449562112,256),(192,1237940039285380274899124224,928455029464035206174343168),(256,2475880078570760549798248448,1237940039285380274899124224),(528,4951760157141521099596496896,2553251331026096816979443712),(1024,9903520314283042199192993792,4951760157141521099596496896)] [594,592,594,594,578,594,530,594,594,82,0,594] (.early 0 (.early 2 (.early 5 (.early 7 (.load 1 (.early 3 (.load 4 (.load 6 (.early 8 (.load 9 (.step 10 (.early 11 .done))))))))))))) (hC (sQ hN) hN))) hN))))) (sQ (hB (hL [9] (hS (sQ (hC hN hN)) (hS (hB (hS (.reg [(0,2535301200456458802993406410752,64),(1,5070602400912917605986812821504,2535301200456458802993406410752),(0,10141204801825835211973625643008,512),(6,20282409603651670423947251286016,15211807202738752817960438464512),(8,40564819207303340847894502572032,20282409603651670423947251286016),(0,81129638414606681695789005144064,128),(32,162259276829213363391578010288128,81129638414606681695789005144064),(0,324518553658426726783156020576256,512),(192,649037107316853453566312041152512,486777830487640090174734030864384),(256,1298074214633706907132624082305024,649037107316853453566312041152512),(528,2596148429267413814265248164610048,1338639033841010247980518584877056),(1024,5192296858534827628530496329220096,2596148429267413814265248164610048)] [594,592,594,594,578,594,530,594,594,82,0,594] (.early 0 (.early 2 (.early 5 (.early 7 (.load 1 (.early 3 (.load 4 (.load 6 (.early 8 (.load 9 (.step 10 (.early 11 .done))))))))))))) (hC (sQ hN) hN))) hN))))))))) hN))))) (sQ hN))))
theorem b8s{x0 x1:Value}(h:F24 x0 x1 w R E):Cv pG 24 #[x0,x1] w R E:=okF (h:=h24) Tryd.func24 (by kernel_rfl) (by kernel_rfl) h
def F25(x0 w)(R:RT)(E):=
 opK pG E (xV (Instr.box 25 x0)) w fun c d=>
 oP E (lA 25 c) d fun e f=>
 oP E (xCall (fC 15) [e]) f fun b g=>
 oP E (bC .neq 27 6 b (vI 32)) g fun a i=>
 oP E (gYs a (bC .neq 27 9 (zT a b) (vI 33))) i fun j k=>
 oP E (xPick a j (vB false)) k fun l m=>
 R l m
def h25:Hint:=(sQ (sQ (sQ hN)))
theorem b8t{x0:Value}(h:F25 x0 w R E):Cv pG 25 #[x0] w R E:=okF (h:=h25) Tryd.func25 (by kernel_rfl) (by kernel_rfl) h
def b1b(w)(R:RT)(_E:Pan):=
 ∀_τ:Fr,(R (vB true) w)
def b4F(x0 x1 x12 x13 w)(next2:NT)(j1:NT)(R:RT)(E):=
 opK pG E (bN .lss 3 13 12 x13 x12) w fun e b=>
 xcond e
 (dX b fun a=>
 qP pG (iA 22 x0 x13) fun c=>
 qP pG (iA 22 x1 x13) fun d=>
 qL pG a (blk c) (lA 45 c) fun f=>
 qL pG a (blk d) (lA 45 d) fun g=>
 qP pG (bN .neq 45 19 23 f g) fun i=>
 xcond i
 (R (vB false) a)
 (oP E (bC .add 3 13 x13 (vI 1)) a fun j k=>
 next2 [j] k))
 (j1 [] b)
def F26(x0 x1 w)(R:RT)(E):=
 opK pG E (xBuiltin .len #[22] 3 [false] [x0]) w fun b c=>
 oP E (xBuiltin .len #[22] 3 [false] [x1]) c fun d e=>
 oP E (bN .neq 3 7 9 b d) e fun f a=>
 xcond f
 (R (vB false) a)
 (xcut (fun _ g=>b1b g R E) fun j1=>
 oP E (xBuiltin .len #[22] 3 [false] [x0]) a fun i j=>
 xloop [13] [(vI 0)] j fun k l next2=>
 b4F x0 x1 i (k 13) l next2 j1 R E)
def h26:Hint:=(sQ (hS (sQ (hC (sQ hN) hN)) (hU [] (sQ (hB (hL [13] (sQ (hS (hC hN hN) (hS (hB (sQ (hS (.reg [(0,65536,1),(0,131072,32),(3,262144,196608),(4,524288,262144),(0,1048576,2),(0,2097152,32),(48,4194304,3145728),(64,8388608,4194304),(136,16777216,8912896)] [136,136,136,128,136,136,136,8,136] (.early 0 (.early 1 (.early 2 (.early 4 (.early 5 (.early 6 (.load 3 (.load 7 (.early 8 .done)))))))))) (hC (sQ hN) hN)))) hN)))))) (sQ hN))))
theorem b8u{x0 x1:Value}(h:F26 x0 x1 w R E):Cv pG 26 #[x0,x1] w R E:=okF (h:=h26) Tryd.func26 (by kernel_rfl) (by kernel_rfl) h
def b1c(w)(R:RT)(_E:Pan):=
 ∀_τ:Fr,(R (vB true) w)
def b4G(x1 x2 x15 x16 x17 w)(next2:NT)(j1:NT)(R:RT)(E):=
 opK pG E (bN .lss 3 17 16 x17 x16) w fun e a=>
 xcond e
 (oP E (iA 23 x15 x17) a fun f g=>
 oP E (lA 49 f) g fun i j=>
 oP E (xV (Instr.alloc 49 true (.tuple #[]))) j fun b k=>
 oP E (sA 49 b i) k fun _ l=>
 oP E (iA 23 x1 x17) l fun m n=>
 oP E (lA 49 m) n fun o p=>
 oP E (xV (Instr.alloc 49 true (.tuple #[]))) p fun c q=>
 oP E (sA 49 c o) q fun _ r=>
 oP E (lA 49 b) r fun s t=>
 oP E (lA 49 c) t fun u v=>
 oP E (xCall x2 [s,u]) v fun y z=>
 oP E (xV (Op.unary .not y)) z fun aa d=>
 xcond aa
 (R (vB false) d)
 (oP E (bC .add 3 17 x17 (vI 1)) d fun ab ac=>
 next2 [ab] ac))
 (j1 [] a)
def F27(x0 x1 x2 w)(R:RT)(E):=
 opK pG E (xBuiltin .len #[23] 3 [false] [x0]) w fun b c=>
 oP E (xBuiltin .len #[23] 3 [false] [x1]) c fun d e=>
 oP E (bN .neq 3 11 13 b d) e fun f a=>
 xcond f
 (R (vB false) a)
 (xcut (fun _ g=>b1c g R E) fun j1=>
 oP E (xBuiltin .len #[23] 3 [false] [x0]) a fun i j=>
 xloop [17] [(vI 0)] j fun k l next2=>
 b4G x1 x2 x0 i (k 17) l next2 j1 R E)
def h27:Hint:=(sQ (hS (sQ (hC (sQ hN) hN)) (hU [] (sQ (hB (hL [17] (sQ (hS (hC hN hN) (hS (hB (sQ (sQ (sQ (hC (sQ hN) hN))))) hN)))))) (sQ hN))))
theorem b8v{x0 x1 x2:Value}(h:F27 x0 x1 x2 w R E):Cv pG 27 #[x0,x1,x2] w R E:=okF (h:=h27) Tryd.func27 (by kernel_rfl) (by kernel_rfl) h
def F28(x0 x1 w)(R:RT)(E):=
 opK pG E (xV (Instr.box 49 x0)) w fun a i=>
 oP E (xV (Instr.box 49 x1)) i fun b j=>
 oP E (fA 49 a 0) j fun k l=>
 oP E (lA 3 k) l fun m n=>
 oP E (fA 49 b 0) n fun o p=>
 oP E (lA 3 o) p fun q r=>
 oP E (bN .eql 3 6 8 m q) r fun c s=>
 oP E (gYs c (fA 49 a 1)) s fun t u=>
 oP E (gYs c (lA 9 t)) u fun v y=>
 oP E (gYs c (fA 49 b 1)) y fun z aa=>
 oP E (gYs c (lA 9 z)) aa fun ab ac=>
 oP E (gYs c (bN .eql 9 12 14 v ab)) ac fun ad ae=>
 oP E (xPick c ad (vB false)) ae fun d af=>
 oP E (gYs d (fA 49 a 2)) af fun ag ah=>
 oP E (gYs d (lA 39 ag)) ah fun ai aj=>
 oP E (gYs d (fA 49 b 2)) aj fun ak al=>
 oP E (gYs d (lA 39 ak)) al fun am an=>
 oP E (gYs d (xCall (fC 43) [ai,am,(fC 44)])) an fun ao ap=>
 oP E (xPick d ao (vB false)) ap fun e aq=>
 oP E (gYs e (fA 49 a 3)) aq fun ar au=>
 oP E (gYs e (lA 47 ar)) au fun av aw=>
 oP E (gYs e (fA 49 b 3)) aw fun ax ay=>
 oP E (gYs e (lA 47 ax)) ay fun az ba=>
 oP E (gYs e (xCall (fC 45) [av,az,(fC 46)])) ba fun bb bc=>
 oP E (xPick e bb (vB false)) bc fun f bd=>
 oP E (gYs f (fA 49 a 4)) bd fun be bf=>
 oP E (gYs f (lA 23 be)) bf fun bg bh=>
 oP E (gYs f (fA 49 b 4)) bh fun bi bj=>
 oP E (gYs f (lA 23 bi)) bj fun bk bl=>
 oP E (gYs f (xCall (fC 27) [bg,bk,(fC 28)])) bl fun bm bn=>
 oP E (xPick f bm (vB false)) bn fun g bo=>
 oP E (gYs g (fA 49 a 5)) bo fun bp bq=>
 oP E (gYs g (lA 23 bp)) bq fun br bs=>
 oP E (gYs g (fA 49 b 5)) bs fun bt bu=>
 oP E (gYs g (lA 23 bt)) bu fun bv bw=>
 oP E (gYs g (xCall (fC 27) [br,bv,(fC 28)])) bw fun bz ca=>
 oP E (xPick g bz (vB false)) ca fun cb cc=>
 R cb cc
def h28:Hint:=(sQ (sQ hN))
theorem b8w{x0 x1:Value}(h:F28 x0 x1 w R E):Cv pG 28 #[x0,x1] w R E:=okF (h:=h28) Tryd.func28 (by kernel_rfl) (by kernel_rfl) h
def b1d(x3 w)(R:RT)(_E:Pan):=
 ∀_τ:Fr,(R x3 w)
def b1e(_x0 x3 x4:Value)(w)(next2:NT)(_R:RT)(E):=
 ∀_τ:Fr,(oP E (bC .add 3 12 x4 (vI 1)) w fun a b=>
 next2 [x3,a] b)
def b1f(_x0 x3 _x4 x5:Value)(w)(j3:NT)(_R:RT)(E):=
 ∀_τ:Fr,(oP E (lA 49 x5) w fun a b=>
 oP E (xV (Instr.buildSlice 23 1 #[(0,a)])) b fun c d=>
 oP E (xBuiltin .append #[23,23] 23 [false,false] [x3,c]) d fun e f=>
 j3 [e] f)
def b4H(x0 _x3 x4 x5 x7:Value)(w)(next7:NT)(j6:NT)(_R:RT)(E):=
 opK pG E (iA 23 x0 x4) w fun k l=>
 oP E (fA 49 k 2) l fun m n=>
 oP E (lA 39 m) n fun o p=>
 oP E (xBuiltin .len #[39] 3 [false] [o]) p fun q r=>
 oP E (bN .lss 3 61 67 x7 q) r fun s f=>
 xcond s
 (dX f fun a=>
 qP pG (fA 49 x5 2) fun b=>
 qP pG (iA 23 x0 x4) fun t=>
 qP pG (fA 49 t 2) fun g=>
 qL pG a (blk b) (lA 39 b) fun u=>
 qL pG a (blk g) (lA 39 g) fun v=>
 qP pG (iA 39 v x7) fun i=>
 qL pG a (blk i) (lA 41 i) fun y=>
 oP E (xCall (fC 48) [y]) a fun z c=>
 keepX [(blk b)] a c (opK pG E (xV (Instr.buildSlice 39 1 #[(0,z)])) c fun aa d=>
 keepX [(blk b)] c d (opK pG E (xBuiltin .append #[39,39] 39 [false,false] [u,aa]) d fun ab e=>
 keepX [] d e (qP pG (fA 49 x5 2) fun ac=>
 oP E (sA 39 ac ab) e fun _ j=>
 keepX [] e j (opK pG E (bC .add 3 69 x7 (vI 1)) j fun ad ae=>
 next7 [ad] ae)))))
 (j6 [] f)
def b1g(x0 x3 x4 x5 w)(j3:NT)(R:RT)(E):=
 ∀_τ:Fr,(xcut (fun _ a=>b1f x0 x3 x4 x5 a j3 R E) fun j6=>
 xloop [7] [(vI 0)] w fun b c next7=>
 b4H x0 x3 x4 x5 (b 7) c next7 j6 R E)
def b4I(x0 _x3 x4 x5 x6:Value)(w)(next8:NT)(j5:NT)(_R:RT)(E):=
 opK pG E (iA 23 x0 x4) w fun k l=>
 oP E (fA 49 k 3) l fun m n=>
 oP E (lA 47 m) n fun o p=>
 oP E (xBuiltin .len #[47] 3 [false] [o]) p fun q r=>
 oP E (bN .lss 3 37 43 x6 q) r fun s f=>
 xcond s
 (dX f fun a=>
 qP pG (fA 49 x5 3) fun b=>
 qP pG (iA 23 x0 x4) fun t=>
 qP pG (fA 49 t 3) fun g=>
 qL pG a (blk b) (lA 47 b) fun u=>
 qL pG a (blk g) (lA 47 g) fun v=>
 qP pG (iA 47 v x6) fun i=>
 qL pG a (blk i) (lA 77 i) fun y=>
 oP E (xCall (fC 47) [y]) a fun z c=>
 keepX [(blk b)] a c (opK pG E (xV (Instr.buildSlice 47 1 #[(0,z)])) c fun aa d=>
 keepX [(blk b)] c d (opK pG E (xBuiltin .append #[47,47] 47 [false,false] [u,aa]) d fun ab e=>
 keepX [] d e (qP pG (fA 49 x5 3) fun ac=>
 oP E (sA 47 ac ab) e fun _ j=>
 keepX [] e j (opK pG E (bC .add 3 45 x6 (vI 1)) j fun ad ae=>
 next8 [ad] ae)))))
 (j5 [] f)
def b1h(x0 x3 x4 x5 w)(j3:NT)(R:RT)(E):=
 ∀_τ:Fr,(xcut (fun _ a=>b1g x0 x3 x4 x5 a j3 R E) fun j5=>
 xloop [6] [(vI 0)] w fun b c next8=>
 b4I x0 x3 x4 x5 (b 6) c next8 j5 R E)
def b4J(x0 x3 x4 w)(next2:NT)(j1:NT)(R:RT)(E):=
 opK pG E (xBuiltin .len #[23] 3 [false] [x0]) w fun ac ad=>
 oP E (bN .lss 3 8 10 x4 ac) ad fun ae r=>
 xcond ae
 (xcut (fun af ag=>b1e x0 (nth af 0) x4 ag next2 R E) fun j3=>
 xcut (fun ah ai=>b1h x0 x3 x4 (nth ah 0) ai j3 R E) fun j4=>
 dX r fun c=>
 qP pG (iA 23 x0 x4) fun aj=>
 qP pG (fA 49 aj 0) fun a=>
 qP pG (iA 23 x0 x4) fun ak=>
 qP pG (fA 49 ak 1) fun b=>
 qP pG (iA 23 x0 x4) fun al=>
 qP pG (fA 49 al 4) fun e=>
 qP pG (iA 23 x0 x4) fun am=>
 qP pG (fA 49 am 5) fun d=>
 qL pG c (blk a) (lA 3 a) fun g=>
 qL pG c (blk b) (lA 9 b) fun i=>
 qL pG c (blk e) (lA 23 e) fun s=>
 qL pG c (blk d) (lA 23 d) fun j=>
 (oP E (xCall (fC 29) [s]) c fun t f=>
 keepX [(blk d),(blk b),(blk a)] c f ((oP E (xCall (fC 29) [j]) f fun an k=>
 keepX [(blk b),(blk a)] f k (qP pG (xV (Instr.build 49 #[(0,g),(1,i),(4,t),(5,an)])) fun ao=>
 oP E (xV (Instr.alloc 49 true (.tuple #[]))) k fun u l=>
 keepX [(blk d),(blk e),(blk b),(blk a)] k l (opK pG E (sA 49 u ao) l fun _ v=>
 keepX [] l v (j4 [u] v))))∧
 (oP E (xV (Instr.alloc 49 true (.tuple #[]))) f fun y m=>
 keepX [(blk d),(blk e),(blk b),(blk a)] f m (opK pG E (xCall (fC 29) [j]) m fun ap n=>
 keepX [(blk b),(blk a)] m n (qP pG (xV (Instr.build 49 #[(0,g),(1,i),(4,t),(5,ap)])) fun aq=>
 oP E (sA 49 y aq) n fun _ z=>
 keepX [] n z (j4 [y] z))))))∧
 (oP E (xV (Instr.alloc 49 true (.tuple #[]))) c fun aa o=>
 keepX [(blk d),(blk e),(blk b),(blk a)] c o (opK pG E (xCall (fC 29) [s]) o fun ar p=>
 keepX [(blk d),(blk b),(blk a)] o p (opK pG E (xCall (fC 29) [j]) p fun au q=>
 keepX [(blk b),(blk a)] p q (qP pG (xV (Instr.build 49 #[(0,g),(1,i),(4,ar),(5,au)])) fun av=>
 oP E (sA 49 aa av) q fun _ ab=>
 keepX [] q ab (j4 [aa] ab))))))
 (j1 [x3] r)
def F29(x0 w)(R:RT)(E):=
 xcut (fun b c=>b1d (nth b 0) c R E) fun j1=>
 xloop [3,4] [(nS),(vI 0)] w fun a d next2=>
 b4J x0 (a 3) (a 4) d next2 j1 R E
def h29:Hint:=(sQ (sQ (hU [3] (sQ (hB (hL [3,4] (hS (sQ (hC hN hN)) (hU [3] (hB (hU [5] (.reg [(0,16384,1),(0,32768,16),(3,65536,49152),(4,131072,65536),(8,262144,131072),(0,524288,1),(0,1048576,16),(96,2097152,1572864),(128,4194304,2097152),(256,8388608,4194304),(0,16777216,1),(0,33554432,16),(3072,67108864,50331648),(4096,134217728,67108864),(8192,268435456,134217728),(16384,536870912,268435456),(0,1073741824,1),(0,2147483648,16),(196608,4294967296,3221225472),(262144,8589934592,4294967296),(524288,17179869184,8589934592),(1081344,34359738368,17179869184),(2130448,68719476736,34905260032),(0,32,0),(16777215,0,68719476768)] [1065488,1065488,1065488,1065488,1065472,1065488,1065488,1065488,1065488,1064976,1065488,1065488,1065488,1065488,1049104,1049104,1065488,1065488,1065488,1065488,16912,528,1065488,1065488,0] (.early 0 (.early 1 (.early 2 (.early 3 (.early 5 (.early 6 (.early 7 (.early 8 (.early 10 (.early 11 (.early 12 (.early 13 (.early 16 (.early 17 (.early 18 (.early 19 (.load 4 (.load 9 (.load 14 (.load 20 (.alt 15 (.alt 21 (.early 22 (.step 23 (.step 24 .done))) (.step 23 (.step 21 (.early 22 (.step 24 .done))))) (.step 23 (.step 15 (.step 21 (.early 22 (.step 24 .done))))))))))))))))))))))))))) (hU [] (sQ (hB (hL [6] (hS (sQ (hC hN hN)) (hS (hB (.reg [(0,140737488355328,32),(1,281474976710656,140737488355328),(0,562949953421312,1),(0,1125899906842624,16),(12,2251799813685248,1688849860263936),(16,4503599627370496,2251799813685248),(32,9007199254740992,4503599627370496),(0,18014398509481984,64),(192,36028797018963968,27021597764222976),(256,72057594037927936,36028797018963968),(512,144115188075855872,72057594037927936),(1024,288230376151711744,144115188075855872),(3074,576460752303423488,288511851128422400),(8191,1152921504606846976,32),(16383,0,1729382256910270464)] [578,576,578,578,578,578,514,578,578,66,2,2,0,578,0] (.early 0 (.early 2 (.early 3 (.early 4 (.early 5 (.early 7 (.load 1 (.load 6 (.early 8 (.load 9 (.step 10 (.step 11 (.step 12 (.early 13 (.step 14 .done))))))))))))))))) hN))))) (hU [] (sQ (hB (hL [7] (hS (sQ (hC hN hN)) (hS (hB (.reg [(0,2361183241434822606848,32),(1,4722366482869645213696,2361183241434822606848),(0,9444732965739290427392,1),(0,18889465931478580854784,16),(12,37778931862957161709568,28334198897217871282176),(16,75557863725914323419136,37778931862957161709568),(32,151115727451828646838272,75557863725914323419136),(0,302231454903657293676544,128),(192,604462909807314587353088,453347182355485940514816),(256,1208925819614629174706176,604462909807314587353088),(512,2417851639229258349412352,1208925819614629174706176),(1024,4835703278458516698824704,2417851639229258349412352),(3074,9671406556917033397649408,4840425644941386344038400),(8191,19342813113834066795298816,32),(16383,0,29014219670751100192948224)] [578,576,578,578,578,578,514,578,578,66,2,2,0,578,0] (.early 0 (.early 2 (.early 3 (.early 4 (.early 5 (.early 7 (.load 1 (.load 6 (.early 8 (.load 9 (.step 10 (.step 11 (.step 12 (.early 13 (.step 14 .done))))))))))))))))) hN))))) hN)))) hN))))) (sQ hN))))
theorem b8x{x0:Value}(h:F29 x0 w R E):Cv pG 29 #[x0] w R E:=okF (h:=h29) Tryd.func29 (by kernel_rfl) (by kernel_rfl) h
def F30(x0 w)(R:RT)(E):=
 opK pG E (xV (Instr.box 25 x0)) w fun g k=>
 dX k fun a=>
 qP pG (fA 25 g 0) fun i=>
 qP pG (fA 25 g 1) fun b=>
 qL pG a (blk i) (lA 22 i) fun l=>
 qL pG a (blk b) (lA 23 b) fun m=>
 oP E (xCall (fC 50) [l,(fC 51)]) a fun n c=>
 keepX [(blk b)] a c (opK pG E (xCall (fC 52) [m,(fC 53)]) c fun o d=>
 keepX [] c d (opK pG E (xV (Instr.buildSlice 105 2 #[(0,n),(1,o)])) d fun p e=>
 keepX [] d e (opK pG E (xCall (fC 49) [p]) e fun q f=>
 keepX [] e f (opK pG E (xCall (fC 31) [q]) f fun r j=>
 keepX [] f j (R r j)))))
def h30:Hint:=(sQ (hS (.reg [(0,8,2),(1,16,8),(2,32,16),(0,64,2),(8,128,64),(20,256,128),(36,512,288),(96,1024,512),(128,2048,1024),(511,4,2048)] [18,16,16,18,2,0,0,0,0,18] (.early 0 (.early 3 (.load 1 (.load 4 (.step 2 (.step 5 (.step 6 (.step 7 (.step 8 (.early 9 .done))))))))))) hN))
theorem b8y{x0:Value}(h:F30 x0 w R E):Cv pG 30 #[x0] w R E:=okF (h:=h30) Tryd.func30 (by kernel_rfl) (by kernel_rfl) h
def b1i(x3 w)(R:RT)(E):=
 ∀_τ:Fr,(oP E (lA 64 x3) w fun a b=>
 R a b)
def F31(x0 w)(R:RT)(E):=
 opK pG E (xV (Instr.build 68 #[])) w fun f g=>
 oP E (xV (Instr.box 68 f)) g fun i j=>
 oP E (xV (Instr.alloc 64 true (.tuple #[]))) j fun a k=>
 oP E (sA 64 a i) k fun _ l=>
 oP E (xV (Instr.alloc 96 true (.tuple #[]))) l fun b m=>
 oP E (xV (Instr.makeFunc (.func 54) #[] #[a,b])) m fun n o=>
 oP E (sA 96 b n) o fun _ p=>
 xcut (fun _ q=>b1i a q R E) fun j1=>
 oP E (lA 96 b) p fun r s=>
 oP E (xCall r [x0,(vI 1)]) s fun t u=>
 oP E (xV (Op.unary .not t)) u fun v c=>
 xcond v
 (j1 [] c)
 (oP E (lA 64 a) c fun y z=>
 oP E (xNil y) z fun aa ab=>
 oP E (fA 68 aa 3) ab fun ac ad=>
 oP E (lA 4 ac) ad fun ae d=>
 xcond ae
 (oP E (lA 64 a) d fun af ag=>
 oP E (xNil af) ag fun ah ai=>
 oP E (fA 68 ah 2) ai fun aj ak=>
 oP E (sA 27 aj (vI 30)) ak fun _ al=>
 j1 [] al)
 (oP E (lA 64 a) d fun am an=>
 oP E (xNil am) an fun ao ap=>
 oP E (fA 68 ao 4) ap fun aq ar=>
 oP E (lA 4 aq) ar fun au e=>
 xcond au
 (oP E (lA 64 a) e fun av aw=>
 oP E (xNil av) aw fun ax ay=>
 oP E (fA 68 ax 2) ay fun az ba=>
 oP E (sA 27 az (vI 31)) ba fun _ bb=>
 j1 [] bb)
 (j1 [] e)))
def h31:Hint:=(sQ (sQ (sQ (sQ (hU [] (sQ (hB (sQ (hC hN (sQ (hC hN (sQ (hC hN hN)))))))) (sQ hN))))))
theorem b8z{x0:Value}(h:F31 x0 w R E):Cv pG 31 #[x0] w R E:=okF (h:=h31) Tryd.func31 (by kernel_rfl) (by kernel_rfl) h
def b1j(x5 w)(R:RT)(_E:Pan):=
 ∀_τ:Fr,(R x5 w)
def b4K(x1 x5 x8 x9 x10 w)(next2:NT)(j1:NT)(_R:RT)(E):=
 opK pG E (bN .lss 3 10 9 x10 x9) w fun c a=>
 xcond c
 (oP E (iA 39 x8 x10) a fun d e=>
 oP E (lA 41 d) e fun f g=>
 oP E (xV (Instr.alloc 41 true (.tuple #[]))) g fun b i=>
 oP E (sA 41 b f) i fun _ j=>
 oP E (lA 41 b) j fun k l=>
 oP E (xCall x1 [k]) l fun m n=>
 oP E (xV (Instr.buildSlice 39 1 #[(0,m)])) n fun o p=>
 oP E (xBuiltin .append #[39,39] 39 [false,false] [x5,o]) p fun q r=>
 oP E (bC .add 3 10 x10 (vI 1)) r fun s t=>
 next2 [q,s] t)
 (j1 [x5] a)
def F32(x0 x1 w)(R:RT)(E):=
 xcut (fun b c=>b1j (nth b 0) c R E) fun j1=>
 oP E (xBuiltin .len #[39] 3 [false] [x0]) w fun d e=>
 xloop [5,10] [(nS),(vI 0)] e fun a f next2=>
 b4K x1 (a 5) x0 d (a 10) f next2 j1 R E
def h32:Hint:=(sQ (sQ (hU [5] (sQ (hB (hL [5,10] (sQ (hS (hC hN hN) (hS (hB (sQ hN)) hN)))))) (sQ hN))))
theorem b8A{x0 x1:Value}(h:F32 x0 x1 w R E):Cv pG 32 #[x0,x1] w R E:=okF (h:=h32) Tryd.func32 (by kernel_rfl) (by kernel_rfl) h
def F33(x0 w)(R:RT)(E):=
 opK pG E (xV (Instr.box 41 x0)) w fun a d=>
 oP E (xV (Instr.alloc 41 true (.tuple #[]))) d fun b e=>
 oP E (fA 41 a 3) e fun f g=>
 oP E (lA 39 f) g fun i j=>
 oP E (xCall (fC 32) [i,(fC 33)]) j fun k l=>
 oP E (fA 41 a 3) l fun m n=>
 oP E (sA 39 m k) n fun _ o=>
 oP E (lA 41 a) o fun p q=>
 oP E (sA 41 b p) q fun _ c=>
 xcell pG 41 b c fun r=>
 R r c
def h33:Hint:=(sQ (sQ (sQ hN)))
theorem b8B{x0:Value}(h:F33 x0 w R E):Cv pG 33 #[x0] w R E:=okF (h:=h33) Tryd.func33 (by kernel_rfl) (by kernel_rfl) h
def b1k(x5 w)(R:RT)(_E:Pan):=
 ∀_τ:Fr,(R x5 w)
def b4L(x1 x5 x8 x9 x10 w)(next2:NT)(j1:NT)(_R:RT)(E):=
 opK pG E (bN .lss 3 10 9 x10 x9) w fun c a=>
 xcond c
 (oP E (iA 47 x8 x10) a fun d e=>
 oP E (lA 77 d) e fun f g=>
 oP E (xV (Instr.alloc 77 true (.tuple #[]))) g fun b i=>
 oP E (sA 77 b f) i fun _ j=>
 oP E (lA 77 b) j fun k l=>
 oP E (xCall x1 [k]) l fun m n=>
 oP E (xV (Instr.buildSlice 47 1 #[(0,m)])) n fun o p=>
 oP E (xBuiltin .append #[47,47] 47 [false,false] [x5,o]) p fun q r=>
 oP E (bC .add 3 10 x10 (vI 1)) r fun s t=>
 next2 [q,s] t)
 (j1 [x5] a)
def F34(x0 x1 w)(R:RT)(E):=
 xcut (fun b c=>b1k (nth b 0) c R E) fun j1=>
 oP E (xBuiltin .len #[47] 3 [false] [x0]) w fun d e=>
 xloop [5,10] [(nS),(vI 0)] e fun a f next2=>
 b4L x1 (a 5) x0 d (a 10) f next2 j1 R E
def h34:Hint:=(sQ (sQ (hU [5] (sQ (hB (hL [5,10] (sQ (hS (hC hN hN) (hS (hB (sQ hN)) hN)))))) (sQ hN))))
theorem b8C{x0 x1:Value}(h:F34 x0 x1 w R E):Cv pG 34 #[x0,x1] w R E:=okF (h:=h34) Tryd.func34 (by kernel_rfl) (by kernel_rfl) h
def F35(x0 w)(R:RT)(E):=
 opK pG E (xV (Instr.box 77 x0)) w fun a l=>
 oP E (xV (Instr.alloc 77 true (.tuple #[]))) l fun g m=>
 dX m fun b=>
 qP pG (fA 77 a 2) fun i=>
 qP pG (fA 77 a 3) fun c=>
 qL pG b (blk i) (lA 39 i) fun n=>
 qL pG b (blk c) (lA 47 c) fun o=>
 oP E (xCall (fC 32) [n,(fC 33)]) b fun p d=>
 keepX [(blk c)] b d (qP pG (fA 77 a 2) fun q=>
 oP E (xCall (fC 34) [o,(fC 35)]) d fun r e=>
 keepX [] d e (opK pG E (sA 39 q p) e fun _ f=>
 keepX [] e f (qP pG (fA 77 a 3) fun s=>
 oP E (sA 47 s r) f fun _ j=>
 keepX [] f j (opK pG E (lA 77 a) j fun t u=>
 oP E (sA 77 g t) u fun _ k=>
 xcell pG 77 g k fun v=>
 R v k))))
def h35:Hint:=(sQ (hS (.reg [(0,8,2),(1,16,8),(2,32,16),(0,64,2),(8,128,64),(20,256,128),(31,512,2),(127,0,544),(255,1024,2),(511,0,1280)] [18,16,16,18,2,0,18,0,18,0] (.early 0 (.early 3 (.load 1 (.load 4 (.step 2 (.early 6 (.step 5 (.step 7 (.early 8 (.step 9 .done))))))))))) (sQ hN)))
theorem b8D{x0:Value}(h:F35 x0 w R E):Cv pG 35 #[x0] w R E:=okF (h:=h35) Tryd.func35 (by kernel_rfl) (by kernel_rfl) h
def F36(x0 x1 w)(R:RT)(E):=
 opK pG E (xNil x0) w fun d e=>
 oP E (fA 52 d 2) e fun f g=>
 oP E (lA 3 f) g fun i j=>
 oP E (bC .neq 3 8 i (vI 0)) j fun k a=>
 xcond k
 (R (vB false) a)
 (oP E (xNil x0) a fun l m=>
 oP E (fA 52 l 0) m fun n o=>
 oP E (lA 3 n) o fun p q=>
 oP E (bC .eql 3 13 p (vI 4096)) q fun r b=>
 xcond r
 (oP E (xNil x0) b fun s t=>
 oP E (fA 52 s 2) t fun u v=>
 oP E (sA 3 u (vI 33)) v fun _ y=>
 R (vB false) y)
 (oP E (bC .gtr 3 18 x1 (vI 64)) b fun z c=>
 xcond z
 (oP E (xNil x0) c fun aa ab=>
 oP E (fA 52 aa 2) ab fun ac ad=>
 oP E (sA 3 ac (vI 32)) ad fun _ ae=>
 R (vB false) ae)
 (oP E (xNil x0) c fun af ag=>
 oP E (fA 52 af 0) ag fun ah ai=>
 oP E (lA 3 ah) ai fun aj ak=>
 oP E (bC .add 3 26 aj (vI 1)) ak fun al am=>
 oP E (xNil x0) am fun an ao=>
 oP E (fA 52 an 0) ao fun ap aq=>
 oP E (sA 3 ap al) aq fun _ ar=>
 oP E (xNil x0) ar fun au av=>
 oP E (fA 52 au 1) av fun aw ax=>
 oP E (lA 3 aw) ax fun ay az=>
 oP E (xBuiltin .max #[3,3] 3 [false,false] [ay,x1]) az fun ba bb=>
 oP E (xNil x0) bb fun bc bd=>
 oP E (fA 52 bc 1) bd fun be bf=>
 oP E (sA 3 be ba) bf fun _ bg=>
 R (vB true) bg)))
def h36:Hint:=(sQ (hS (sQ (hC (sQ hN) hN)) (hS (sQ (hC (sQ (sQ hN)) hN)) (hS (sQ (hC (sQ (sQ hN)) hN)) (sQ (sQ (sQ hN)))))))
theorem b8E{x0 x1:Value}(h:F36 x0 x1 w R E):Cv pG 36 #[x0,x1] w R E:=okF (h:=h36) Tryd.func36 (by kernel_rfl) (by kernel_rfl) h
def b4M(x0 x2 x4 x9 w)(next4:NT)(R:RT)(E):=
 opK pG E (fA 49 x4 5) w fun c d=>
 oP E (lA 23 c) d fun e f=>
 oP E (xBuiltin .len #[23] 3 [false] [e]) f fun g i=>
 oP E (bN .lss 3 83 86 x9 g) i fun a j=>
 oP E (gYs a (xNil (zT a x0))) j fun k l=>
 oP E (gYs a (fA 52 k 2)) l fun m n=>
 oP E (gYs a (lA 3 m)) n fun o p=>
 oP E (gYs a (bC .eql 3 92 o (vI 0))) p fun q r=>
 oP E (xPick a q (vB false)) r fun s b=>
 xcond s
 (oP E (fA 49 x4 5) b fun t u=>
 oP E (lA 23 t) u fun v y=>
 oP E (iA 23 v x9) y fun z aa=>
 oP E (lA 49 z) aa fun ab ac=>
 oP E (bC .add 3 103 x2 (vI 1)) ac fun ad ae=>
 oP E (xCall (fC 37) [x0,ab,ad]) ae fun _t105_35 af=>
 oP E (bC .add 3 95 x9 (vI 1)) af fun ag ah=>
 next4 [ag] ah)
 (R (Value.tuple #[]) b)
def b1l(x0 x2 x4 w)(R:RT)(E):=
 ∀_τ:Fr,(xloop [9] [(vI 0)] w fun a b next4=>
 b4M x0 x2 x4 (a 9) b next4 R E)
def b4N(x0 x2 x4 x8 w)(next5:NT)(j3:NT)(_R:RT)(E):=
 opK pG E (fA 49 x4 4) w fun c d=>
 oP E (lA 23 c) d fun e f=>
 oP E (xBuiltin .len #[23] 3 [false] [e]) f fun g i=>
 oP E (bN .lss 3 60 63 x8 g) i fun a j=>
 oP E (gYs a (xNil (zT a x0))) j fun k l=>
 oP E (gYs a (fA 52 k 2)) l fun m n=>
 oP E (gYs a (lA 3 m)) n fun o p=>
 oP E (gYs a (bC .eql 3 69 o (vI 0))) p fun q r=>
 oP E (xPick a q (vB false)) r fun s b=>
 xcond s
 (oP E (fA 49 x4 4) b fun t u=>
 oP E (lA 23 t) u fun v y=>
 oP E (iA 23 v x8) y fun z aa=>
 oP E (lA 49 z) aa fun ab ac=>
 oP E (bC .add 3 80 x2 (vI 1)) ac fun ad ae=>
 oP E (xCall (fC 37) [x0,ab,ad]) ae fun _t82_71 af=>
 oP E (bC .add 3 72 x8 (vI 1)) af fun ag ah=>
 next5 [ag] ah)
 (j3 [] b)
def b1m(x0 x2 x4 w)(R:RT)(E):=
 ∀_τ:Fr,(xcut (fun _ a=>b1l x0 x2 x4 a R E) fun j3=>
 xloop [8] [(vI 0)] w fun b c next5=>
 b4N x0 x2 x4 (b 8) c next5 j3 R E)
def b4O(x0 x2 x4 x7 w)(next6:NT)(j2:NT)(_R:RT)(E):=
 opK pG E (fA 49 x4 2) w fun c d=>
 oP E (lA 39 c) d fun e f=>
 oP E (xBuiltin .len #[39] 3 [false] [e]) f fun g i=>
 oP E (bN .lss 3 37 40 x7 g) i fun a j=>
 oP E (gYs a (xNil (zT a x0))) j fun k l=>
 oP E (gYs a (fA 52 k 2)) l fun m n=>
 oP E (gYs a (lA 3 m)) n fun o p=>
 oP E (gYs a (bC .eql 3 46 o (vI 0))) p fun q r=>
 oP E (xPick a q (vB false)) r fun s b=>
 xcond s
 (oP E (fA 49 x4 2) b fun t u=>
 oP E (lA 39 t) u fun v y=>
 oP E (iA 39 v x7) y fun z aa=>
 oP E (lA 41 z) aa fun ab ac=>
 oP E (bC .add 3 57 x2 (vI 1)) ac fun ad ae=>
 oP E (xCall (fC 57) [x0,ab,ad]) ae fun _t59_107 af=>
 oP E (bC .add 3 49 x7 (vI 1)) af fun ag ah=>
 next6 [ag] ah)
 (j2 [] b)
def b1n(x0 x2 x4 w)(R:RT)(E):=
 ∀_τ:Fr,(xcut (fun _ a=>b1m x0 x2 x4 a R E) fun j2=>
 xloop [7] [(vI 0)] w fun b c next6=>
 b4O x0 x2 x4 (b 7) c next6 j2 R E)
def b4P(x0 x2 x4 x6 w)(next7:NT)(j1:NT)(_R:RT)(E):=
 opK pG E (fA 49 x4 3) w fun c d=>
 oP E (lA 47 c) d fun e f=>
 oP E (xBuiltin .len #[47] 3 [false] [e]) f fun g i=>
 oP E (bN .lss 3 14 17 x6 g) i fun a j=>
 oP E (gYs a (xNil (zT a x0))) j fun k l=>
 oP E (gYs a (fA 52 k 2)) l fun m n=>
 oP E (gYs a (lA 3 m)) n fun o p=>
 oP E (gYs a (bC .eql 3 23 o (vI 0))) p fun q r=>
 oP E (xPick a q (vB false)) r fun s b=>
 xcond s
 (oP E (fA 49 x4 3) b fun t u=>
 oP E (lA 47 t) u fun v y=>
 oP E (iA 47 v x6) y fun z aa=>
 oP E (lA 77 z) aa fun ab ac=>
 oP E (bC .add 3 34 x2 (vI 1)) ac fun ad ae=>
 oP E (xCall (fC 56) [x0,ab,ad]) ae fun _t36_143 af=>
 oP E (bC .add 3 26 x6 (vI 1)) af fun ag ah=>
 next7 [ag] ah)
 (j1 [] b)
def F37(x0 x1 x2 w)(R:RT)(E):=
 opK pG E (xV (Instr.box 49 x1)) w fun a c=>
 oP E (xCall (fC 36) [x0,x2]) c fun d e=>
 oP E (xV (Op.unary .not d)) e fun f b=>
 xcond f
 (R (Value.tuple #[]) b)
 (xcut (fun _ g=>b1n x0 x2 a g R E) fun j1=>
 xloop [6] [(vI 0)] b fun i j next7=>
 b4P x0 x2 a (i 6) j next7 j1 R E)
def h37:Hint:=(sQ (hS (sQ (hC hN hN)) (hU [] (sQ (hB (hL [6] (hS (sQ (hC hN hN)) (hS (hB hN) hN))))) (hU [] (sQ (hB (hL [7] (hS (sQ (hC hN hN)) (hS (hB hN) hN))))) (hU [] (sQ (hB (hL [8] (hS (sQ (hC hN hN)) (hS (hB hN) hN))))) (sQ (hB (hL [9] (hS (sQ (hC hN hN)) (hS (hB hN) hN))))))))))
theorem b8F{x0 x1 x2:Value}(h:F37 x0 x1 x2 w R E):Cv pG 37 #[x0,x1,x2] w R E:=okF (h:=h37) Tryd.func37 (by kernel_rfl) (by kernel_rfl) h
def b1o(x3 w)(R:RT)(E):=
 ∀_τ:Fr,(oP E (bC .leq 3 52 x3 (vI 32)) w fun a b=>
 R a b)
def b4Q(x0 x3 x4 w)(next2:NT)(j1:NT)(R:RT)(E):=
 opK pG E (xBuiltin .len #[9] 3 [false] [x0]) w fun i j=>
 oP E (bN .lss 3 20 22 x4 i) j fun k e=>
 xcond k
 (oP E (xCall (fC 59) [x0,x4]) e fun c l=>
 oP E (xT c 0) l fun m n=>
 oP E (xT c 1) n fun o p=>
 oP E (xT c 2) p fun q r=>
 oP E (xCall (fC 60) [m]) r fun f s=>
 oP E (xV (Op.unary .not q)) s fun a t=>
 oP E (gNo a (bC .neq 3 36 (zF a f) (vI 3))) t fun b u=>
 oP E (gsem (asB (zF a b)) true (xBin .neq 3 (.tmp 39) (.const (vI 4)) (gval (asB (zF a b)) true f) (vI 4))) u fun d v=>
 oP E (gsem (asB (gval (asB (zF a b)) true d)) false (xBin .eql 3 (.tmp 42) (.const (vI 0)) (gval (asB (gval (asB (zF a b)) true d)) false x3) (vI 0))) v fun y z=>
 oP E (gsem (asB (zF a b)) true (xPick (gval (asB (zF a b)) true d) (vB true) y)) z fun aa ab=>
 oP E (gNo a (xPick (zF a b) aa (vB false))) ab fun ac ad=>
 oP E (xPick a (vB true) ac) ad fun ae g=>
 xcond ae
 (R (vB false) g)
 (oP E (bC .add 3 47 x3 (vI 1)) g fun af ag=>
 oP E (bN .add 3 49 50 x4 o) ag fun ah ai=>
 next2 [af,ah] ai))
 (j1 [x3] e)
def F38(x0 w)(R:RT)(E):=
 opK pG E (bC .eql 9 9 x0 (eS)) w fun a e=>
 oP E (gNo a (xBuiltin .len #[9] 3 [false] [(zF a x0)])) e fun f g=>
 oP E (gNo a (bC .gtr 3 13 f (vI 128))) g fun i j=>
 oP E (xPick a (vB true) i) j fun b k=>
 oP E (gNo b (xCall (fC 58) [(zF b x0)])) k fun l m=>
 oP E (xPick b (vB true) l) m fun n c=>
 xcond n
 (R (vB false) c)
 (xcut (fun o p=>b1o (nth o 0) p R E) fun j1=>
 xloop [3,4] [(vI 0),(vI 0)] c fun d q next2=>
 b4Q x0 (d 3) (d 4) q next2 j1 R E)
def h38:Hint:=(sQ (hS (sQ (hC (sQ hN) hN)) (sQ (hU [3] (sQ (hB (hL [3,4] (hS (sQ (hC hN hN)) (hB (sQ (sQ (hS (sQ (hC (sQ hN) hN)) (sQ hN))))))))) (sQ hN)))))
theorem b8G{x0:Value}(h:F38 x0 w R E):Cv pG 38 #[x0] w R E:=okF (h:=h38) Tryd.func38 (by kernel_rfl) (by kernel_rfl) h
def b4R(x0 x3 x8 w)(next4:NT)(R:RT)(E):=
 opK pG E (fA 77 x3 3) w fun c d=>
 oP E (lA 47 c) d fun e f=>
 oP E (xBuiltin .len #[47] 3 [false] [e]) f fun g i=>
 oP E (bN .lss 3 82 85 x8 g) i fun a j=>
 oP E (gYs a (xNil (zT a x0))) j fun k l=>
 oP E (gYs a (fA 55 k 0)) l fun m n=>
 oP E (gYs a (lA 4 m)) n fun o p=>
 oP E (xPick a o (vB false)) p fun q b=>
 xcond q
 (oP E (fA 77 x3 3) b fun r s=>
 oP E (lA 47 r) s fun t u=>
 oP E (iA 47 t x8) u fun v y=>
 oP E (lA 77 v) y fun z aa=>
 oP E (xCall (fC 39) [x0,z]) aa fun _t101_67 ab=>
 oP E (bC .add 3 93 x8 (vI 1)) ab fun ac ad=>
 next4 [ac] ad)
 (R (Value.tuple #[]) b)
def b1p(x0 x3 w)(R:RT)(E):=
 ∀_τ:Fr,(xloop [8] [(vI 0)] w fun a b next4=>
 b4R x0 x3 (a 8) b next4 R E)
def b4S(x0 x3 x7 w)(next5:NT)(j3:NT)(_R:RT)(E):=
 opK pG E (fA 77 x3 2) w fun c d=>
 oP E (lA 39 c) d fun e f=>
 oP E (xBuiltin .len #[39] 3 [false] [e]) f fun g i=>
 oP E (bN .lss 3 62 65 x7 g) i fun a j=>
 oP E (gYs a (xNil (zT a x0))) j fun k l=>
 oP E (gYs a (fA 55 k 0)) l fun m n=>
 oP E (gYs a (lA 4 m)) n fun o p=>
 oP E (xPick a o (vB false)) p fun q b=>
 xcond q
 (oP E (fA 77 x3 2) b fun r s=>
 oP E (lA 39 r) s fun t u=>
 oP E (iA 39 t x7) u fun v y=>
 oP E (lA 41 v) y fun z aa=>
 oP E (xCall (fC 40) [x0,z]) aa fun _t81_99 ab=>
 oP E (bC .add 3 73 x7 (vI 1)) ab fun ac ad=>
 next5 [ac] ad)
 (j3 [] b)
def b1q(x0 x3 x4 x5 x6 w)(R:RT)(E):=
 ∀_τ:Fr,(oP E (xNil x0) w fun d e=>
 oP E (fA 55 d 0) e fun f g=>
 oP E (lA 4 f) g fun c i=>
 oP E (xPick c (zT c x6) (vB false)) i fun a j=>
 oP E (gYs a (fA 77 x3 2)) j fun k l=>
 oP E (gYs a (lA 39 k)) l fun m n=>
 oP E (gYs a (xBuiltin .len #[39] 3 [false] [m])) n fun o p=>
 oP E (gYs a (bN .eql 3 49 50 o (zT a x4))) p fun q r=>
 oP E (xPick a q (vB false)) r fun b s=>
 oP E (gYs b (fA 77 x3 3)) s fun t u=>
 oP E (gYs b (lA 47 t)) u fun v y=>
 oP E (gYs b (xBuiltin .len #[47] 3 [false] [v])) y fun z aa=>
 oP E (gYs b (bN .eql 3 56 57 z (zT b x5))) aa fun ab ac=>
 oP E (xPick b ab (vB false)) ac fun ad ae=>
 oP E (xNil x0) ae fun af ag=>
 oP E (fA 55 af 0) ag fun ah ai=>
 oP E (sA 4 ah ad) ai fun _ aj=>
 xcut (fun _ ak=>b1p x0 x3 ak R E) fun j3=>
 xloop [7] [(vI 0)] aj fun al am next5=>
 b4S x0 x3 (al 7) am next5 j3 R E)
def b1r(x0 x3 x4 x5 w)(R:RT)(E):=
 ∀_τ:Fr,(oP E (fA 77 x3 1) w fun c d=>
 oP E (lA 3 c) d fun e f=>
 oP E (bC .eql 3 25 e (vI 0)) f fun g i=>
 xcut (fun j k=>b1q x0 x3 x4 x5 (nth j 0) k R E) fun j2=>
 oP E (fA 77 x3 0) i fun l m=>
 oP E (lA 3 l) m fun n o=>
 oP E (bC .eql 3 28 n (vI 3)) o fun p b=>
 xcond p
 (oP E (fA 77 x3 1) b fun q r=>
 oP E (lA 3 q) r fun s t=>
 oP E (bC .geq 3 31 s (vI 1)) t fun a u=>
 oP E (gYs a (fA 77 x3 1)) u fun v y=>
 oP E (gYs a (lA 3 v)) y fun z aa=>
 oP E (gYs a (bC .leq 3 35 z (vI 6))) aa fun ab ac=>
 oP E (xPick a ab (vB false)) ac fun ad ae=>
 j2 [ad] ae)
 (j2 [g] b))
def b1s(x0 _x3 x4 x5 x21:Value)(w)(j1:NT)(_R:RT)(E):=
 ∀_τ:Fr,(xcond x21
 (j1 [x4,(vI 2)] w)
 (oP E (xNil x0) w fun a b=>
 oP E (fA 55 a 0) b fun c d=>
 oP E (sA 4 c (vB false)) d fun _ e=>
 j1 [x4,x5] e))
def b1t(x0 x3 x4 x5 x10 x14 w)(j1:NT)(R:RT)(E):=
 ∀_τ:Fr,(xcond x14
 (j1 [x4,x5] w)
 (oP E (bC .eql 3 10 x10 (vI 3)) w fun e a=>
 xcond e
 (j1 [(vI 2),x5] a)
 (oP E (bC .eql 3 10 x10 (vI 4)) a fun f b=>
 xcond f
 (j1 [x4,(vI 1)] b)
 (xcut (fun g i=>b1s x0 x3 x4 x5 (nth g 0) i j1 R E) fun j7=>
 oP E (bC .eql 3 10 x10 (vI 5)) b fun c d=>
 xcond c
 (j7 [c] d)
 (oP E (bC .eql 3 10 x10 (vI 6)) d fun j k=>
 j7 [j] k)))))
def F39(x0 x1 w)(R:RT)(E):=
 opK pG E (xV (Instr.box 77 x1)) w fun a f=>
 xcut (fun c g=>b1r x0 a (nth c 0) (nth c.tail 0) g R E) fun j1=>
 oP E (fA 77 a 0) f fun i j=>
 oP E (lA 3 i) j fun b k=>
 xcut (fun l m=>b1t x0 a (vI 0) (vI 0) b (nth l 0) m j1 R E) fun j6=>
 oP E (bC .eql 3 10 b (vI 1)) k fun d e=>
 xcond d
 (j6 [d] e)
 (oP E (bC .eql 3 10 b (vI 2)) e fun n o=>
 j6 [n] o)
def h39:Hint:=(sQ (sQ (hU [4,5] (sQ (hB (hU [14] (sQ (hC hN hN)) (hC hN (sQ (hC hN (sQ (hC hN (hU [21] (sQ (hC hN hN)) (hC hN hN)))))))))) (sQ (hU [6] (sQ (hC hN hN)) (sQ (hU [] (sQ (hB (hL [7] (hS (sQ (hC hN hN)) (hS (hB hN) hN))))) (sQ (hB (hL [8] (hS (sQ (hC hN hN)) (hS (hB hN) hN))))))))))))
theorem b8H{x0 x1:Value}(h:F39 x0 x1 w R E):Cv pG 39 #[x0,x1] w R E:=okF (h:=h39) Tryd.func39 (by kernel_rfl) (by kernel_rfl) h
def b4T(x0 x3 x5 w)(next2:NT)(R:RT)(E):=
 opK pG E (fA 41 x3 3) w fun c d=>
 oP E (lA 39 c) d fun e f=>
 oP E (xBuiltin .len #[39] 3 [false] [e]) f fun g i=>
 oP E (bN .lss 3 65 68 x5 g) i fun a j=>
 oP E (gYs a (xNil (zT a x0))) j fun k l=>
 oP E (gYs a (fA 55 k 0)) l fun m n=>
 oP E (gYs a (lA 4 m)) n fun o p=>
 oP E (xPick a o (vB false)) p fun q b=>
 xcond q
 (oP E (fA 41 x3 3) b fun r s=>
 oP E (lA 39 r) s fun t u=>
 oP E (iA 39 t x5) u fun v y=>
 oP E (lA 41 v) y fun z aa=>
 oP E (xCall (fC 40) [x0,z]) aa fun _t84_93 ab=>
 oP E (bC .add 3 76 x5 (vI 1)) ab fun ac ad=>
 next2 [ac] ad)
 (R (Value.tuple #[]) b)
def b1u(x0 x3 x4 w)(R:RT)(E):=
 ∀_τ:Fr,(oP E (fA 41 x3 2) w fun f g=>
 oP E (lA 9 f) g fun i j=>
 oP E (fA 41 x3 0) j fun k l=>
 oP E (lA 3 k) l fun m n=>
 oP E (bC .eql 3 28 m (vI 2)) n fun d o=>
 oP E (gNo d (fA 41 x3 0)) o fun p q=>
 oP E (gNo d (lA 3 p)) q fun r s=>
 oP E (gNo d (bC .eql 3 32 r (vI 4))) s fun t u=>
 oP E (xPick d (vB true) t) u fun v y=>
 oP E (xCall (fC 20) [x0,i,v]) y fun _t35_21 z=>
 oP E (xNil x0) z fun aa ab=>
 oP E (fA 55 aa 0) ab fun ac ad=>
 oP E (lA 4 ac) ad fun c ae=>
 oP E (gYs c (fA 41 x3 3)) ae fun af ag=>
 oP E (gYs c (lA 39 af)) ag fun ah ai=>
 oP E (gYs c (xBuiltin .len #[39] 3 [false] [ah])) ai fun aj ak=>
 oP E (gYs c (bN .eql 3 44 45 aj (zT c x4))) ak fun al am=>
 oP E (xPick c al (vB false)) am fun a an=>
 oP E (gYs a (fA 41 x3 1)) an fun ao ap=>
 oP E (gYs a (lA 2 ao)) ap fun aq ar=>
 oP E (gYs a (bC .eql 2 50 aq (vI 0))) ar fun b au=>
 oP E (gsem (asB (zT a b)) false (fA 41 x3 0)) au fun av aw=>
 oP E (gsem (asB (zT a b)) false (lA 3 av)) aw fun ax ay=>
 oP E (gsem (asB (zT a b)) false (bC .eql 3 54 ax (vI 1))) ay fun e az=>
 oP E (gsem (asB (gval (asB (zT a b)) false e)) true (fA 41 x3 1)) az fun ba bb=>
 oP E (gsem (asB (gval (asB (zT a b)) false e)) true (lA 2 ba)) bb fun bc bd=>
 oP E (gsem (asB (gval (asB (zT a b)) false e)) true (bC .gtr 2 58 bc (vI 0))) bd fun be bf=>
 oP E (gsem (asB (zT a b)) false (xPick (gval (asB (zT a b)) false e) be (vB false))) bf fun bg bh=>
 oP E (gYs a (xPick (zT a b) (vB true) bg)) bh fun bi bj=>
 oP E (xPick a bi (vB false)) bj fun bk bl=>
 oP E (xNil x0) bl fun bm bn=>
 oP E (fA 55 bm 0) bn fun bo bp=>
 oP E (sA 4 bo bk) bp fun _ bq=>
 xloop [5] [(vI 0)] bq fun br bs next2=>
 b4T x0 x3 (br 5) bs next2 R E)
def b1v(x0 _x3 x4 x18:Value)(w)(j1:NT)(_R:RT)(E):=
 ∀_τ:Fr,(xcond x18
 (j1 [(vI 2)] w)
 (oP E (xNil x0) w fun a b=>
 oP E (fA 55 a 0) b fun c d=>
 oP E (sA 4 c (vB false)) d fun _ e=>
 j1 [x4] e))
def b1w(x0 x3 x4 x7 x15 w)(j1:NT)(R:RT)(E):=
 ∀_τ:Fr,(xcond x15
 (j1 [(vI 1)] w)
 (xcut (fun j k=>b1v x0 x3 x4 (nth j 0) k j1 R E) fun j5=>
 oP E (bC .eql 3 7 x7 (vI 6)) w fun a b=>
 xcond a
 (j5 [a] b)
 (oP E (bC .eql 3 7 x7 (vI 7)) b fun c d=>
 xcond c
 (j5 [c] d)
 (oP E (bC .eql 3 7 x7 (vI 8)) d fun e f=>
 xcond e
 (j5 [e] f)
 (oP E (bC .eql 3 7 x7 (vI 9)) f fun g i=>
 xcond g
 (j5 [g] i)
 (oP E (bC .eql 3 7 x7 (vI 10)) i fun l m=>
 j5 [l] m))))))
def b1x(x0 x3 x4 x7 x11 w)(j1:NT)(R:RT)(E):=
 ∀_τ:Fr,(xcond x11
 (j1 [x4] w)
 (xcut (fun c d=>b1w x0 x3 x4 x7 (nth c 0) d j1 R E) fun j4=>
 oP E (bC .eql 3 7 x7 (vI 4)) w fun a b=>
 xcond a
 (j4 [a] b)
 (oP E (bC .eql 3 7 x7 (vI 5)) b fun e f=>
 j4 [e] f)))
def F40(x0 x1 w)(R:RT)(E):=
 opK pG E (xV (Instr.box 41 x1)) w fun b g=>
 xcut (fun i j=>b1u x0 b (nth i 0) j R E) fun j1=>
 oP E (fA 41 b 0) g fun k l=>
 oP E (lA 3 k) l fun a m=>
 xcut (fun n o=>b1x x0 b (vI 0) a (nth n 0) o j1 R E) fun j3=>
 oP E (bC .eql 3 7 a (vI 1)) m fun c d=>
 xcond c
 (j3 [c] d)
 (oP E (bC .eql 3 7 a (vI 2)) d fun e f=>
 xcond e
 (j3 [e] f)
 (oP E (bC .eql 3 7 a (vI 3)) f fun p q=>
 j3 [p] q))
def h40:Hint:=(sQ (sQ (hU [4] (sQ (hB (hU [11] (sQ (hC hN (sQ (hC hN hN)))) (hC hN (hU [15] (sQ (hC hN hN)) (hC hN (hU [18] (sQ (hC hN (sQ (hC hN (sQ (hC hN (sQ (hC hN hN)))))))) (hC hN hN)))))))) (sQ (sQ (sQ (hB (hL [5] (hS (sQ (hC hN hN)) (hS (hB hN) hN))))))))))
theorem b8I{x0 x1:Value}(h:F40 x0 x1 w R E):Cv pG 40 #[x0,x1] w R E:=okF (h:=h40) Tryd.func40 (by kernel_rfl) (by kernel_rfl) h
def b1y(w)(R:RT)(_E:Pan):=
 ∀_τ:Fr,(R (vB true) w)
def b4U(x2 x3 x6 w)(next3:NT)(j2:NT)(R:RT)(E):=
 opK pG E (fA 77 x2 3) w fun i j=>
 oP E (lA 47 i) j fun k l=>
 oP E (xBuiltin .len #[47] 3 [false] [k]) l fun m n=>
 oP E (bN .lss 3 56 59 x6 m) n fun o c=>
 xcond o
 (dX c fun a=>
 qP pG (fA 77 x2 3) fun d=>
 qP pG (fA 77 x3 3) fun e=>
 qL pG a (blk d) (lA 47 d) fun p=>
 qP pG (iA 47 p x6) fun f=>
 qL pG a (blk f) (lA 77 f) fun q=>
 qL pG a (blk e) (lA 47 e) fun r=>
 qP pG (iA 47 r x6) fun g=>
 qL pG a (blk g) (lA 77 g) fun s=>
 oP E (xCall (fC 41) [q,s]) a fun t b=>
 keepX [] a b (qP pG (xV (Op.unary .not t)) fun u=>
 xcond u
 (R (vB false) b)
 (oP E (bC .add 3 61 x6 (vI 1)) b fun v y=>
 next3 [v] y)))
 (j2 [] c)
def b1z(x2 x3 w)(R:RT)(E):=
 ∀_τ:Fr,(xcut (fun _ a=>b1y a R E) fun j2=>
 xloop [6] [(vI 0)] w fun b c next3=>
 b4U x2 x3 (b 6) c next3 j2 R E)
def b4V(x2 x3 x5 w)(next4:NT)(j1:NT)(R:RT)(E):=
 opK pG E (fA 77 x2 2) w fun i j=>
 oP E (lA 39 i) j fun k l=>
 oP E (xBuiltin .len #[39] 3 [false] [k]) l fun m n=>
 oP E (bN .lss 3 37 40 x5 m) n fun o c=>
 xcond o
 (dX c fun a=>
 qP pG (fA 77 x2 2) fun d=>
 qP pG (fA 77 x3 2) fun e=>
 qL pG a (blk d) (lA 39 d) fun p=>
 qP pG (iA 39 p x5) fun f=>
 qL pG a (blk f) (lA 41 f) fun q=>
 qL pG a (blk e) (lA 39 e) fun r=>
 qP pG (iA 39 r x5) fun g=>
 qL pG a (blk g) (lA 41 g) fun s=>
 oP E (xCall (fC 42) [q,s]) a fun t b=>
 keepX [] a b (qP pG (xV (Op.unary .not t)) fun u=>
 xcond u
 (R (vB false) b)
 (oP E (bC .add 3 42 x5 (vI 1)) b fun v y=>
 next4 [v] y)))
 (j1 [] c)
def F41(x0 x1 w)(R:RT)(E):=
 opK pG E (xV (Instr.box 77 x0)) w fun c g=>
 oP E (xV (Instr.box 77 x1)) g fun d i=>
 oP E (fA 77 c 0) i fun j k=>
 oP E (lA 3 j) k fun l m=>
 oP E (fA 77 d 0) m fun n o=>
 oP E (lA 3 n) o fun p q=>
 oP E (bN .neq 3 8 10 l p) q fun e r=>
 oP E (gNo e (fA 77 c 1)) r fun s t=>
 oP E (gNo e (lA 3 s)) t fun u v=>
 oP E (gNo e (fA 77 d 1)) v fun y z=>
 oP E (gNo e (lA 3 y)) z fun aa ab=>
 oP E (gNo e (bN .neq 3 14 16 u aa)) ab fun ac ad=>
 oP E (xPick e (vB true) ac) ad fun a ae=>
 oP E (gNo a (fA 77 c 2)) ae fun af ag=>
 oP E (gNo a (lA 39 af)) ag fun ah ai=>
 oP E (gNo a (xBuiltin .len #[39] 3 [false] [ah])) ai fun aj ak=>
 oP E (gNo a (fA 77 d 2)) ak fun al am=>
 oP E (gNo a (lA 39 al)) am fun an ao=>
 oP E (gNo a (xBuiltin .len #[39] 3 [false] [an])) ao fun ap aq=>
 oP E (gNo a (bN .neq 3 22 25 aj ap)) aq fun ar au=>
 oP E (xPick a (vB true) ar) au fun b av=>
 oP E (gNo b (fA 77 c 3)) av fun aw ax=>
 oP E (gNo b (lA 47 aw)) ax fun ay az=>
 oP E (gNo b (xBuiltin .len #[47] 3 [false] [ay])) az fun ba bb=>
 oP E (gNo b (fA 77 d 3)) bb fun bc bd=>
 oP E (gNo b (lA 47 bc)) bd fun be bf=>
 oP E (gNo b (xBuiltin .len #[47] 3 [false] [be])) bf fun bg bh=>
 oP E (gNo b (bN .neq 3 31 34 ba bg)) bh fun bi bj=>
 oP E (xPick b (vB true) bi) bj fun bk f=>
 xcond bk
 (R (vB false) f)
 (xcut (fun _ bl=>b1z c d bl R E) fun j1=>
 xloop [5] [(vI 0)] f fun bm bn next4=>
 b4V c d (bm 5) bn next4 j1 R E)
def h41:Hint:=(sQ (hS (sQ (hC (sQ hN) hN)) (hU [] (sQ (hB (hL [5] (hS (sQ (hC hN hN)) (hS (hB (hS (.reg [(0,17592186044416,4),(1,35184372088832,17592186044416),(0,70368744177664,32),(6,140737488355328,105553116266496),(8,281474976710656,140737488355328),(0,562949953421312,8),(32,1125899906842624,562949953421312),(0,2251799813685248,32),(192,4503599627370496,3377699720527872),(256,9007199254740992,4503599627370496),(528,18014398509481984,9288674231451648),(1024,36028797018963968,18014398509481984)] [594,592,594,594,578,594,530,594,594,82,0,594] (.early 0 (.early 2 (.early 5 (.early 7 (.load 1 (.early 3 (.load 4 (.load 6 (.early 8 (.load 9 (.step 10 (.early 11 .done))))))))))))) (hC (sQ hN) hN))) hN))))) (hU [] (sQ (hB (hL [6] (hS (sQ (hC hN hN)) (hS (hB (hS (.reg [(0,9223372036854775808,4),(1,18446744073709551616,9223372036854775808),(0,36893488147419103232,64),(6,73786976294838206464,55340232221128654848),(8,147573952589676412928,73786976294838206464),(0,295147905179352825856,8),(32,590295810358705651712,295147905179352825856),(0,1180591620717411303424,64),(192,2361183241434822606848,1770887431076116955136),(256,4722366482869645213696,2361183241434822606848),(528,9444732965739290427392,4869940435459321626624),(1024,18889465931478580854784,9444732965739290427392)] [594,592,594,594,578,594,530,594,594,82,0,594] (.early 0 (.early 2 (.early 5 (.early 7 (.load 1 (.early 3 (.load 4 (.load 6 (.early 8 (.load 9 (.step 10 (.early 11 .done))))))))))))) (hC (sQ hN) hN))) hN))))) (sQ hN)))))
theorem b8J{x0 x1:Value}(h:F41 x0 x1 w R E):Cv pG 41 #[x0,x1] w R E:=okF (h:=h41) Tryd.func41 (by kernel_rfl) (by kernel_rfl) h
def b1A(w)(R:RT)(_E:Pan):=
 ∀_τ:Fr,(R (vB true) w)
def b4W(x2 x3 x5 w)(next2:NT)(j1:NT)(R:RT)(E):=
 opK pG E (fA 41 x2 3) w fun i j=>
 oP E (lA 39 i) j fun k l=>
 oP E (xBuiltin .len #[39] 3 [false] [k]) l fun m n=>
 oP E (bN .lss 3 34 37 x5 m) n fun o c=>
 xcond o
 (dX c fun a=>
 qP pG (fA 41 x2 3) fun d=>
 qP pG (fA 41 x3 3) fun e=>
 qL pG a (blk d) (lA 39 d) fun p=>
 qP pG (iA 39 p x5) fun f=>
 qL pG a (blk f) (lA 41 f) fun q=>
 qL pG a (blk e) (lA 39 e) fun r=>
 qP pG (iA 39 r x5) fun g=>
 qL pG a (blk g) (lA 41 g) fun s=>
 oP E (xCall (fC 42) [q,s]) a fun t b=>
 keepX [] a b (qP pG (xV (Op.unary .not t)) fun u=>
 xcond u
 (R (vB false) b)
 (oP E (bC .add 3 39 x5 (vI 1)) b fun v y=>
 next2 [v] y)))
 (j1 [] c)
def F42(x0 x1 w)(R:RT)(E):=
 opK pG E (xV (Instr.box 41 x0)) w fun d g=>
 oP E (xV (Instr.box 41 x1)) g fun e i=>
 oP E (fA 41 d 0) i fun j k=>
 oP E (lA 3 j) k fun l m=>
 oP E (fA 41 e 0) m fun n o=>
 oP E (lA 3 n) o fun p q=>
 oP E (bN .neq 3 7 9 l p) q fun b r=>
 oP E (gNo b (fA 41 d 1)) r fun s t=>
 oP E (gNo b (lA 2 s)) t fun u v=>
 oP E (gNo b (fA 41 e 1)) v fun y z=>
 oP E (gNo b (lA 2 y)) z fun aa ab=>
 oP E (gNo b (bN .neq 2 13 15 u aa)) ab fun ac ad=>
 oP E (xPick b (vB true) ac) ad fun c ae=>
 oP E (gNo c (fA 41 d 2)) ae fun af ag=>
 oP E (gNo c (lA 9 af)) ag fun ah ai=>
 oP E (gNo c (fA 41 e 2)) ai fun aj ak=>
 oP E (gNo c (lA 9 aj)) ak fun al am=>
 oP E (gNo c (bN .neq 9 20 22 ah al)) am fun an ao=>
 oP E (xPick c (vB true) an) ao fun a ap=>
 oP E (gNo a (fA 41 d 3)) ap fun aq ar=>
 oP E (gNo a (lA 39 aq)) ar fun au av=>
 oP E (gNo a (xBuiltin .len #[39] 3 [false] [au])) av fun aw ax=>
 oP E (gNo a (fA 41 e 3)) ax fun ay az=>
 oP E (gNo a (lA 39 ay)) az fun ba bb=>
 oP E (gNo a (xBuiltin .len #[39] 3 [false] [ba])) bb fun bc bd=>
 oP E (gNo a (bN .neq 3 28 31 aw bc)) bd fun be bf=>
 oP E (xPick a (vB true) be) bf fun bg f=>
 xcond bg
 (R (vB false) f)
 (xcut (fun _ bh=>b1A bh R E) fun j1=>
 xloop [5] [(vI 0)] f fun bi bj next2=>
 b4W d e (bi 5) bj next2 j1 R E)
def h42:Hint:=(sQ (hS (sQ (hC (sQ hN) hN)) (hU [] (sQ (hB (hL [5] (hS (sQ (hC hN hN)) (hS (hB (hS (.reg [(0,2199023255552,4),(1,4398046511104,2199023255552),(0,8796093022208,32),(6,17592186044416,13194139533312),(8,35184372088832,17592186044416),(0,70368744177664,8),(32,140737488355328,70368744177664),(0,281474976710656,32),(192,562949953421312,422212465065984),(256,1125899906842624,562949953421312),(528,2251799813685248,1161084278931456),(1024,4503599627370496,2251799813685248)] [594,592,594,594,578,594,530,594,594,82,0,594] (.early 0 (.early 2 (.early 5 (.early 7 (.load 1 (.early 3 (.load 4 (.load 6 (.early 8 (.load 9 (.step 10 (.early 11 .done))))))))))))) (hC (sQ hN) hN))) hN))))) (sQ hN))))
theorem b8K{x0 x1:Value}(h:F42 x0 x1 w R E):Cv pG 42 #[x0,x1] w R E:=okF (h:=h42) Tryd.func42 (by kernel_rfl) (by kernel_rfl) h
def b1B(w)(R:RT)(_E:Pan):=
 ∀_τ:Fr,(R (vB true) w)
def b4X(x1 x2 x15 x16 x17 w)(next2:NT)(j1:NT)(R:RT)(E):=
 opK pG E (bN .lss 3 17 16 x17 x16) w fun e a=>
 xcond e
 (oP E (iA 39 x15 x17) a fun f g=>
 oP E (lA 41 f) g fun i j=>
 oP E (xV (Instr.alloc 41 true (.tuple #[]))) j fun b k=>
 oP E (sA 41 b i) k fun _ l=>
 oP E (iA 39 x1 x17) l fun m n=>
 oP E (lA 41 m) n fun o p=>
 oP E (xV (Instr.alloc 41 true (.tuple #[]))) p fun c q=>
 oP E (sA 41 c o) q fun _ r=>
 oP E (lA 41 b) r fun s t=>
 oP E (lA 41 c) t fun u v=>
 oP E (xCall x2 [s,u]) v fun y z=>
 oP E (xV (Op.unary .not y)) z fun aa d=>
 xcond aa
 (R (vB false) d)
 (oP E (bC .add 3 17 x17 (vI 1)) d fun ab ac=>
 next2 [ab] ac))
 (j1 [] a)
def F43(x0 x1 x2 w)(R:RT)(E):=
 opK pG E (xBuiltin .len #[39] 3 [false] [x0]) w fun b c=>
 oP E (xBuiltin .len #[39] 3 [false] [x1]) c fun d e=>
 oP E (bN .neq 3 11 13 b d) e fun f a=>
 xcond f
 (R (vB false) a)
 (xcut (fun _ g=>b1B g R E) fun j1=>
 oP E (xBuiltin .len #[39] 3 [false] [x0]) a fun i j=>
 xloop [17] [(vI 0)] j fun k l next2=>
 b4X x1 x2 x0 i (k 17) l next2 j1 R E)
def h43:Hint:=(sQ (hS (sQ (hC (sQ hN) hN)) (hU [] (sQ (hB (hL [17] (sQ (hS (hC hN hN) (hS (hB (sQ (sQ (sQ (hC (sQ hN) hN))))) hN)))))) (sQ hN))))
theorem b8L{x0 x1 x2:Value}(h:F43 x0 x1 x2 w R E):Cv pG 43 #[x0,x1,x2] w R E:=okF (h:=h43) Tryd.func43 (by kernel_rfl) (by kernel_rfl) h
def F44(x0 x1 w)(R:RT)(E):=
 opK pG E (xV (Instr.box 41 x0)) w fun d f=>
 oP E (xV (Instr.box 41 x1)) f fun e g=>
 oP E (fA 41 d 0) g fun i j=>
 oP E (lA 3 i) j fun k l=>
 oP E (fA 41 e 0) l fun m n=>
 oP E (lA 3 m) n fun o p=>
 oP E (bN .eql 3 6 8 k o) p fun a q=>
 oP E (gYs a (fA 41 d 1)) q fun r s=>
 oP E (gYs a (lA 2 r)) s fun t u=>
 oP E (gYs a (fA 41 e 1)) u fun v y=>
 oP E (gYs a (lA 2 v)) y fun z aa=>
 oP E (gYs a (bN .eql 2 12 14 t z)) aa fun ab ac=>
 oP E (xPick a ab (vB false)) ac fun b ad=>
 oP E (gYs b (fA 41 d 2)) ad fun ae af=>
 oP E (gYs b (lA 9 ae)) af fun ag ah=>
 oP E (gYs b (fA 41 e 2)) ah fun ai aj=>
 oP E (gYs b (lA 9 ai)) aj fun ak al=>
 oP E (gYs b (bN .eql 9 19 21 ag ak)) al fun am an=>
 oP E (xPick b am (vB false)) an fun c ao=>
 oP E (gYs c (fA 41 d 3)) ao fun ap aq=>
 oP E (gYs c (lA 39 ap)) aq fun ar au=>
 oP E (gYs c (fA 41 e 3)) au fun av aw=>
 oP E (gYs c (lA 39 av)) aw fun ax ay=>
 oP E (gYs c (xCall (fC 43) [ar,ax,(fC 44)])) ay fun az ba=>
 oP E (xPick c az (vB false)) ba fun bb bc=>
 R bb bc
def h44:Hint:=(sQ (sQ hN))
theorem b8M{x0 x1:Value}(h:F44 x0 x1 w R E):Cv pG 44 #[x0,x1] w R E:=okF (h:=h44) Tryd.func44 (by kernel_rfl) (by kernel_rfl) h
def b1C(w)(R:RT)(_E:Pan):=
 ∀_τ:Fr,(R (vB true) w)
def b4Y(x1 x2 x15 x16 x17 w)(next2:NT)(j1:NT)(R:RT)(E):=
 opK pG E (bN .lss 3 17 16 x17 x16) w fun e a=>
 xcond e
 (oP E (iA 47 x15 x17) a fun f g=>
 oP E (lA 77 f) g fun i j=>
 oP E (xV (Instr.alloc 77 true (.tuple #[]))) j fun b k=>
 oP E (sA 77 b i) k fun _ l=>
 oP E (iA 47 x1 x17) l fun m n=>
 oP E (lA 77 m) n fun o p=>
 oP E (xV (Instr.alloc 77 true (.tuple #[]))) p fun c q=>
 oP E (sA 77 c o) q fun _ r=>
 oP E (lA 77 b) r fun s t=>
 oP E (lA 77 c) t fun u v=>
 oP E (xCall x2 [s,u]) v fun y z=>
 oP E (xV (Op.unary .not y)) z fun aa d=>
 xcond aa
 (R (vB false) d)
 (oP E (bC .add 3 17 x17 (vI 1)) d fun ab ac=>
 next2 [ab] ac))
 (j1 [] a)
def F45(x0 x1 x2 w)(R:RT)(E):=
 opK pG E (xBuiltin .len #[47] 3 [false] [x0]) w fun b c=>
 oP E (xBuiltin .len #[47] 3 [false] [x1]) c fun d e=>
 oP E (bN .neq 3 11 13 b d) e fun f a=>
 xcond f
 (R (vB false) a)
 (xcut (fun _ g=>b1C g R E) fun j1=>
 oP E (xBuiltin .len #[47] 3 [false] [x0]) a fun i j=>
 xloop [17] [(vI 0)] j fun k l next2=>
 b4Y x1 x2 x0 i (k 17) l next2 j1 R E)
def h45:Hint:=(sQ (hS (sQ (hC (sQ hN) hN)) (hU [] (sQ (hB (hL [17] (sQ (hS (hC hN hN) (hS (hB (sQ (sQ (sQ (hC (sQ hN) hN))))) hN)))))) (sQ hN))))
theorem b8N{x0 x1 x2:Value}(h:F45 x0 x1 x2 w R E):Cv pG 45 #[x0,x1,x2] w R E:=okF (h:=h45) Tryd.func45 (by kernel_rfl) (by kernel_rfl) h
def F46(x0 x1 w)(R:RT)(E):=
 opK pG E (xV (Instr.box 77 x0)) w fun d f=>
 oP E (xV (Instr.box 77 x1)) f fun e g=>
 oP E (fA 77 d 0) g fun i j=>
 oP E (lA 3 i) j fun k l=>
 oP E (fA 77 e 0) l fun m n=>
 oP E (lA 3 m) n fun o p=>
 oP E (bN .eql 3 6 8 k o) p fun a q=>
 oP E (gYs a (fA 77 d 1)) q fun r s=>
 oP E (gYs a (lA 3 r)) s fun t u=>
 oP E (gYs a (fA 77 e 1)) u fun v y=>
 oP E (gYs a (lA 3 v)) y fun z aa=>
 oP E (gYs a (bN .eql 3 12 14 t z)) aa fun ab ac=>
 oP E (xPick a ab (vB false)) ac fun b ad=>
 oP E (gYs b (fA 77 d 2)) ad fun ae af=>
 oP E (gYs b (lA 39 ae)) af fun ag ah=>
 oP E (gYs b (fA 77 e 2)) ah fun ai aj=>
 oP E (gYs b (lA 39 ai)) aj fun ak al=>
 oP E (gYs b (xCall (fC 43) [ag,ak,(fC 44)])) al fun am an=>
 oP E (xPick b am (vB false)) an fun c ao=>
 oP E (gYs c (fA 77 d 3)) ao fun ap aq=>
 oP E (gYs c (lA 47 ap)) aq fun ar au=>
 oP E (gYs c (fA 77 e 3)) au fun av aw=>
 oP E (gYs c (lA 47 av)) aw fun ax ay=>
 oP E (gYs c (xCall (fC 45) [ar,ax,(fC 46)])) ay fun az ba=>
 oP E (xPick c az (vB false)) ba fun bb bc=>
 R bb bc
def h46:Hint:=(sQ (sQ hN))
theorem b8O{x0 x1:Value}(h:F46 x0 x1 w R E):Cv pG 46 #[x0,x1] w R E:=okF (h:=h46) Tryd.func46 (by kernel_rfl) (by kernel_rfl) h
def b1D(x2 x3 w)(R:RT)(E):=
 ∀_τ:Fr,(oP E (lA 77 x3) w fun b c=>
 oP E (sA 77 x2 b) c fun _ a=>
 xcell pG 77 x2 a fun d=>
 R d a)
def b4Z(x1 _x2 x3 x5:Value)(w)(next3:NT)(j2:NT)(_R:RT)(E):=
 opK pG E (fA 77 x1 3) w fun k l=>
 oP E (lA 47 k) l fun m n=>
 oP E (xBuiltin .len #[47] 3 [false] [m]) n fun o p=>
 oP E (bN .lss 3 29 32 x5 o) p fun q f=>
 xcond q
 (dX f fun a=>
 qP pG (fA 77 x3 3) fun b=>
 qP pG (fA 77 x1 3) fun g=>
 qL pG a (blk b) (lA 47 b) fun r=>
 qL pG a (blk g) (lA 47 g) fun s=>
 qP pG (iA 47 s x5) fun i=>
 qL pG a (blk i) (lA 77 i) fun t=>
 oP E (xCall (fC 47) [t]) a fun u c=>
 keepX [(blk b)] a c (opK pG E (xV (Instr.buildSlice 47 1 #[(0,u)])) c fun v d=>
 keepX [(blk b)] c d (opK pG E (xBuiltin .append #[47,47] 47 [false,false] [r,v]) d fun y e=>
 keepX [] d e (qP pG (fA 77 x3 3) fun z=>
 oP E (sA 47 z y) e fun _ j=>
 keepX [] e j (opK pG E (bC .add 3 34 x5 (vI 1)) j fun aa ab=>
 next3 [aa] ab)))))
 (j2 [] f)
def b1E(x1 x2 x3 w)(R:RT)(E):=
 ∀_τ:Fr,(xcut (fun _ a=>b1D x2 x3 a R E) fun j2=>
 xloop [5] [(vI 0)] w fun b c next3=>
 b4Z x1 x2 x3 (b 5) c next3 j2 R E)
def b5a(x1 _x2 x3 x4:Value)(w)(next4:NT)(j1:NT)(_R:RT)(E):=
 opK pG E (fA 77 x1 2) w fun k l=>
 oP E (lA 39 k) l fun m n=>
 oP E (xBuiltin .len #[39] 3 [false] [m]) n fun o p=>
 oP E (bN .lss 3 11 14 x4 o) p fun q f=>
 xcond q
 (dX f fun a=>
 qP pG (fA 77 x3 2) fun b=>
 qP pG (fA 77 x1 2) fun g=>
 qL pG a (blk b) (lA 39 b) fun r=>
 qL pG a (blk g) (lA 39 g) fun s=>
 qP pG (iA 39 s x4) fun i=>
 qL pG a (blk i) (lA 41 i) fun t=>
 oP E (xCall (fC 48) [t]) a fun u c=>
 keepX [(blk b)] a c (opK pG E (xV (Instr.buildSlice 39 1 #[(0,u)])) c fun v d=>
 keepX [(blk b)] c d (opK pG E (xBuiltin .append #[39,39] 39 [false,false] [r,v]) d fun y e=>
 keepX [] d e (qP pG (fA 77 x3 2) fun z=>
 oP E (sA 39 z y) e fun _ j=>
 keepX [] e j (opK pG E (bC .add 3 16 x4 (vI 1)) j fun aa ab=>
 next4 [aa] ab)))))
 (j1 [] f)
def F47(x0 w)(R:RT)(E):=
 opK pG E (xV (Instr.box 77 x0)) w fun a d=>
 oP E (xV (Instr.alloc 77 true (.tuple #[]))) d fun c e=>
 oP E (fA 77 a 0) e fun f g=>
 oP E (lA 3 f) g fun i j=>
 oP E (fA 77 a 1) j fun k l=>
 oP E (lA 3 k) l fun m n=>
 oP E (xV (Instr.build 77 #[(0,i),(1,m)])) n fun o p=>
 oP E (xV (Instr.alloc 77 true (.tuple #[]))) p fun b q=>
 oP E (sA 77 b o) q fun _ r=>
 xcut (fun _ s=>b1E a c b s R E) fun j1=>
 xloop [4] [(vI 0)] r fun t u next4=>
 b5a a c b (t 4) u next4 j1 R E
def h47:Hint:=(sQ (sQ (hU [] (sQ (hB (hL [4] (hS (sQ (hC hN hN)) (hS (hB (.reg [(0,262144,8),(1,524288,262144),(0,1048576,2),(4,2097152,1048576),(0,4194304,16),(24,8388608,6291456),(32,16777216,8388608),(64,33554432,16777216),(128,67108864,33554432),(386,134217728,67633152),(1023,268435456,8),(2047,0,402653184)] [74,72,74,66,74,74,10,2,2,0,74,0] (.early 0 (.early 2 (.early 4 (.load 1 (.load 3 (.early 5 (.load 6 (.step 7 (.step 8 (.step 9 (.early 10 (.step 11 .done)))))))))))))) hN))))) (hU [] (sQ (hB (hL [5] (hS (sQ (hC hN hN)) (hS (hB (.reg [(0,68719476736,8),(1,137438953472,68719476736),(0,274877906944,2),(4,549755813888,274877906944),(0,1099511627776,32),(24,2199023255552,1649267441664),(32,4398046511104,2199023255552),(64,8796093022208,4398046511104),(128,17592186044416,8796093022208),(386,35184372088832,17729624997888),(1023,70368744177664,8),(2047,0,105553116266496)] [74,72,74,66,74,74,10,2,2,0,74,0] (.early 0 (.early 2 (.early 4 (.load 1 (.load 3 (.early 5 (.load 6 (.step 7 (.step 8 (.step 9 (.early 10 (.step 11 .done)))))))))))))) hN))))) (sQ hN)))))
theorem b8P{x0:Value}(h:F47 x0 w R E):Cv pG 47 #[x0] w R E:=okF (h:=h47) Tryd.func47 (by kernel_rfl) (by kernel_rfl) h
def b1F(x2 x3 w)(R:RT)(E):=
 ∀_τ:Fr,(oP E (lA 41 x3) w fun b c=>
 oP E (sA 41 x2 b) c fun _ a=>
 xcell pG 41 x2 a fun d=>
 R d a)
def b5b(x1 _x2 x3 x4:Value)(w)(next2:NT)(j1:NT)(_R:RT)(E):=
 opK pG E (fA 41 x1 3) w fun k l=>
 oP E (lA 39 k) l fun m n=>
 oP E (xBuiltin .len #[39] 3 [false] [m]) n fun o p=>
 oP E (bN .lss 3 12 15 x4 o) p fun q f=>
 xcond q
 (dX f fun a=>
 qP pG (fA 41 x3 3) fun b=>
 qP pG (fA 41 x1 3) fun g=>
 qL pG a (blk b) (lA 39 b) fun r=>
 qL pG a (blk g) (lA 39 g) fun s=>
 qP pG (iA 39 s x4) fun i=>
 qL pG a (blk i) (lA 41 i) fun t=>
 oP E (xCall (fC 48) [t]) a fun u c=>
 keepX [(blk b)] a c (opK pG E (xV (Instr.buildSlice 39 1 #[(0,u)])) c fun v d=>
 keepX [(blk b)] c d (opK pG E (xBuiltin .append #[39,39] 39 [false,false] [r,v]) d fun y e=>
 keepX [] d e (qP pG (fA 41 x3 3) fun z=>
 oP E (sA 39 z y) e fun _ j=>
 keepX [] e j (opK pG E (bC .add 3 17 x4 (vI 1)) j fun aa ab=>
 next2 [aa] ab)))))
 (j1 [] f)
def F48(x0 w)(R:RT)(E):=
 opK pG E (xV (Instr.box 41 x0)) w fun a d=>
 oP E (xV (Instr.alloc 41 true (.tuple #[]))) d fun c e=>
 oP E (fA 41 a 0) e fun f g=>
 oP E (lA 3 f) g fun i j=>
 oP E (fA 41 a 1) j fun k l=>
 oP E (lA 2 k) l fun m n=>
 oP E (fA 41 a 2) n fun o p=>
 oP E (lA 9 o) p fun q r=>
 oP E (xV (Instr.build 41 #[(0,i),(1,m),(2,q)])) r fun s t=>
 oP E (xV (Instr.alloc 41 true (.tuple #[]))) t fun b u=>
 oP E (sA 41 b s) u fun _ v=>
 xcut (fun _ y=>b1F c b y R E) fun j1=>
 xloop [4] [(vI 0)] v fun z aa next2=>
 b5b a c b (z 4) aa next2 j1 R E
def h48:Hint:=(sQ (sQ (hU [] (sQ (hB (hL [4] (hS (sQ (hC hN hN)) (hS (hB (.reg [(0,524288,8),(1,1048576,524288),(0,2097152,2),(4,4194304,2097152),(0,8388608,16),(24,16777216,12582912),(32,33554432,16777216),(64,67108864,33554432),(128,134217728,67108864),(386,268435456,135266304),(1023,536870912,8),(2047,0,805306368)] [74,72,74,66,74,74,10,2,2,0,74,0] (.early 0 (.early 2 (.early 4 (.load 1 (.load 3 (.early 5 (.load 6 (.step 7 (.step 8 (.step 9 (.early 10 (.step 11 .done)))))))))))))) hN))))) (sQ hN))))
theorem b8Q{x0:Value}(h:F48 x0 w R E):Cv pG 48 #[x0] w R E:=okF (h:=h48) Tryd.func48 (by kernel_rfl) (by kernel_rfl) h
def b1G(x6 w)(R:RT)(_E:Pan):=
 ∀_τ:Fr,(R x6 w)
def b5c(x6 x25 x26 x27 w)(next3:NT)(j2:NT)(_R:RT)(E):=
 opK pG E (bN .lss 3 27 26 x27 x26) w fun b a=>
 xcond b
 (oP E (iA 105 x25 x27) a fun c d=>
 oP E (lA 72 c) d fun e f=>
 oP E (xBuiltin .append #[72,72] 72 [false,false] [x6,e]) f fun g i=>
 oP E (bC .add 3 27 x27 (vI 1)) i fun j k=>
 next3 [g,j] k)
 (j2 [x6] a)
def b1H(x0 x3 w)(R:RT)(E):=
 ∀_τ:Fr,(oP E (xCall (fC 61) [(nS),x3]) w fun b c=>
 xcut (fun d e=>b1G (nth d 0) e R E) fun j2=>
 oP E (xBuiltin .len #[105] 3 [false] [x0]) c fun f g=>
 xloop [6,27] [b,(vI 0)] g fun a i next3=>
 b5c (a 6) x0 f (a 27) i next3 j2 R E)
def b1I(_x0 x3 _x9 _x10 x11:Value)(w)(next4:NT)(_R:RT)(E):=
 ∀_τ:Fr,(oP E (bC .add 3 11 x11 (vI 1)) w fun a b=>
 next4 [x3,a] b)
def b5d(x0 x3 x9 x10 x11 w)(next4:NT)(j1:NT)(R:RT)(E):=
 opK pG E (bN .lss 3 11 10 x11 x10) w fun d b=>
 xcond d
 (xcut (fun e f=>b1I x0 (nth e 0) x9 x10 x11 f next4 R E) fun j5=>
 oP E (iA 105 x9 x11) b fun g i=>
 oP E (lA 72 g) i fun j k=>
 oP E (xBuiltin .len #[72] 3 [false] [j]) k fun l m=>
 oP E (bN .add 3 15 17 x3 l) m fun a n=>
 oP E (bC .lss 3 19 a (vI 0)) n fun o c=>
 xcond o
 (oP E (xV (Instr.makeInterface 9 (Value.string ⟨#[108,101,110,32,111,117,116,32,111,102,32,114,97,110,103,101]⟩))) c fun p q=>
 oP E (xV (Instr.panic p)) q fun _ r=>
 j5 [a] r)
 (j5 [a] c))
 (j1 [x3] b)
def F49(x0 w)(R:RT)(E):=
 xcut (fun b c=>b1H x0 (nth b 0) c R E) fun j1=>
 oP E (xBuiltin .len #[105] 3 [false] [x0]) w fun d e=>
 xloop [3,11] [(vI 0),(vI 0)] e fun a f next4=>
 b5d x0 (a 3) x0 d (a 11) f next4 j1 R E
def h49:Hint:=(sQ (sQ (hU [3] (sQ (hB (hL [3,11] (sQ (hS (hC hN hN) (hU [3] (hB (sQ (sQ (sQ (hC hN hN))))) hN)))))) (sQ (hU [6] (sQ (hB (hL [6,27] (sQ (hS (hC hN hN) (hS (hB (sQ hN)) hN)))))) (sQ hN))))))
theorem b8R{x0:Value}(h:F49 x0 w R E):Cv pG 49 #[x0] w R E:=okF (h:=h49) Tryd.func49 (by kernel_rfl) (by kernel_rfl) h
def b1J(x5 w)(R:RT)(_E:Pan):=
 ∀_τ:Fr,(R x5 w)
def b5e(x1 x5 x8 x9 x10 w)(next2:NT)(j1:NT)(_R:RT)(E):=
 opK pG E (bN .lss 3 10 9 x10 x9) w fun c a=>
 xcond c
 (oP E (iA 22 x8 x10) a fun d e=>
 oP E (lA 45 d) e fun f g=>
 oP E (xV (Instr.alloc 45 true (.tuple #[]))) g fun b i=>
 oP E (sA 45 b f) i fun _ j=>
 oP E (lA 45 b) j fun k l=>
 oP E (xCall x1 [k]) l fun m n=>
 oP E (xV (Instr.buildSlice 72 1 #[(0,m)])) n fun o p=>
 oP E (xBuiltin .append #[72,72] 72 [false,false] [x5,o]) p fun q r=>
 oP E (bC .add 3 10 x10 (vI 1)) r fun s t=>
 next2 [q,s] t)
 (j1 [x5] a)
def F50(x0 x1 w)(R:RT)(E):=
 xcut (fun b c=>b1J (nth b 0) c R E) fun j1=>
 oP E (xBuiltin .len #[22] 3 [false] [x0]) w fun d e=>
 xloop [5,10] [(nS),(vI 0)] e fun a f next2=>
 b5e x1 (a 5) x0 d (a 10) f next2 j1 R E
def h50:Hint:=(sQ (sQ (hU [5] (sQ (hB (hL [5,10] (sQ (hS (hC hN hN) (hS (hB (sQ hN)) hN)))))) (sQ hN))))
theorem b8S{x0 x1:Value}(h:F50 x0 x1 w R E):Cv pG 50 #[x0,x1] w R E:=okF (h:=h50) Tryd.func50 (by kernel_rfl) (by kernel_rfl) h
def F51(x0 w)(R:RT)(E):=
 opK pG E (xV (Instr.box 45 x0)) w fun a b=>
 oP E (lA 45 a) b fun c d=>
 oP E (xV (Instr.build 108 #[(0,c)])) d fun e f=>
 oP E (xV (Instr.makeInterface 108 e)) f fun g i=>
 R g i
def h51:Hint:=(sQ (sQ hN))
theorem b8T{x0:Value}(h:F51 x0 w R E):Cv pG 51 #[x0] w R E:=okF (h:=h51) Tryd.func51 (by kernel_rfl) (by kernel_rfl) h
def b1K(x5 w)(R:RT)(_E:Pan):=
 ∀_τ:Fr,(R x5 w)
def b5f(x1 x5 x8 x9 x10 w)(next2:NT)(j1:NT)(_R:RT)(E):=
 opK pG E (bN .lss 3 10 9 x10 x9) w fun c a=>
 xcond c
 (oP E (iA 23 x8 x10) a fun d e=>
 oP E (lA 49 d) e fun f g=>
 oP E (xV (Instr.alloc 49 true (.tuple #[]))) g fun b i=>
 oP E (sA 49 b f) i fun _ j=>
 oP E (lA 49 b) j fun k l=>
 oP E (xCall x1 [k]) l fun m n=>
 oP E (xV (Instr.buildSlice 72 1 #[(0,m)])) n fun o p=>
 oP E (xBuiltin .append #[72,72] 72 [false,false] [x5,o]) p fun q r=>
 oP E (bC .add 3 10 x10 (vI 1)) r fun s t=>
 next2 [q,s] t)
 (j1 [x5] a)
def F52(x0 x1 w)(R:RT)(E):=
 xcut (fun b c=>b1K (nth b 0) c R E) fun j1=>
 oP E (xBuiltin .len #[23] 3 [false] [x0]) w fun d e=>
 xloop [5,10] [(nS),(vI 0)] e fun a f next2=>
 b5f x1 (a 5) x0 d (a 10) f next2 j1 R E
def h52:Hint:=(sQ (sQ (hU [5] (sQ (hB (hL [5,10] (sQ (hS (hC hN hN) (hS (hB (sQ hN)) hN)))))) (sQ hN))))
theorem b8U{x0 x1:Value}(h:F52 x0 x1 w R E):Cv pG 52 #[x0,x1] w R E:=okF (h:=h52) Tryd.func52 (by kernel_rfl) (by kernel_rfl) h
def F53(x0 w)(R:RT)(E):=
 opK pG E (xV (Instr.box 49 x0)) w fun a b=>
 oP E (lA 49 a) b fun c d=>
 oP E (xV (Instr.build 110 #[(0,c)])) d fun e f=>
 oP E (xV (Instr.makeInterface 110 e)) f fun g i=>
 R g i
def h53:Hint:=(sQ (sQ hN))
theorem b8V{x0:Value}(h:F53 x0 w R E):Cv pG 53 #[x0] w R E:=okF (h:=h53) Tryd.func53 (by kernel_rfl) (by kernel_rfl) h
def b1L(w)(R:RT)(_E:Pan):=
 ∀_τ:Fr,(R (vB true) w)
def b5g(x1 x2 x3 x9 x10 x11 w)(next2:NT)(j1:NT)(R:RT)(E):=
 opK pG E (bN .lss 3 11 10 x11 x10) w fun i f=>
 xcond i
 (oP E (iA 72 x9 x11) f fun j k=>
 oP E (lA 91 j) k fun g l=>
 dX l fun c=>
 qL pG c (blk x2) (lA 64 x2) fun m=>
 oP E (xCall (fC 55) [m,g,x1]) c fun n b=>
 keepX [] c b (qP pG (xV (Op.unary .not n)) fun a=>
 qP pG (gNo a (bC .add 3 24 (zF a x1) (vI 1))) fun o=>
 qL pG b (blk x3) (gNo a (lA 96 x3)) fun p=>
 oP E (gNo a (xInvoke (zF a g) "gnomon/tree.parts" [])) b fun q d =>
 keepX [(blk x3)] b d (opK pG E (gNo a (xCall p [q,o])) d fun r e=>
 keepX [] d e (qP pG (gNo a (xV (Op.unary .not r))) fun s=>
 qP pG (xPick a (vB true) s) fun t=>
 xcond t
 (R (vB false) e)
 (oP E (bC .add 3 11 x11 (vI 1)) e fun u v=>
 next2 [u] v)))))
 (j1 [] f)
def F54(x0 x1 x2 x3 w)(R:RT)(E):=
 xcut (fun _ a=>b1L a R E) fun j1=>
 oP E (xBuiltin .len #[72] 3 [false] [x0]) w fun b c=>
 xloop [11] [(vI 0)] c fun d e next2=>
 b5g x1 x2 x3 x0 b (d 11) e next2 j1 R E
def h54:Hint:=(sQ (hU [] (sQ (hB (hL [11] (sQ (hS (hC hN hN) (hS (hB (sQ (hS (.reg [(0,32768,4),(0,65536,256),(0,131072,2),(7,262144,229376),(8,524288,262144),(24,1048576,524288),(32,2097152,1048584),(32,4194304,1048832),(160,8388608,5242880),(32,16777216,1048578),(544,33554432,17825792),(1376,67108864,45088768),(2080,134217728,68157440),(4128,268435456,135266304)] [64,65,65,0,65,65,1,65,64,65,65,0,65,65] (.early 1 (.early 2 (.load 0 (.step 3 (.early 4 (.early 5 (.early 7 (.early 9 (.early 10 (.load 6 (.step 8 (.step 11 (.early 12 (.early 13 .done))))))))))))))) (hC (sQ hN) hN)))) hN)))))) (sQ hN)))
theorem b8W{x0 x1 x2 x3:Value}(h:F54 x0 x1 x2 x3 w R E):Cv pG 54 #[x0,x1,x2,x3] w R E:=okF (h:=h54) Tryd.func54 (by kernel_rfl) (by kernel_rfl) h
def b1M(w)(R:RT)(_E:Pan):=
 ∀_τ:Fr,(R (vB true) w)
def F55(x0 x1 x2 w)(R:RT)(E):=
 opK pG E (xNil x0) w fun j k=>
 oP E (fA 68 j 0) k fun l m=>
 oP E (lA 3 l) m fun n o=>
 oP E (bC .add 3 12 n (vI 1)) o fun p q=>
 oP E (xNil x0) q fun r s=>
 oP E (fA 68 r 0) s fun t u=>
 oP E (sA 3 t p) u fun _ v=>
 oP E (xNil x0) v fun y z=>
 oP E (fA 68 y 0) z fun aa ab=>
 oP E (lA 3 aa) ab fun ac ad=>
 oP E (bC .gtr 3 19 ac (vI 4096)) ad fun ae d=>
 xcond ae
 (oP E (xNil x0) d fun af ag=>
 oP E (fA 68 af 2) ag fun ah ai=>
 oP E (sA 27 ah (vI 33)) ai fun _ aj=>
 R (vB false) aj)
 (oP E (bC .gtr 3 24 x2 (vI 64)) d fun ak e=>
 xcond ak
 (oP E (xNil x0) e fun al am=>
 oP E (fA 68 al 2) am fun an ao=>
 oP E (sA 27 an (vI 32)) ao fun _ ap=>
 R (vB false) ap)
 (oP E (xNil x0) e fun aq ar=>
 oP E (fA 68 aq 1) ar fun au av=>
 oP E (lA 3 au) av fun aw ax=>
 oP E (xBuiltin .max #[3,3] 3 [false,false] [aw,x2]) ax fun ay az=>
 oP E (xNil x0) az fun ba bb=>
 oP E (fA 68 ba 1) bb fun bc bd=>
 oP E (sA 3 bc ay) bd fun _ be=>
 oP E (xNil x0) be fun bf bg=>
 oP E (fA 68 bf 3) bg fun bh bi=>
 oP E (lA 4 bh) bi fun a bj=>
 oP E (gNo a (xInvoke (zF a x1) "gnomon/tree.form" [])) bj fun bk bl =>
 oP E (gNo a (xV (Op.unary .not bk))) bl fun bm bn=>
 oP E (xPick a (vB true) bm) bn fun bo bp=>
 oP E (xNil x0) bp fun bq br=>
 oP E (fA 68 bq 3) br fun bs bt=>
 oP E (sA 4 bs bo) bt fun _ bu=>
 xcut (fun _ bv=>b1M bv R E) fun j1=>
 oP E (xCall (fC 62) [x1]) bu fun f bw=>
 oP E (xT f 0) bw fun c bz=>
 oP E (xT f 1) bz fun ca g=>
 xcond ca
 (oP E (xNil x0) g fun cb cc=>
 oP E (fA 68 cb 4) cc fun cd ce=>
 oP E (lA 4 cd) ce fun b cf=>
 oP E (gNo b (xCall (fC 63) [(zF b c)])) cf fun cg ch=>
 oP E (gNo b (xV (Op.unary .not cg))) ch fun ci cj=>
 oP E (xPick b (vB true) ci) cj fun ck cl=>
 oP E (xNil x0) cl fun cm cn=>
 oP E (fA 68 cm 4) cn fun co cp=>
 oP E (sA 4 co ck) cp fun _ cq=>
 oP E (xNil x0) cq fun cr cs=>
 oP E (fA 68 cr 5) cs fun ct cu=>
 oP E (lA 66 ct) cu fun cv cw=>
 oP E (xCall (fC 64) [cv,c]) cw fun cx cy=>
 oP E (xV (Op.unary .not cx)) cy fun cz i=>
 xcond cz
 (oP E (xNil x0) i fun da db=>
 oP E (fA 68 da 5) db fun dc dd=>
 oP E (lA 66 dc) dd fun de df=>
 oP E (xV (Instr.buildSlice 66 1 #[(0,c)])) df fun dg dh=>
 oP E (xBuiltin .append #[66,66] 66 [false,false] [de,dg]) dh fun di dj=>
 oP E (xNil x0) dj fun dk dl=>
 oP E (fA 68 dk 5) dl fun dm dn=>
 oP E (sA 66 dm di) dn fun _ dp=>
 j1 [] dp)
 (j1 [] i))
 (j1 [] g)))
def h55:Hint:=(sQ (hS (sQ (sQ (hC (sQ (sQ hN)) hN))) (hS (sQ (hC (sQ (sQ hN)) hN)) (sQ (sQ (hU [] (sQ (sQ (hC (sQ (sQ (hC hN hN))) hN))) (sQ hN)))))))
theorem b8X{x0 x1 x2:Value}(h:F55 x0 x1 x2 w R E):Cv pG 55 #[x0,x1,x2] w R E:=okF (h:=h55) Tryd.func55 (by kernel_rfl) (by kernel_rfl) h
def b5h(x0 x2 x4 x7 w)(next2:NT)(R:RT)(E):=
 opK pG E (fA 77 x4 3) w fun c d=>
 oP E (lA 47 c) d fun e f=>
 oP E (xBuiltin .len #[47] 3 [false] [e]) f fun g i=>
 oP E (bN .lss 3 35 38 x7 g) i fun a j=>
 oP E (gYs a (xNil (zT a x0))) j fun k l=>
 oP E (gYs a (fA 52 k 2)) l fun m n=>
 oP E (gYs a (lA 3 m)) n fun o p=>
 oP E (gYs a (bC .eql 3 44 o (vI 0))) p fun q r=>
 oP E (xPick a q (vB false)) r fun s b=>
 xcond s
 (oP E (fA 77 x4 3) b fun t u=>
 oP E (lA 47 t) u fun v y=>
 oP E (iA 47 v x7) y fun z aa=>
 oP E (lA 77 z) aa fun ab ac=>
 oP E (bC .add 3 55 x2 (vI 1)) ac fun ad ae=>
 oP E (xCall (fC 56) [x0,ab,ad]) ae fun _t57_35 af=>
 oP E (bC .add 3 47 x7 (vI 1)) af fun ag ah=>
 next2 [ag] ah)
 (R (Value.tuple #[]) b)
def b1N(x0 x2 x4 w)(R:RT)(E):=
 ∀_τ:Fr,(xloop [7] [(vI 0)] w fun a b next2=>
 b5h x0 x2 x4 (a 7) b next2 R E)
def b5i(x0 x2 x4 x6 w)(next3:NT)(j1:NT)(_R:RT)(E):=
 opK pG E (fA 77 x4 2) w fun c d=>
 oP E (lA 39 c) d fun e f=>
 oP E (xBuiltin .len #[39] 3 [false] [e]) f fun g i=>
 oP E (bN .lss 3 12 15 x6 g) i fun a j=>
 oP E (gYs a (xNil (zT a x0))) j fun k l=>
 oP E (gYs a (fA 52 k 2)) l fun m n=>
 oP E (gYs a (lA 3 m)) n fun o p=>
 oP E (gYs a (bC .eql 3 21 o (vI 0))) p fun q r=>
 oP E (xPick a q (vB false)) r fun s b=>
 xcond s
 (oP E (fA 77 x4 2) b fun t u=>
 oP E (lA 39 t) u fun v y=>
 oP E (iA 39 v x6) y fun z aa=>
 oP E (lA 41 z) aa fun ab ac=>
 oP E (bC .add 3 32 x2 (vI 1)) ac fun ad ae=>
 oP E (xCall (fC 57) [x0,ab,ad]) ae fun _t34_71 af=>
 oP E (bC .add 3 24 x6 (vI 1)) af fun ag ah=>
 next3 [ag] ah)
 (j1 [] b)
def F56(x0 x1 x2 w)(R:RT)(E):=
 opK pG E (xV (Instr.box 77 x1)) w fun a c=>
 oP E (xCall (fC 36) [x0,x2]) c fun d e=>
 oP E (xV (Op.unary .not d)) e fun f b=>
 xcond f
 (R (Value.tuple #[]) b)
 (xcut (fun _ g=>b1N x0 x2 a g R E) fun j1=>
 xloop [6] [(vI 0)] b fun i j next3=>
 b5i x0 x2 a (i 6) j next3 j1 R E)
def h56:Hint:=(sQ (hS (sQ (hC hN hN)) (hU [] (sQ (hB (hL [6] (hS (sQ (hC hN hN)) (hS (hB hN) hN))))) (sQ (hB (hL [7] (hS (sQ (hC hN hN)) (hS (hB hN) hN))))))))
theorem b8Y{x0 x1 x2:Value}(h:F56 x0 x1 x2 w R E):Cv pG 56 #[x0,x1,x2] w R E:=okF (h:=h56) Tryd.func56 (by kernel_rfl) (by kernel_rfl) h
end Go.Proofs.YtpgelfheccpejaaDoor
