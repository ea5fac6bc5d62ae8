/- The second reading of some of the program's functions, printed by gen2.py off the code; each is held against the code by the kernel. -/
import Derived.KernelRfl
import Derived.Test.YtoflkliecagjcaaGreatDooryBGz
namespace Go.Proofs.YtoflkliecagjcaaGreatDoor
open Go.RowKit
set_option maxRecDepth 100000
variable {w:World}{R:RT}{E:Pan}
def c7n(x1 w)(R:RT)(E):=
 ∀_τ:Fr,(oP E (xCall (fC 6) [x1]) w fun c o=>
 oP E (xT c 0) o fun p q=>
 oP E (xT c 1) q fun r s=>
 oP E (xT c 2) s fun t u=>
 oP E (xV (Instr.alloc 25 true (.tuple #[]))) u fun d v=>
 oP E (xV (Instr.alloc 31 true (.tuple #[]))) v fun y z=>
 oP E (sA 25 d p) z fun _ aa=>
 oP E (sA 31 y r) aa fun _ ab=>
 oP E (bC .neq 27 50 t (vI 0)) ab fun ac i=>
 xcond ac
 (R (vB true) i)
 (oP E (lA 25 d) i fun ad ae=>
 oP E (xCall (fC 5) [ad]) ae fun j af=>
 oP E (xT j 0) af fun k ag=>
 oP E (xT j 1) ag fun l ah=>
 oP E (bC .neq 27 57 l (vI 0)) ah fun ai m=>
 xcond ai
 (oP E (bC .eql 27 59 l (vI 50)) m fun aj ak=>
 R aj ak)
 (oP E (xCall (fC 6) [k]) m fun e al=>
 oP E (xT e 0) al fun am an=>
 oP E (xT e 1) an fun ao ap=>
 oP E (xT e 2) ap fun aq ar=>
 oP E (xV (Instr.alloc 25 true (.tuple #[]))) ar fun f au=>
 oP E (xV (Instr.alloc 31 true (.tuple #[]))) au fun av aw=>
 oP E (sA 25 f am) aw fun _ ax=>
 oP E (sA 31 av ao) ax fun _ ay=>
 oP E (lA 25 f) ay fun az ba=>
 oP E (xCall (fC 5) [az]) ba fun n bb=>
 oP E (xT n 0) bb fun bc bd=>
 oP E (xT n 1) bd fun be bf=>
 oP E (bC .eql 27 72 aq (vI 0)) bf fun g bg=>
 oP E (gYs g (bC .eql 27 75 (zT g be) (vI 0))) bg fun bh bi=>
 oP E (xPick g bh (vB false)) bi fun a bj=>
 oP E (gYs a (lA 25 d)) bj fun bk bl=>
 oP E (gYs a (lA 25 f)) bl fun bm bn=>
 oP E (gYs a (xCall (fC 7) [bk,bm])) bn fun bo bp=>
 oP E (xPick a bo (vB false)) bp fun b bq=>
 oP E (gYs b (bN .eql 9 84 85 (zT b k) (zT b bc))) bq fun br bs=>
 oP E (xPick b br (vB false)) bs fun bt bu=>
 R bt bu)))
def F3(x0 x1 w)(R:RT)(E):=
 opK pG E (xV (Instr.box 25 x0)) w fun d l=>
 oP E (xCall (fC 4) []) l fun m n=>
 oP E (xV (Op.unary .not m)) n fun o e=>
 xcond o
 (R (vB false) e)
 (oP E (lA 25 d) e fun p q=>
 oP E (xCall (fC 5) [p]) q fun f r=>
 oP E (xT f 0) r fun s t=>
 oP E (xT f 1) t fun u v=>
 xcut (fun _ y=>c7n x1 y R E) fun j1=>
 oP E (bC .eql 27 24 u (vI 0)) v fun z g=>
 xcond z
 (oP E (xCall (fC 6) [s]) g fun c aa=>
 oP E (xT c 0) aa fun ab ac=>
 oP E (xT c 1) ac fun ad ae=>
 oP E (xT c 2) ae fun i af=>
 oP E (xV (Instr.alloc 25 true (.tuple #[]))) af fun j ag=>
 oP E (xV (Instr.alloc 31 true (.tuple #[]))) ag fun ah ai=>
 oP E (sA 25 j ab) ai fun _ aj=>
 oP E (sA 31 ah ad) aj fun _ ak=>
 oP E (bC .neq 27 32 i (vI 41)) ak fun a al=>
 oP E (gYs a (bC .neq 27 35 (zT a i) (vI 0))) al fun b am=>
 oP E (gsem (asB (zT a b)) false (lA 25 d)) am fun an ao=>
 oP E (gsem (asB (zT a b)) false (lA 25 j)) ao fun ap aq=>
 oP E (gsem (asB (zT a b)) false (xCall (fC 7) [an,ap])) aq fun ar au=>
 oP E (gsem (asB (zT a b)) false (xV (Op.unary .not ar))) au fun av aw=>
 oP E (gYs a (xPick (zT a b) (vB true) av)) aw fun ax ay=>
 oP E (xPick a ax (vB false)) ay fun az k=>
 xcond az
 (R (vB false) k)
 (j1 [] k))
 (j1 [] g))
def h3:Hint:=(sQ (hS (sQ (hC (sQ hN) hN)) (sQ (hU [] (sQ (hC (sQ (sQ (hC (sQ hN) hN))) hN)) (sQ (hS (sQ (hC (sQ hN) hN)) (sQ (hS (sQ (hC (sQ hN) hN)) (sQ (sQ (sQ hN)))))))))))
theorem d3V{x0 x1:Value}(h:F3 x0 x1 w R E):Cv pG 3 #[x0,x1] w R E:=okF (h:=h3) Tryz.func3 (by kernel_rfl) (by kernel_rfl) h
def F4(w)(R:RT)(E):=
 opK pG E (xV (Instr.build 39 #[(0,(vI 1)),(1,(vI 1))])) w fun c d=>
 oP E (xV (Instr.build 39 #[(0,(vI 1)),(1,(vI 2))])) d fun e f=>
 oP E (xV (Instr.build 39 #[(0,(vI 1)),(1,(vI 3))])) f fun g i=>
 oP E (xV (Instr.buildSlice 37 2 #[(0,e),(1,g)])) i fun j k=>
 oP E (xV (Instr.build 39 #[(0,(vI 7)),(3,j)])) k fun l m=>
 oP E (xV (Instr.buildSlice 37 2 #[(0,c),(1,l)])) m fun n o=>
 oP E (xV (Instr.build 39 #[(0,(vI 7)),(3,n)])) o fun p q=>
 oP E (xCall (fC 8) [p]) q fun b r=>
 oP E (xT b 0) r fun s t=>
 oP E (xT b 1) t fun u v=>
 oP E (bC .eql 27 14 u (vI 0)) v fun a y=>
 oP E (gYs a (bC .eql 9 17 (zT a s) (Value.string ⟨#[49,32,45,32,40,50,32,45,32,51,41]⟩))) y fun z aa=>
 oP E (xPick a z (vB false)) aa fun ab ac=>
 R ab ac
def h4:Hint:=(sQ (sQ (sQ hN)))
theorem d3W(h:F4  w R E):Cv pG 4 #[] w R E:=okF (h:=h4) Tryz.func4 (by kernel_rfl) (by kernel_rfl) h
def c7o(x5 w)(R:RT)(E):=
 ∀_τ:Fr,(oP E (xCall (fC 13) [x5]) w fun b a=>
 xcond b
 (R (Value.tuple #[(eS),(vI 50)]) a)
 (oP E (xNil x5) a fun c d=>
 oP E (fA 47 c 0) d fun e f=>
 oP E (xCall (fC 14) [e]) f fun g i=>
 R (Value.tuple #[g,(vI 0)]) i))
def d3X(x5 x42 x43 x44 w)(next3:NT)(j2:NT)(_R:RT)(E):=
 opK pG E (bN .lss 3 44 43 x44 x43) w fun c a=>
 xcond c
 (oP E (iA 23 x42 x44) a fun d e=>
 oP E (lA 54 d) e fun f g=>
 oP E (xV (Instr.alloc 54 true (.tuple #[]))) g fun b i=>
 oP E (sA 54 b f) i fun _ j=>
 oP E (lA 54 b) j fun k l=>
 oP E (xCall (fC 12) [x5,k]) l fun _t50_41 m=>
 oP E (bC .add 3 44 x44 (vI 1)) m fun n o=>
 next3 [n] o)
 (j2 [] a)
def c7p(x1 x5 w)(R:RT)(E):=
 ∀_τ:Fr,(xcut (fun _ b=>c7o x5 b R E) fun j2=>
 oP E (fA 25 x1 1) w fun c d=>
 oP E (lA 23 c) d fun a e=>
 oP E (xBuiltin .len #[23] 3 [false] [a]) e fun f g=>
 xloop [44] [(vI 0)] g fun i j next3=>
 d3X x5 a f (i 44) j next3 j2 R E)
def c7q(_x1 _x5 _x18 _x19 x20:Value)(w)(next4:NT)(_R:RT)(E):=
 ∀_τ:Fr,(oP E (bC .add 3 20 x20 (vI 1)) w fun a b=>
 next4 [a] b)
def d3Y(x1 x5 x18 x19 x20 w)(next4:NT)(j1:NT)(R:RT)(E):=
 opK pG E (bN .lss 3 20 19 x20 x19) w fun k f=>
 xcond k
 (xcut (fun _ l=>c7q x1 x5 x18 x19 x20 l next4 R E) fun j5=>
 oP E (iA 22 x18 x20) f fun m n=>
 oP E (lA 49 m) n fun o p=>
 oP E (xV (Instr.alloc 49 true (.tuple #[]))) p fun a q=>
 oP E (sA 49 a o) q fun _ r=>
 oP E (fA 49 a 1) r fun s t=>
 oP E (lA 3 s) t fun u v=>
 oP E (bC .eql 3 25 u (vI 0)) v fun y g=>
 xcond y
 (oP E (fA 49 a 0) g fun z aa=>
 oP E (lA 9 z) aa fun ab ac=>
 oP E (xV (Instr.buildSlice 67 3 #[(0,(Value.string ⟨#[118,97,114,32]⟩)),(1,ab),(2,(Value.string ⟨#[59]⟩))])) ac fun ad ae=>
 oP E (xCall (fC 10) [x5,ad]) ae fun _t31_81 af=>
 j5 [] af)
 (dX g fun b=>
 qP pG (fA 49 a 0) fun c=>
 qP pG (fA 49 a 1) fun i=>
 qL pG b (blk c) (lA 9 c) fun ag=>
 qL pG b (blk i) (lA 3 i) fun ah=>
 oP E (xCall (fC 11) [ah]) b fun ai d=>
 keepX [(blk c)] b d (opK pG E (xV (Instr.buildSlice 67 5 #[(0,(Value.string ⟨#[97,114,114,97,121,32]⟩)),(1,ag),(2,(Value.string ⟨#[91]⟩)),(3,ai),(4,(Value.string ⟨#[93,59]⟩))])) d fun aj e=>
 keepX [] d e (opK pG E (xCall (fC 10) [x5,aj]) e fun _t39_92 j=>
 keepX [] e j (j5 [] j)))))
 (j1 [] f)
def F5(x0 w)(R:RT)(E):=
 opK pG E (xV (Instr.box 25 x0)) w fun a f=>
 oP E (lA 25 a) f fun g i=>
 oP E (xCall (fC 9) [g]) i fun b j=>
 oP E (bC .neq 27 12 b (vI 0)) j fun k c=>
 xcond k
 (R (Value.tuple #[(eS),b]) c)
 (oP E (xV (Instr.build 47 #[])) c fun l m=>
 oP E (xV (Instr.box 47 l)) m fun d n=>
 xcut (fun _ o=>c7p a d o R E) fun j1=>
 oP E (fA 25 a 0) n fun p q=>
 oP E (lA 22 p) q fun e r=>
 oP E (xBuiltin .len #[22] 3 [false] [e]) r fun s t=>
 xloop [20] [(vI 0)] t fun u v next4=>
 d3Y a d e s (u 20) v next4 j1 R E)
def h5:Hint:=(sQ (hS (sQ (sQ (hC (sQ hN) hN))) (sQ (hU [] (sQ (hB (hL [20] (sQ (hS (hC hN hN) (hU [] (hB (sQ (hS (sQ (hC (sQ hN) hN)) (.reg [(0,4294967296,32),(0,8589934592,128),(2,17179869184,8589934592),(0,34359738368,128),(8,68719476736,34359738368),(16,137438953472,68719476736),(36,274877906944,154618822656),(97,549755813888,279172874240)] [20,20,16,20,4,4,0,0] (.early 0 (.early 1 (.early 3 (.load 2 (.load 4 (.step 5 (.step 6 (.step 7 .done)))))))))))) hN)))))) (hU [] (sQ (hB (hL [44] (sQ (hS (hC hN hN) (hS (hB (sQ hN)) hN)))))) (hS (sQ (hC (sQ hN) hN)) (sQ hN)))))))
theorem d3Z{x0:Value}(h:F5 x0 w R E):Cv pG 5 #[x0] w R E:=okF (h:=h5) Tryz.func5 (by kernel_rfl) (by kernel_rfl) h
def F6(x0 w)(R:RT)(E):=
 opK pG E (xV (Instr.alloc 25 true (.tuple #[]))) w fun c e=>
 oP E (xV (Instr.alloc 31 true (.tuple #[]))) e fun d f=>
 oP E (xCall (fC 15) [x0,(fC 16),(fC 9)]) f fun a g=>
 oP E (xT a 0) g fun i j=>
 oP E (xT a 1) j fun k l=>
 oP E (xT a 2) l fun m n=>
 oP E (sA 25 c i) n fun _ o=>
 oP E (sA 31 d k) o fun _ b=>
 xcell pG 25 c b fun p=>
 xcell pG 31 d b fun q=>
 R (Value.tuple #[p,q,m]) b
def h6:Hint:=(sQ (sQ hN))
theorem d4a{x0:Value}(h:F6 x0 w R E):Cv pG 6 #[x0] w R E:=okF (h:=h6) Tryz.func6 (by kernel_rfl) (by kernel_rfl) h
def F7(x0 x1 w)(R:RT)(E):=
 opK pG E (xV (Instr.box 25 x0)) w fun c f=>
 oP E (xV (Instr.box 25 x1)) f fun d g=>
 oP E (lA 25 c) g fun i j=>
 oP E (xCall (fC 17) [i]) j fun e k=>
 oP E (gYs e (lA 25 d)) k fun l m=>
 oP E (gYs e (xCall (fC 17) [l])) m fun n o=>
 oP E (xPick e n (vB false)) o fun a p=>
 oP E (gYs a (fA 25 c 0)) p fun q r=>
 oP E (gYs a (lA 22 q)) r fun s t=>
 oP E (gYs a (fA 25 d 0)) t fun u v=>
 oP E (gYs a (lA 22 u)) v fun y z=>
 oP E (gYs a (xCall (fC 18) [s,y])) z fun aa ab=>
 oP E (xPick a aa (vB false)) ab fun b ac=>
 oP E (gYs b (fA 25 c 1)) ac fun ad ae=>
 oP E (gYs b (lA 23 ad)) ae fun af ag=>
 oP E (gYs b (fA 25 d 1)) ag fun ah ai=>
 oP E (gYs b (lA 23 ah)) ai fun aj ak=>
 oP E (gYs b (xCall (fC 19) [af,aj,(fC 20)])) ak fun al am=>
 oP E (xPick b al (vB false)) am fun an ao=>
 R an ao
def h7:Hint:=(sQ (sQ hN))
theorem d4b{x0 x1:Value}(h:F7 x0 x1 w R E):Cv pG 7 #[x0,x1] w R E:=okF (h:=h7) Tryz.func7 (by kernel_rfl) (by kernel_rfl) h
def F8(x0 w)(R:RT)(E):=
 opK pG E (xV (Instr.box 39 x0)) w fun a e=>
 oP E (lA 39 a) e fun f g=>
 oP E (xCall (fC 21) [f]) g fun b i=>
 oP E (bC .neq 27 8 b (vI 0)) i fun j c=>
 xcond j
 (R (Value.tuple #[(eS),b]) c)
 (oP E (xV (Instr.build 47 #[])) c fun k l=>
 oP E (xV (Instr.box 47 k)) l fun d m=>
 oP E (lA 39 a) m fun n o=>
 oP E (xCall (fC 22) [d,n]) o fun _t15_15 p=>
 oP E (xNil d) p fun q r=>
 oP E (fA 47 q 0) r fun s t=>
 oP E (xCall (fC 14) [s]) t fun u v=>
 R (Value.tuple #[u,(vI 0)]) v)
def h8:Hint:=(sQ (hS (sQ (sQ (hC (sQ hN) hN))) (sQ (sQ (sQ hN)))))
theorem d4c{x0:Value}(h:F8 x0 w R E):Cv pG 8 #[x0] w R E:=okF (h:=h8) Tryz.func8 (by kernel_rfl) (by kernel_rfl) h
def F9(x0 w)(R:RT)(E):=
 opK pG E (xV (Instr.box 25 x0)) w fun a b=>
 oP E (lA 25 a) b fun c d=>
 oP E (xCall (fC 23) [c]) d fun e f=>
 oP E (xNil e) f fun g i=>
 oP E (fA 69 g 2) i fun j k=>
 oP E (lA 27 j) k fun l m=>
 R l m
def h9:Hint:=(sQ (sQ hN))
theorem d4d{x0:Value}(h:F9 x0 w R E):Cv pG 9 #[x0] w R E:=okF (h:=h9) Tryz.func9 (by kernel_rfl) (by kernel_rfl) h
def F10(x0 x1 w)(R:RT)(E):=
 opK pG E (xV (Instr.box 41 x0)) w fun a b=>
 oP E (xV (Instr.box 67 x1)) b fun c d=>
 oP E (lA 41 a) d fun e f=>
 oP E (xV (Instr.makeFunc (.func 25) #[] #[a,c])) f fun g i=>
 oP E (xCall (fC 24) [e,g]) i fun _t6_9 j=>
 R (Value.tuple #[]) j
def h10:Hint:=(sQ hN)
theorem d0j{x0 x1:Value}(h:F10 x0 x1 w R E):Cv pG 10 #[x0,x1] w R E:=okF (h:=h10) Tryz.func10 (by kernel_rfl) (by kernel_rfl) h
def b8h(x2 w)(R:RT)(E):=
 ∀_τ:Fr,(oP E (lA 41 x2) w fun a b=>
 oP E (xV (Instr.buildSlice 67 1 #[(0,(Value.string ⟨#[125]⟩))])) b fun c d=>
 oP E (xCall (fC 10) [a,c]) d fun _t46_51 e=>
 R (Value.tuple #[]) e)
def F12(x0 x1 w)(R:RT)(E):=
 opK pG E (xV (Instr.box 41 x0)) w fun a ae=>
 oP E (xV (Instr.box 54 x1)) ae fun b af=>
 oP E (lA 41 a) af fun ag ah=>
 oP E (xCall (fC 13) [ag]) ah fun ai i=>
 xcond ai
 (R (Value.tuple #[]) i)
 (oP E (fA 54 b 0) i fun aj ak=>
 oP E (lA 3 aj) ak fun c al=>
 oP E (bC .eql 3 7 c (vI 1)) al fun am j=>
 xcond am
 (oP E (lA 41 a) j fun an ao=>
 oP E (xV (Instr.makeFunc (.func 28) #[] #[a,b])) ao fun ap aq=>
 oP E (xCall (fC 24) [an,ap]) aq fun _t15_19 ar=>
 R (Value.tuple #[]) ar)
 (oP E (bC .eql 3 7 c (vI 2)) j fun au k=>
 xcond au
 (oP E (lA 41 a) k fun av aw=>
 oP E (xV (Instr.makeFunc (.func 29) #[] #[a,b])) aw fun ax ay=>
 oP E (xCall (fC 24) [av,ax]) ay fun _t20_27 az=>
 R (Value.tuple #[]) az)
 (oP E (bC .eql 3 7 c (vI 3)) k fun ba l=>
 xcond ba
 (dX l fun d=>
 qP pG (fA 54 b 3) fun m=>
 qL pG d (blk a) (lA 41 a) fun bb=>
 qL pG d (blk m) (lA 52 m) fun bc=>
 qP pG (iA 52 bc (vI 0)) fun n=>
 qL pG d (blk n) (lA 75 n) fun bd=>
 oP E (xCall (fC 30) [bb,(Value.string ⟨#[105,102]⟩),bd,(Value.string ⟨#[32,123]⟩)]) d fun _t28_37 o=>
 keepX [] d o (opK pG E (lA 41 a) o fun be bf=>
 oP E (fA 54 b 4) bf fun bg bh=>
 oP E (lA 23 bg) bh fun bi bj=>
 oP E (xCall (fC 31) [be,bi]) bj fun _t32_45 bk=>
 xcut (fun _ bl=>b8h a bl R E) fun j1=>
 oP E (fA 54 b 5) bk fun bm bn=>
 oP E (lA 23 bm) bn fun bo bp=>
 oP E (xBuiltin .len #[23] 3 [false] [bo]) bp fun bq br=>
 oP E (bC .gtr 3 35 bq (vI 0)) br fun bs p=>
 xcond bs
 (oP E (lA 41 a) p fun bt bu=>
 oP E (xV (Instr.buildSlice 67 1 #[(0,(Value.string ⟨#[125,32,101,108,115,101,32,123]⟩))])) bu fun bv bw=>
 oP E (xCall (fC 10) [bt,bv]) bw fun _t39_67 bz=>
 oP E (lA 41 a) bz fun ca cb=>
 oP E (fA 54 b 5) cb fun cc cd=>
 oP E (lA 23 cc) cd fun ce cf=>
 oP E (xCall (fC 31) [ca,ce]) cf fun _t43_75 cg=>
 j1 [] cg)
 (j1 [] p)))
 (oP E (bC .eql 3 7 c (vI 4)) l fun ch q=>
 xcond ch
 (dX q fun e=>
 qP pG (fA 54 b 3) fun r=>
 qL pG e (blk a) (lA 41 a) fun ci=>
 qL pG e (blk r) (lA 52 r) fun cj=>
 qP pG (iA 52 cj (vI 0)) fun s=>
 qL pG e (blk s) (lA 75 s) fun ck=>
 oP E (xCall (fC 30) [ci,(Value.string ⟨#[119,104,105,108,101]⟩),ck,(Value.string ⟨#[32,123]⟩)]) e fun _t54_85 t=>
 keepX [] e t (opK pG E (lA 41 a) t fun cl cm=>
 oP E (fA 54 b 4) cm fun cn co=>
 oP E (lA 23 cn) co fun cp cq=>
 oP E (xCall (fC 31) [cl,cp]) cq fun _t58_93 cr=>
 oP E (lA 41 a) cr fun cs ct=>
 oP E (xV (Instr.buildSlice 67 1 #[(0,(Value.string ⟨#[125]⟩))])) ct fun cu cv=>
 oP E (xCall (fC 10) [cs,cu]) cv fun _t61_99 cw=>
 R (Value.tuple #[]) cw))
 (oP E (bC .eql 3 7 c (vI 5)) q fun cx u=>
 xcond cx
 (dX u fun f=>
 qP pG (fA 54 b 3) fun v=>
 qL pG f (blk a) (lA 41 a) fun cy=>
 qL pG f (blk v) (lA 52 v) fun cz=>
 qP pG (iA 52 cz (vI 0)) fun y=>
 qL pG f (blk y) (lA 75 y) fun da=>
 oP E (xCall (fC 30) [cy,(Value.string ⟨#[97,115,115,101,114,116]⟩),da,(Value.string ⟨#[59]⟩)]) f fun _t69_109 z=>
 keepX [] f z (R (Value.tuple #[]) z))
 (oP E (bC .eql 3 7 c (vI 6)) u fun db aa=>
 xcond db
 (dX aa fun g=>
 qP pG (fA 54 b 3) fun ab=>
 qL pG g (blk a) (lA 41 a) fun dc=>
 qL pG g (blk ab) (lA 52 ab) fun dd=>
 qP pG (iA 52 dd (vI 0)) fun ac=>
 qL pG g (blk ac) (lA 75 ac) fun de=>
 oP E (xCall (fC 30) [dc,(Value.string ⟨#[97,115,115,117,109,101]⟩),de,(Value.string ⟨#[59]⟩)]) g fun _t77_119 ad=>
 keepX [] g ad (R (Value.tuple #[]) ad))
 (oP E (lA 41 a) aa fun df dg=>
 oP E (xV (Instr.buildSlice 67 1 #[(0,(Value.string ⟨#[115,107,105,112,59]⟩))])) dg fun dh di=>
 oP E (xCall (fC 10) [df,dh]) di fun _t10_125 dj=>
 R (Value.tuple #[]) dj)))))))
def h12:Hint:=(sQ (hS (sQ (hC hN hN)) (sQ (hB (sQ (hC hN (sQ (hC hN (sQ (hC (hS (.reg [(0,8388608,4),(0,16777216,8),(2,33554432,16777216),(4,67108864,33554432),(8,134217728,67108864),(17,268435456,142606336)] [20,21,17,21,5,0] (.early 1 (.load 0 (.load 2 (.early 3 (.load 4 (.step 5 .done))))))) (sQ (hU [] (sQ (hC (sQ hN) hN)) hN))) (sQ (hC (hS (.reg [(0,562949953421312,4),(0,1125899906842624,8),(2,2251799813685248,1125899906842624),(4,4503599627370496,2251799813685248),(8,9007199254740992,4503599627370496),(17,18014398509481984,9570149208162304)] [20,21,17,21,5,0] (.early 1 (.load 0 (.load 2 (.early 3 (.load 4 (.step 5 .done))))))) (sQ hN)) (sQ (hC (.reg [(0,18446744073709551616,4),(0,36893488147419103232,8),(2,73786976294838206464,36893488147419103232),(4,147573952589676412928,73786976294838206464),(8,295147905179352825856,147573952589676412928),(17,590295810358705651712,313594649253062377472)] [20,21,17,21,5,0] (.early 1 (.load 0 (.load 2 (.early 3 (.load 4 (.step 5 .done))))))) (sQ (hC (.reg [(0,4722366482869645213696,4),(0,9444732965739290427392,8),(2,18889465931478580854784,9444732965739290427392),(4,37778931862957161709568,18889465931478580854784),(8,75557863725914323419136,37778931862957161709568),(17,151115727451828646838272,80280230208783968632832)] [20,21,17,21,5,0] (.early 1 (.load 0 (.load 2 (.early 3 (.load 4 (.step 5 .done))))))) hN))))))))))))))))
theorem d0k{x0 x1:Value}(h:F12 x0 x1 w R E):Cv pG 12 #[x0,x1] w R E:=okF (h:=h12) Tryz.func12 (by kernel_rfl) (by kernel_rfl) h
def F13(x0 w)(R:RT)(E):=
 opK pG E (xNil x0) w fun a b=>
 oP E (fA 47 a 0) b fun c d=>
 oP E (xCall (fC 32) [c]) d fun e f=>
 oP E (bC .gtr 3 6 e (vI 65536)) f fun g i=>
 R g i
def h13:Hint:=(sQ (sQ hN))
theorem d0l{x0:Value}(h:F13 x0 w R E):Cv pG 13 #[x0] w R E:=okF (h:=h13) Tryz.func13 (by kernel_rfl) (by kernel_rfl) h
def F14(x0 w)(R:RT)(E):=
 dX w fun a=>
 qP pG (xNil x0) fun f=>
 qP pG (fA 45 f 1) fun d=>
 qP pG (xNil x0) fun g=>
 qP pG (fA 45 g 1) fun b=>
 qL pG a (blk d) (lA 43 d) fun i=>
 qL pG a (blk b) (lA 43 b) fun j=>
 qP pG (xBuiltin .len #[43] 3 [false] [j]) fun k=>
 oP E (xBuiltin .unsafeSliceData #[43] 78 [false] [i]) a fun l c=>
 keepX [(blk b)] a c (opK pG E (xBuiltin .unsafeString #[78,3] 9 [false,false] [l,k]) c fun m e=>
 keepX [] c e (R m e))
def h14:Hint:=(sQ (hS (.reg [(0,8,1),(1,16,8),(2,32,16),(4,64,32),(8,128,64),(0,256,1),(32,512,256),(64,1024,512),(128,2048,1024),(256,4096,2048),(528,8192,4224),(2047,4,8192)] [264,264,264,256,256,264,264,264,8,264,0,264] (.early 0 (.early 1 (.early 2 (.early 5 (.early 6 (.early 7 (.load 3 (.load 8 (.early 9 (.step 4 (.step 10 (.early 11 .done))))))))))))) hN))
theorem d0m{x0:Value}(h:F14 x0 w R E):Cv pG 14 #[x0] w R E:=okF (h:=h14) Tryz.func14 (by kernel_rfl) (by kernel_rfl) h
def c2W(x2 x3 w)(R:RT)(E):=
 ∀_τ:Fr,(oP E (lA 25 x3) w fun b c=>
 oP E (sA 25 x2 b) c fun _ a=>
 xcell pG 25 x2 a fun d=>
 R d a)
def d0n(x0 _x2 x3:Value)(w)(next3:NT)(j2:NT)(_R:RT)(E):=
 opK pG E (xCall (fC 35) [x0]) w fun i j=>
 oP E (xV (Instr.field 88 i 0)) j fun k l=>
 oP E (bC .neq 3 19 k (vI 5)) l fun m f=>
 xcond m
 (oP E (xCall (fC 40) [x0]) f fun n o=>
 oP E (xCall (fC 39) [x0,(vI 1),n]) o fun _t24_20 p=>
 dX p fun b=>
 qP pG (fA 25 x3 1) fun a=>
 qL pG b (blk a) (lA 23 a) fun q=>
 oP E (xCall (fC 41) [x0,(vI 1)]) b fun r c=>
 keepX [(blk a)] b c (opK pG E (xV (Instr.buildSlice 23 1 #[(0,r)])) c fun s d=>
 keepX [(blk a)] c d (opK pG E (xBuiltin .append #[23,23] 23 [false,false] [q,s]) d fun t e=>
 keepX [] d e (qP pG (fA 25 x3 1) fun u=>
 oP E (sA 23 u t) e fun _ g=>
 keepX [] e g (next3 [] g)))))
 (j2 [] f)
def c2X(x0 x2 x3 w)(R:RT)(E):=
 ∀_τ:Fr,(xcut (fun _ a=>c2W x2 x3 a R E) fun j2=>
 xloop [] [] w fun _ b next3=>
 d0n x0 x2 x3 b next3 j2 R E)
def d0o(x0 _x2 x3:Value)(w)(next4:NT)(j1:NT)(_R:RT)(E):=
 opK pG E (xCall (fC 37) [x0,(Value.string ⟨#[118,97,114]⟩)]) w fun b j=>
 oP E (gNo b (xCall (fC 37) [(zF b x0),(Value.string ⟨#[97,114,114,97,121]⟩)])) j fun k l=>
 oP E (xPick b (vB true) k) l fun m g=>
 xcond m
 (dX g fun c=>
 qP pG (fA 25 x3 0) fun a=>
 qL pG c (blk a) (lA 22 a) fun n=>
 oP E (xCall (fC 38) [x0]) c fun o d=>
 keepX [(blk a)] c d (opK pG E (xV (Instr.buildSlice 22 1 #[(0,o)])) d fun p e=>
 keepX [(blk a)] d e (opK pG E (xBuiltin .append #[22,22] 22 [false,false] [n,p]) e fun q f=>
 keepX [] e f (qP pG (fA 25 x3 0) fun r=>
 oP E (sA 22 r q) f fun _ i=>
 keepX [] f i (next4 [] i)))))
 (j1 [] g)
def F16(x0 w)(R:RT)(E):=
 opK pG E (xV (Instr.alloc 25 true (.tuple #[]))) w fun a c=>
 oP E (xV (Instr.alloc 25 true (.tuple #[]))) c fun b d=>
 xcut (fun _ e=>c2X x0 a b e R E) fun j1=>
 xloop [] [] d fun _ f next4=>
 d0o x0 a b f next4 j1 R E
def h16:Hint:=(sQ (sQ (hU [] (hB (hL [] (hS (sQ (hC hN hN)) (hB (.reg [(0,1024,8),(1,2048,1024),(0,4096,1),(4,8192,4096),(8,16384,8192),(26,32768,18432),(63,65536,8),(127,0,98304)] [2,0,2,2,2,0,2,0] (.early 0 (.early 2 (.load 1 (.step 3 (.step 4 (.step 5 (.early 6 (.step 7 .done))))))))))))) (hU [] (hB (hL [] (hS (sQ (hC hN hN)) (hB (sQ (.reg [(0,33554432,8),(1,67108864,33554432),(0,134217728,1),(4,268435456,134217728),(8,536870912,268435456),(26,1073741824,603979776),(63,2147483648,8),(127,0,3221225472)] [2,0,2,2,2,0,2,0] (.early 0 (.early 2 (.load 1 (.step 3 (.step 4 (.step 5 (.early 6 (.step 7 .done)))))))))))))) (sQ hN)))))
theorem d0p{x0:Value}(h:F16 x0 w R E):Cv pG 16 #[x0] w R E:=okF (h:=h16) Tryz.func16 (by kernel_rfl) (by kernel_rfl) h
def F17(x0 w)(R:RT)(E):=
 opK pG E (xV (Instr.box 25 x0)) w fun c d=>
 oP E (lA 25 c) d fun e f=>
 oP E (xCall (fC 9) [e]) f fun b g=>
 oP E (bC .neq 27 6 b (vI 32)) g fun a i=>
 oP E (gYs a (bC .neq 27 9 (zT a b) (vI 33))) i fun j k=>
 oP E (xPick a j (vB false)) k fun l m=>
 R l m
def h17:Hint:=(sQ (sQ (sQ hN)))
theorem d0q{x0:Value}(h:F17 x0 w R E):Cv pG 17 #[x0] w R E:=okF (h:=h17) Tryz.func17 (by kernel_rfl) (by kernel_rfl) h
def c2Y(w)(R:RT)(_E:Pan):=
 ∀_τ:Fr,(R (vB true) w)
def d0r(x0 x1 x12 x13 w)(next2:NT)(j1:NT)(R:RT)(E):=
 opK pG E (bN .lss 3 13 12 x13 x12) w fun e b=>
 xcond e
 (dX b fun a=>
 qP pG (iA 22 x0 x13) fun c=>
 qP pG (iA 22 x1 x13) fun d=>
 qL pG a (blk c) (lA 49 c) fun f=>
 qL pG a (blk d) (lA 49 d) fun g=>
 qP pG (bN .neq 49 19 23 f g) fun i=>
 xcond i
 (R (vB false) a)
 (oP E (bC .add 3 13 x13 (vI 1)) a fun j k=>
 next2 [j] k))
 (j1 [] b)
def F18(x0 x1 w)(R:RT)(E):=
 opK pG E (xBuiltin .len #[22] 3 [false] [x0]) w fun b c=>
 oP E (xBuiltin .len #[22] 3 [false] [x1]) c fun d e=>
 oP E (bN .neq 3 7 9 b d) e fun f a=>
 xcond f
 (R (vB false) a)
 (xcut (fun _ g=>c2Y g R E) fun j1=>
 oP E (xBuiltin .len #[22] 3 [false] [x0]) a fun i j=>
 xloop [13] [(vI 0)] j fun k l next2=>
 d0r x0 x1 i (k 13) l next2 j1 R E)
def h18:Hint:=(sQ (hS (sQ (hC (sQ hN) hN)) (hU [] (sQ (hB (hL [13] (sQ (hS (hC hN hN) (hS (hB (sQ (hS (.reg [(0,65536,1),(0,131072,32),(3,262144,196608),(4,524288,262144),(0,1048576,2),(0,2097152,32),(48,4194304,3145728),(64,8388608,4194304),(136,16777216,8912896)] [136,136,136,128,136,136,136,8,136] (.early 0 (.early 1 (.early 2 (.early 4 (.early 5 (.early 6 (.load 3 (.load 7 (.early 8 .done)))))))))) (hC (sQ hN) hN)))) hN)))))) (sQ hN))))
theorem d0s{x0 x1:Value}(h:F18 x0 x1 w R E):Cv pG 18 #[x0,x1] w R E:=okF (h:=h18) Tryz.func18 (by kernel_rfl) (by kernel_rfl) h
def c2Z(w)(R:RT)(_E:Pan):=
 ∀_τ:Fr,(R (vB true) w)
def d0t(x1 x2 x15 x16 x17 w)(next2:NT)(j1:NT)(R:RT)(E):=
 opK pG E (bN .lss 3 17 16 x17 x16) w fun e a=>
 xcond e
 (oP E (iA 23 x15 x17) a fun f g=>
 oP E (lA 54 f) g fun i j=>
 oP E (xV (Instr.alloc 54 true (.tuple #[]))) j fun b k=>
 oP E (sA 54 b i) k fun _ l=>
 oP E (iA 23 x1 x17) l fun m n=>
 oP E (lA 54 m) n fun o p=>
 oP E (xV (Instr.alloc 54 true (.tuple #[]))) p fun c q=>
 oP E (sA 54 c o) q fun _ r=>
 oP E (lA 54 b) r fun s t=>
 oP E (lA 54 c) t fun u v=>
 oP E (xCall x2 [s,u]) v fun y z=>
 oP E (xV (Op.unary .not y)) z fun aa d=>
 xcond aa
 (R (vB false) d)
 (oP E (bC .add 3 17 x17 (vI 1)) d fun ab ac=>
 next2 [ab] ac))
 (j1 [] a)
def F19(x0 x1 x2 w)(R:RT)(E):=
 opK pG E (xBuiltin .len #[23] 3 [false] [x0]) w fun b c=>
 oP E (xBuiltin .len #[23] 3 [false] [x1]) c fun d e=>
 oP E (bN .neq 3 11 13 b d) e fun f a=>
 xcond f
 (R (vB false) a)
 (xcut (fun _ g=>c2Z g R E) fun j1=>
 oP E (xBuiltin .len #[23] 3 [false] [x0]) a fun i j=>
 xloop [17] [(vI 0)] j fun k l next2=>
 d0t x1 x2 x0 i (k 17) l next2 j1 R E)
def h19:Hint:=(sQ (hS (sQ (hC (sQ hN) hN)) (hU [] (sQ (hB (hL [17] (sQ (hS (hC hN hN) (hS (hB (sQ (sQ (sQ (hC (sQ hN) hN))))) hN)))))) (sQ hN))))
theorem d0u{x0 x1 x2:Value}(h:F19 x0 x1 x2 w R E):Cv pG 19 #[x0,x1,x2] w R E:=okF (h:=h19) Tryz.func19 (by kernel_rfl) (by kernel_rfl) h
def F20(x0 x1 w)(R:RT)(E):=
 opK pG E (xV (Instr.box 54 x0)) w fun a i=>
 oP E (xV (Instr.box 54 x1)) i fun b j=>
 oP E (fA 54 a 0) j fun k l=>
 oP E (lA 3 k) l fun m n=>
 oP E (fA 54 b 0) n fun o p=>
 oP E (lA 3 o) p fun q r=>
 oP E (bN .eql 3 6 8 m q) r fun c s=>
 oP E (gYs c (fA 54 a 1)) s fun t u=>
 oP E (gYs c (lA 9 t)) u fun v y=>
 oP E (gYs c (fA 54 b 1)) y fun z aa=>
 oP E (gYs c (lA 9 z)) aa fun ab ac=>
 oP E (gYs c (bN .eql 9 12 14 v ab)) ac fun ad ae=>
 oP E (xPick c ad (vB false)) ae fun d af=>
 oP E (gYs d (fA 54 a 2)) af fun ag ah=>
 oP E (gYs d (lA 37 ag)) ah fun ai aj=>
 oP E (gYs d (fA 54 b 2)) aj fun ak al=>
 oP E (gYs d (lA 37 ak)) al fun am an=>
 oP E (gYs d (xCall (fC 42) [ai,am,(fC 43)])) an fun ao ap=>
 oP E (xPick d ao (vB false)) ap fun e aq=>
 oP E (gYs e (fA 54 a 3)) aq fun ar au=>
 oP E (gYs e (lA 52 ar)) au fun av aw=>
 oP E (gYs e (fA 54 b 3)) aw fun ax ay=>
 oP E (gYs e (lA 52 ax)) ay fun az ba=>
 oP E (gYs e (xCall (fC 44) [av,az,(fC 45)])) ba fun bb bc=>
 oP E (xPick e bb (vB false)) bc fun f bd=>
 oP E (gYs f (fA 54 a 4)) bd fun be bf=>
 oP E (gYs f (lA 23 be)) bf fun bg bh=>
 oP E (gYs f (fA 54 b 4)) bh fun bi bj=>
 oP E (gYs f (lA 23 bi)) bj fun bk bl=>
 oP E (gYs f (xCall (fC 19) [bg,bk,(fC 20)])) bl fun bm bn=>
 oP E (xPick f bm (vB false)) bn fun g bo=>
 oP E (gYs g (fA 54 a 5)) bo fun bp bq=>
 oP E (gYs g (lA 23 bp)) bq fun br bs=>
 oP E (gYs g (fA 54 b 5)) bs fun bt bu=>
 oP E (gYs g (lA 23 bt)) bu fun bv bw=>
 oP E (gYs g (xCall (fC 19) [br,bv,(fC 20)])) bw fun bz ca=>
 oP E (xPick g bz (vB false)) ca fun cb cc=>
 R cb cc
def h20:Hint:=(sQ (sQ hN))
theorem d0v{x0 x1:Value}(h:F20 x0 x1 w R E):Cv pG 20 #[x0,x1] w R E:=okF (h:=h20) Tryz.func20 (by kernel_rfl) (by kernel_rfl) h
def F21(x0 w)(R:RT)(E):=
 opK pG E (xV (Instr.box 39 x0)) w fun a b=>
 oP E (lA 39 a) b fun c d=>
 oP E (xV (Instr.build 100 #[(0,c)])) d fun e f=>
 oP E (xV (Instr.makeInterface 100 e)) f fun g i=>
 oP E (xV (Instr.buildSlice 101 1 #[(0,g)])) i fun j k=>
 oP E (xCall (fC 46) [j]) k fun l m=>
 oP E (xNil l) m fun n o=>
 oP E (fA 69 n 2) o fun p q=>
 oP E (lA 27 p) q fun r s=>
 R r s
def h21:Hint:=(sQ (sQ hN))
theorem d0w{x0:Value}(h:F21 x0 w R E):Cv pG 21 #[x0] w R E:=okF (h:=h21) Tryz.func21 (by kernel_rfl) (by kernel_rfl) h
def F22(x0 x1 w)(R:RT)(E):=
 opK pG E (xV (Instr.box 39 x1)) w fun a j=>
 oP E (fA 39 a 0) j fun k l=>
 oP E (lA 3 k) l fun m n=>
 oP E (xCall (fC 47) [m]) n fun c o=>
 oP E (fA 39 a 0) o fun p q=>
 oP E (lA 3 p) q fun b r=>
 oP E (bC .eql 3 9 b (vI 1)) r fun s d=>
 xcond s
 (oP E (fA 39 a 1) d fun t u=>
 oP E (lA 2 t) u fun v y=>
 oP E (xCall (fC 48) [v,(vI 10)]) y fun z aa=>
 oP E (xV (Instr.buildSlice 67 1 #[(0,z)])) aa fun ab ac=>
 oP E (xCall (fC 26) [x0,ab]) ac fun _t38_23 ad=>
 R (Value.tuple #[]) ad)
 (oP E (bC .eql 3 9 b (vI 2)) d fun ae e=>
 xcond ae
 (oP E (fA 39 a 2) e fun af ag=>
 oP E (lA 9 af) ag fun ah ai=>
 oP E (xV (Instr.buildSlice 67 1 #[(0,ah)])) ai fun aj ak=>
 oP E (xCall (fC 26) [x0,aj]) ak fun _t45_33 al=>
 R (Value.tuple #[]) al)
 (oP E (bC .eql 3 9 b (vI 3)) e fun am f=>
 xcond am
 (oP E (xV (Instr.buildSlice 67 1 #[(0,(Value.string ⟨#[105,110,112,117,116]⟩))])) f fun an ao=>
 oP E (xCall (fC 26) [x0,an]) ao fun _t50_39 ap=>
 R (Value.tuple #[]) ap)
 (oP E (bC .eql 3 9 b (vI 4)) f fun aq g=>
 xcond aq
 (oP E (fA 39 a 2) g fun ar au=>
 oP E (lA 9 ar) au fun av aw=>
 oP E (xV (Instr.buildSlice 67 2 #[(0,av),(1,(Value.string ⟨#[91]⟩))])) aw fun ax ay=>
 oP E (xCall (fC 26) [x0,ax]) ay fun _t57_49 az=>
 oP E (fA 39 a 3) az fun ba bb=>
 oP E (lA 37 ba) bb fun bc bd=>
 oP E (iA 37 bc (vI 0)) bd fun be bf=>
 oP E (lA 39 be) bf fun bg bh=>
 oP E (xCall (fC 22) [x0,bg]) bh fun _t63_59 bi=>
 oP E (xV (Instr.buildSlice 67 1 #[(0,(Value.string ⟨#[93]⟩))])) bi fun bj bk=>
 oP E (xCall (fC 26) [x0,bj]) bk fun _t66_63 bl=>
 R (Value.tuple #[]) bl)
 (oP E (bC .eql 3 9 b (vI 5)) g fun bm i=>
 xcond bm
 (oP E (xV (Instr.buildSlice 67 1 #[(0,(Value.string ⟨#[45]⟩))])) i fun bn bo=>
 oP E (xCall (fC 26) [x0,bn]) bo fun _t71_69 bp=>
 oP E (fA 39 a 3) bp fun bq br=>
 oP E (lA 37 bq) br fun bs bt=>
 oP E (iA 37 bs (vI 0)) bt fun bu bv=>
 oP E (lA 39 bu) bv fun bw bz=>
 oP E (xCall (fC 49) [x0,bw,c]) bz fun _t78_79 ca=>
 R (Value.tuple #[]) ca)
 (oP E (fA 39 a 3) i fun cb cc=>
 oP E (lA 37 cb) cc fun cd ce=>
 oP E (iA 37 cd (vI 0)) ce fun cf cg=>
 oP E (lA 39 cf) cg fun ch ci=>
 oP E (xCall (fC 49) [x0,ch,c]) ci fun _t16_89 cj=>
 oP E (fA 39 a 0) cj fun ck cl=>
 oP E (lA 3 ck) cl fun cm cn=>
 oP E (xCall (fC 50) [cm]) cn fun co cp=>
 oP E (xV (Instr.buildSlice 67 3 #[(0,(Value.string ⟨#[32]⟩)),(1,co),(2,(Value.string ⟨#[32]⟩))])) cp fun cq cr=>
 oP E (xCall (fC 26) [x0,cq]) cr fun _t22_99 cs=>
 oP E (fA 39 a 3) cs fun ct cu=>
 oP E (lA 37 ct) cu fun cv cw=>
 oP E (iA 37 cv (vI 1)) cw fun cx cy=>
 oP E (lA 39 cx) cy fun cz da=>
 oP E (bC .add 3 28 c (vI 1)) da fun db dc=>
 oP E (xCall (fC 49) [x0,cz,db]) dc fun _t30_111 dd=>
 R (Value.tuple #[]) dd)))))
def h22:Hint:=(sQ (sQ (sQ (hB (sQ (hC hN (sQ (hC hN (sQ (hC hN (sQ (hC (sQ (sQ hN)) (sQ (hC (sQ hN) (sQ (sQ hN))))))))))))))))
theorem d0x{x0 x1:Value}(h:F22 x0 x1 w R E):Cv pG 22 #[x0,x1] w R E:=okF (h:=h22) Tryz.func22 (by kernel_rfl) (by kernel_rfl) h
def F23(x0 w)(R:RT)(E):=
 opK pG E (xV (Instr.box 25 x0)) w fun g k=>
 dX k fun a=>
 qP pG (fA 25 g 0) fun i=>
 qP pG (fA 25 g 1) fun b=>
 qL pG a (blk i) (lA 22 i) fun l=>
 qL pG a (blk b) (lA 23 b) fun m=>
 oP E (xCall (fC 52) [l,(fC 53)]) a fun n c=>
 keepX [(blk b)] a c (opK pG E (xCall (fC 54) [m,(fC 55)]) c fun o d=>
 keepX [] c d (opK pG E (xV (Instr.buildSlice 140 2 #[(0,n),(1,o)])) d fun p e=>
 keepX [] d e (opK pG E (xCall (fC 51) [p]) e fun q f=>
 keepX [] e f (opK pG E (xCall (fC 46) [q]) f fun r j=>
 keepX [] f j (R r j)))))
def h23:Hint:=(sQ (hS (.reg [(0,8,2),(1,16,8),(2,32,16),(0,64,2),(8,128,64),(20,256,128),(36,512,288),(96,1024,512),(128,2048,1024),(511,4,2048)] [18,16,16,18,2,0,0,0,0,18] (.early 0 (.early 3 (.load 1 (.load 4 (.step 2 (.step 5 (.step 6 (.step 7 (.step 8 (.early 9 .done))))))))))) hN))
theorem d0y{x0:Value}(h:F23 x0 w R E):Cv pG 23 #[x0] w R E:=okF (h:=h23) Tryz.func23 (by kernel_rfl) (by kernel_rfl) h
def F24(x0 x1 w)(R:RT)(E):=
 opK pG E (xNil x0) w fun a b=>
 oP E (fA 47 a 1) b fun c d=>
 oP E (lA 3 c) d fun e f=>
 oP E (xCall (fC 56) [(Value.string ⟨#[32,32]⟩),e]) f fun g i=>
 oP E (xV (Instr.buildSlice 67 1 #[(0,g)])) i fun j k=>
 oP E (xCall (fC 26) [x0,j]) k fun _t11_11 l=>
 oP E (xCall x1 []) l fun _t13_13 m=>
 oP E (xV (Instr.buildSlice 67 1 #[(0,(Value.string ⟨#[10]⟩))])) m fun n o=>
 oP E (xCall (fC 26) [x0,n]) o fun _t16_17 p=>
 R (Value.tuple #[]) p
def h24:Hint:=(sQ (sQ hN))
theorem d0z{x0 x1:Value}(h:F24 x0 x1 w R E):Cv pG 24 #[x0,x1] w R E:=okF (h:=h24) Tryz.func24 (by kernel_rfl) (by kernel_rfl) h
def F25(x0 x1 w)(R:RT)(E):=
 opK pG E (lA 41 x0) w fun a b=>
 oP E (lA 67 x1) b fun c d=>
 oP E (xCall (fC 26) [a,c]) d fun _t4_5 e=>
 R (Value.tuple #[]) e
def h25:Hint:=hN
theorem d0A{x0 x1:Value}(h:F25 x0 x1 w R E):Cv pG 25 #[x0,x1] w R E:=okF (h:=h25) Tryz.func25 (by kernel_rfl) (by kernel_rfl) h
def d0B(x0 x6 x7 x8 w)(next1:NT)(R:RT)(E):=
 opK pG E (bN .lss 3 8 7 x8 x7) w fun c a=>
 xcond c
 (oP E (iA 67 x6 x8) a fun d e=>
 oP E (lA 9 d) e fun f g=>
 oP E (xCall (fC 13) [x0]) g fun i b=>
 xcond i
 (R (Value.tuple #[]) b)
 (oP E (xNil x0) b fun j k=>
 oP E (fA 47 j 0) k fun l m=>
 oP E (xCall (fC 57) [l,f]) m fun _t18_15 n=>
 oP E (bC .add 3 8 x8 (vI 1)) n fun o p=>
 next1 [o] p))
 (R (Value.tuple #[]) a)
def F26(x0 x1 w)(R:RT)(E):=
 opK pG E (xBuiltin .len #[67] 3 [false] [x1]) w fun a b=>
 xloop [8] [(vI 0)] b fun c d next1=>
 d0B x0 x1 a (c 8) d next1 R E
def h26:Hint:=(sQ (hB (hL [8] (sQ (hS (hC hN hN) (hS (hB (sQ (hS (sQ (hC hN hN)) hN))) hN))))))
theorem d0C{x0 x1:Value}(h:F26 x0 x1 w R E):Cv pG 26 #[x0,x1] w R E:=okF (h:=h26) Tryz.func26 (by kernel_rfl) (by kernel_rfl) h
def F28(x0 x1 w)(R:RT)(E):=
 opK pG E (lA 41 x0) w fun e f=>
 oP E (fA 54 x1 1) f fun g i=>
 oP E (lA 9 g) i fun j k=>
 oP E (xV (Instr.buildSlice 67 2 #[(0,j),(1,(Value.string ⟨#[32,61,32]⟩))])) k fun l m=>
 oP E (xCall (fC 26) [e,l]) m fun _t6_9 n=>
 dX n fun a=>
 qP pG (fA 54 x1 2) fun b=>
 qL pG a (blk x0) (lA 41 x0) fun o=>
 qL pG a (blk b) (lA 37 b) fun p=>
 qP pG (iA 37 p (vI 0)) fun c=>
 qL pG a (blk c) (lA 39 c) fun q=>
 oP E (xCall (fC 22) [o,q]) a fun _t12_17 d=>
 keepX [] a d (opK pG E (lA 41 x0) d fun r s=>
 oP E (xV (Instr.buildSlice 67 1 #[(0,(Value.string ⟨#[59]⟩))])) s fun t u=>
 oP E (xCall (fC 26) [r,t]) u fun _t15_23 v=>
 R (Value.tuple #[]) v)
def h28:Hint:=(sQ (hS (.reg [(0,128,1),(0,256,2),(2,512,256),(4,1024,512),(8,2048,1024),(17,4096,2176)] [20,21,17,21,5,0] (.early 1 (.load 0 (.load 2 (.early 3 (.load 4 (.step 5 .done))))))) hN))
theorem d0D{x0 x1:Value}(h:F28 x0 x1 w R E):Cv pG 28 #[x0,x1] w R E:=okF (h:=h28) Tryz.func28 (by kernel_rfl) (by kernel_rfl) h
def F29(x0 x1 w)(R:RT)(E):=
 opK pG E (lA 41 x0) w fun j k=>
 oP E (fA 54 x1 1) k fun l m=>
 oP E (lA 9 l) m fun n o=>
 oP E (xV (Instr.buildSlice 67 2 #[(0,n),(1,(Value.string ⟨#[91]⟩))])) o fun p q=>
 oP E (xCall (fC 26) [j,p]) q fun _t6_9 r=>
 dX r fun a=>
 qP pG (fA 54 x1 2) fun c=>
 qL pG a (blk x0) (lA 41 x0) fun s=>
 qL pG a (blk c) (lA 37 c) fun t=>
 qP pG (iA 37 t (vI 0)) fun d=>
 qL pG a (blk d) (lA 39 d) fun u=>
 oP E (xCall (fC 22) [s,u]) a fun _t12_17 e=>
 keepX [] a e (opK pG E (lA 41 x0) e fun v y=>
 oP E (xV (Instr.buildSlice 67 1 #[(0,(Value.string ⟨#[93,32,61,32]⟩))])) y fun z aa=>
 oP E (xCall (fC 26) [v,z]) aa fun _t15_23 ab=>
 dX ab fun b=>
 qP pG (fA 54 x1 2) fun f=>
 qL pG b (blk x0) (lA 41 x0) fun ac=>
 qL pG b (blk f) (lA 37 f) fun ad=>
 qP pG (iA 37 ad (vI 1)) fun g=>
 qL pG b (blk g) (lA 39 g) fun ae=>
 oP E (xCall (fC 22) [ac,ae]) b fun _t21_31 i=>
 keepX [] b i (opK pG E (lA 41 x0) i fun af ag=>
 oP E (xV (Instr.buildSlice 67 1 #[(0,(Value.string ⟨#[59]⟩))])) ag fun ah ai=>
 oP E (xCall (fC 26) [af,ah]) ai fun _t24_37 aj=>
 R (Value.tuple #[]) aj))
def h29:Hint:=(sQ (hS (.reg [(0,128,1),(0,256,2),(2,512,256),(4,1024,512),(8,2048,1024),(17,4096,2176)] [20,21,17,21,5,0] (.early 1 (.load 0 (.load 2 (.early 3 (.load 4 (.step 5 .done))))))) (sQ (hS (.reg [(0,65536,1),(0,131072,2),(2,262144,131072),(4,524288,262144),(8,1048576,524288),(17,2097152,1114112)] [20,21,17,21,5,0] (.early 1 (.load 0 (.load 2 (.early 3 (.load 4 (.step 5 .done))))))) hN))))
theorem d0E{x0 x1:Value}(h:F29 x0 x1 w R E):Cv pG 29 #[x0,x1] w R E:=okF (h:=h29) Tryz.func29 (by kernel_rfl) (by kernel_rfl) h
def F30(x0 x1 x2 x3 w)(R:RT)(E):=
 opK pG E (xV (Instr.box 41 x0)) w fun a b=>
 oP E (xV (Instr.box 9 x1)) b fun c d=>
 oP E (xV (Instr.box 75 x2)) d fun e f=>
 oP E (xV (Instr.box 9 x3)) f fun g i=>
 oP E (lA 41 a) i fun j k=>
 oP E (xV (Instr.makeFunc (.func 59) #[] #[a,c,e,g])) k fun l m=>
 oP E (xCall (fC 24) [j,l]) m fun _t10_13 n=>
 R (Value.tuple #[]) n
def h30:Hint:=(sQ hN)
theorem d0F{x0 x1 x2 x3:Value}(h:F30 x0 x1 x2 x3 w R E):Cv pG 30 #[x0,x1,x2,x3] w R E:=okF (h:=h30) Tryz.func30 (by kernel_rfl) (by kernel_rfl) h
def c3a(x0 w)(R:RT)(E):=
 ∀_τ:Fr,(oP E (xNil x0) w fun a b=>
 oP E (fA 47 a 1) b fun c d=>
 oP E (lA 3 c) d fun e f=>
 oP E (bC .sub 3 26 e (vI 1)) f fun g i=>
 oP E (xNil x0) i fun j k=>
 oP E (fA 47 j 1) k fun l m=>
 oP E (sA 3 l g) m fun _ n=>
 R (Value.tuple #[]) n)
def d0G(x0 x13 x14 x15 w)(next2:NT)(j1:NT)(_R:RT)(E):=
 opK pG E (bN .lss 3 15 14 x15 x14) w fun c a=>
 xcond c
 (oP E (iA 23 x13 x15) a fun d e=>
 oP E (lA 54 d) e fun f g=>
 oP E (xV (Instr.alloc 54 true (.tuple #[]))) g fun b i=>
 oP E (sA 54 b f) i fun _ j=>
 oP E (lA 54 b) j fun k l=>
 oP E (xCall (fC 12) [x0,k]) l fun _t21_45 m=>
 oP E (bC .add 3 15 x15 (vI 1)) m fun n o=>
 next2 [n] o)
 (j1 [] a)
def F31(x0 x1 w)(R:RT)(E):=
 opK pG E (xNil x0) w fun a b=>
 oP E (fA 47 a 1) b fun c d=>
 oP E (lA 3 c) d fun e f=>
 oP E (bC .add 3 9 e (vI 1)) f fun g i=>
 oP E (xNil x0) i fun j k=>
 oP E (fA 47 j 1) k fun l m=>
 oP E (sA 3 l g) m fun _ n=>
 xcut (fun _ o=>c3a x0 o R E) fun j1=>
 oP E (xBuiltin .len #[23] 3 [false] [x1]) n fun p q=>
 xloop [15] [(vI 0)] q fun r s next2=>
 d0G x0 x1 p (r 15) s next2 j1 R E
def h31:Hint:=(sQ (hU [] (sQ (hB (hL [15] (sQ (hS (hC hN hN) (hS (hB (sQ hN)) hN)))))) hN))
theorem d0H{x0 x1:Value}(h:F31 x0 x1 w R E):Cv pG 31 #[x0,x1] w R E:=okF (h:=h31) Tryz.func31 (by kernel_rfl) (by kernel_rfl) h
def F32(x0 w)(R:RT)(E):=
 opK pG E (xNil x0) w fun a b=>
 oP E (fA 45 a 1) b fun c d=>
 oP E (lA 43 c) d fun e f=>
 oP E (xBuiltin .len #[43] 3 [false] [e]) f fun g i=>
 R g i
def h32:Hint:=(sQ (sQ hN))
theorem d0I{x0:Value}(h:F32 x0 w R E):Cv pG 32 #[x0] w R E:=okF (h:=h32) Tryz.func32 (by kernel_rfl) (by kernel_rfl) h
def c3b(x3 x7 w)(R:RT)(E):=
 ∀_τ:Fr,(dX w fun a=>
 qP pG (xNil x7) fun g=>
 qP pG (fA 123 g 3) fun b=>
 qP pG (xNil x7) fun i=>
 qP pG (fA 123 i 2) fun f=>
 qP pG (xV (Instr.build 31 #[])) fun j=>
 qL pG a (blk b) (lA 79 b) fun k=>
 qL pG a (blk f) (lA 31 f) fun l=>
 qP pG (xV (Instr.build 88 #[(0,(vI 5)),(3,l)])) fun m=>
 oP E (xV (Instr.buildSlice 79 1 #[(0,m)])) a fun n c=>
 keepX [(blk b)] a c (opK pG E (xBuiltin .append #[79,79] 79 [false,false] [k,n]) c fun o d=>
 keepX [] c d (opK pG E (sA 31 x3 j) d fun _ e=>
 keepX [] d e (xcell pG 31 x3 e fun p=>
 R (Value.tuple #[o,p,(vI 0)]) e))))
def c3c(x0 x3 x7 w)(next2:NT)(j1:NT)(R:RT)(E):=
 opK pG E (xNil x7) w fun s t=>
 oP E (fA 123 s 1) t fun u v=>
 oP E (lA 3 u) v fun y z=>
 oP E (xBuiltin .len #[9] 3 [false] [x0]) z fun aa ab=>
 oP E (bN .lss 3 34 36 y aa) ab fun ac l=>
 xcond ac
 (oP E (xNil x7) l fun ad ae=>
 oP E (fA 123 ad 2) ae fun af ag=>
 oP E (lA 31 af) ag fun ah ai=>
 oP E (xV (Instr.alloc 31 true (.tuple #[]))) ai fun a aj=>
 oP E (sA 31 a ah) aj fun _ ak=>
 oP E (xNil x7) ak fun al am=>
 oP E (fA 123 al 3) am fun an ao=>
 oP E (lA 79 an) ao fun ap aq=>
 oP E (xBuiltin .len #[79] 3 [false] [ap]) aq fun ar au=>
 oP E (bC .eql 3 48 ar (vI 32768)) au fun av m=>
 xcond av
 (dX m fun d=>
 qL pG d (blk a) (lA 31 a) fun aw=>
 oP E (sA 31 x3 aw) d fun _ e=>
 keepX [] d e (xcell pG 31 x3 e fun ax=>
 R (Value.tuple #[(nS),ax,(vI 23)]) e))
 (oP E (xCall (fC 64) [x7]) m fun n ay=>
 oP E (xT n 0) ay fun az ba=>
 oP E (xT n 1) ba fun _t55_81 bb=>
 oP E (xCall (fC 65) [x7,az]) bb fun bc bd=>
 oP E (xCall bc []) bd fun o be=>
 oP E (xT o 0) be fun bf bg=>
 oP E (xT o 1) bg fun p bh=>
 oP E (xV (Instr.alloc 88 true (.tuple #[]))) bh fun b bi=>
 oP E (sA 88 b bf) bi fun _ bj=>
 oP E (bC .neq 27 63 p (vI 0)) bj fun bk q=>
 xcond bk
 (dX q fun f=>
 qL pG f (blk a) (lA 31 a) fun bl=>
 oP E (sA 31 x3 bl) f fun _ g=>
 keepX [] f g (xcell pG 31 x3 g fun bm=>
 R (Value.tuple #[(nS),bm,p]) g))
 (oP E (lA 31 a) q fun bn bo=>
 oP E (fA 88 b 3) bo fun bp bq=>
 oP E (sA 31 bp bn) bq fun _ br=>
 dX br fun c=>
 qP pG (xNil x7) fun bs=>
 qP pG (fA 123 bs 3) fun i=>
 qL pG c (blk i) (lA 79 i) fun bt=>
 qL pG c (blk b) (lA 88 b) fun bu=>
 oP E (xV (Instr.buildSlice 79 1 #[(0,bu)])) c fun bv j=>
 keepX [(blk i)] c j (opK pG E (xBuiltin .append #[79,79] 79 [false,false] [bt,bv]) j fun bw k=>
 keepX [] j k (qP pG (xNil x7) fun bz=>
 qP pG (fA 123 bz 3) fun ca=>
 oP E (sA 79 ca bw) k fun _ r=>
 keepX [] k r (opK pG E (xCall (fC 63) [x7]) r fun _t39_121 cb=>
 next2 [] cb))))))
 (j1 [] l)
def F33(x0 w)(R:RT)(E):=
 opK pG E (xV (Instr.alloc 31 true (.tuple #[]))) w fun a g=>
 oP E (xCall (fC 61) [x0]) g fun c i=>
 oP E (xT c 0) i fun j k=>
 oP E (xT c 1) k fun d l=>
 oP E (bC .neq 27 18 d (vI 0)) l fun m e=>
 xcond m
 (oP E (xCall (fC 62) [x0,j]) e fun n o=>
 oP E (sA 31 a n) o fun _ f=>
 xcell pG 31 a f fun p=>
 R (Value.tuple #[(nS),p,d]) f)
 (oP E (xCall (fC 62) [x0,(vI 0)]) e fun q r=>
 oP E (xV (Instr.build 123 #[(0,x0),(2,q)])) r fun s t=>
 oP E (xV (Instr.box 123 s)) t fun b u=>
 xcut (fun _ v=>c3b a b v R E) fun j1=>
 oP E (xCall (fC 63) [b]) u fun _t30_40 y=>
 xloop [] [] y fun _ z next2=>
 c3c x0 a b z next2 j1 R E)
def h33:Hint:=(sQ (hS (sQ (sQ (hC (sQ hN) hN))) (sQ (hU [] (sQ (hB (hL [] (hS (sQ (hC hN hN)) (hS (hB (sQ (hS (sQ (hC (hS (.reg [(0,1125899906842624,256),(0,4,0),(3,0,1125899906842632),(7,16,0)] [0,1,0,1] (.early 1 (.load 0 (.step 2 (.early 3 .done))))) hN) hN)) (sQ (sQ (hS (sQ (hC (hS (.reg [(0,36893488147419103232,256),(0,73786976294838206464,4096),(0,4,0),(5,0,36893488147419103240),(15,16,73786976294838206464)] [0,1,1,0,1] (.early 1 (.early 2 (.load 0 (.step 3 (.early 4 .done)))))) hN) hN)) (sQ (.reg [(0,590295810358705651712,128),(0,1180591620717411303424,128),(2,2361183241434822606848,1180591620717411303424),(4,4722366482869645213696,2361183241434822606848),(8,9444732965739290427392,4722366482869645213696),(0,18889465931478580854784,2048),(32,37778931862957161709568,18889465931478580854784),(80,75557863725914323419136,47223664828696452136960),(255,151115727451828646838272,590295810358705651712),(511,302231454903657293676544,151115727451828646838272),(767,0,377789318629571617095680)] [48,48,48,48,32,16,16,0,48,48,0] (.early 0 (.early 1 (.early 2 (.early 3 (.load 4 (.load 5 (.step 6 (.step 7 (.early 8 (.early 9 (.step 10 .done))))))))))))))))))) hN))))) (hS (.reg [(0,604462909807314587353088,128),(1,1208925819614629174706176,604462909807314587353088),(2,2417851639229258349412352,1208925819614629174706176),(4,4835703278458516698824704,2417851639229258349412352),(0,9671406556917033397649408,128),(16,19342813113834066795298816,9671406556917033397649408),(32,38685626227668133590597632,19342813113834066795298816),(64,77371252455336267181195264,38685626227668133590597632),(128,154742504910672534362390528,77371252455336267181195264),(256,309485009821345068724781056,154742504910672534362390528),(520,618970019642690137449562112,314320713099803585423605760),(0,1237940039285380274899124224,0),(2047,4,618970019642690137449562112),(8191,0,1237940039285380274899124232),(16383,16,0)] [136,136,136,128,136,136,136,8,136,8,0,136,136,0,136] (.early 0 (.early 1 (.early 2 (.early 4 (.early 5 (.early 6 (.early 11 (.load 3 (.load 7 (.early 8 (.step 9 (.step 10 (.early 12 (.step 13 (.early 14 .done)))))))))))))))) hN)))))
theorem d0J{x0:Value}(h:F33 x0 w R E):Cv pG 33 #[x0] w R E:=okF (h:=h33) Tryz.func33 (by kernel_rfl) (by kernel_rfl) h
def F35(x0 w)(R:RT)(E):=
 opK pG E (xV (Instr.alloc 88 true (.tuple #[]))) w fun c g=>
 dX g fun a=>
 qP pG (xNil x0) fun i=>
 qP pG (fA 86 i 0) fun d=>
 qP pG (xNil x0) fun j=>
 qP pG (fA 86 j 1) fun e=>
 qL pG a (blk d) (lA 79 d) fun k=>
 qL pG a (blk e) (lA 3 e) fun l=>
 qP pG (iA 79 k l) fun f=>
 qL pG a (blk f) (lA 88 f) fun m=>
 oP E (sA 88 c m) a fun _ b=>
 keepX [] a b (xcell pG 88 c b fun n=>
 R n b)
def h35:Hint:=(sQ (hS (.reg [(0,8,1),(1,16,8),(2,32,16),(4,64,32),(0,128,1),(16,256,128),(32,512,256),(64,1024,512),(136,2048,1088),(256,4096,2048),(1023,0,4100)] [648,648,648,640,648,648,648,520,648,136,0] (.early 0 (.early 1 (.early 2 (.early 4 (.early 5 (.early 6 (.load 3 (.load 7 (.early 8 (.load 9 (.step 10 .done)))))))))))) hN))
theorem d0K{x0:Value}(h:F35 x0 w R E):Cv pG 35 #[x0] w R E:=okF (h:=h35) Tryz.func35 (by kernel_rfl) (by kernel_rfl) h
def F36(x0 w)(R:RT)(E):=
 opK pG E (xCall (fC 35) [x0]) w fun a b=>
 oP E (xV (Instr.field 88 a 3)) b fun c d=>
 oP E (xV (Instr.build 83 #[(0,c),(1,(vI 40))])) d fun e f=>
 oP E (xV (Instr.makeInterface 83 e)) f fun g i=>
 oP E (xV (Instr.panic g)) i fun _ j=>
 R (Value.tuple #[]) j
def h36:Hint:=hN
theorem d0L{x0:Value}(h:F36 x0 w R E):Cv pG 36 #[x0] w R E:=okF (h:=h36) Tryz.func36 (by kernel_rfl) (by kernel_rfl) h
def F37(x0 x1 w)(R:RT)(E):=
 opK pG E (xCall (fC 35) [x0]) w fun d e=>
 oP E (xV (Instr.alloc 88 true (.tuple #[]))) e fun b f=>
 oP E (sA 88 b d) f fun _ g=>
 oP E (fA 88 b 0) g fun i j=>
 oP E (lA 3 i) j fun k l=>
 oP E (bC .eql 3 9 k (vI 3)) l fun c m=>
 oP E (gNo c (fA 88 b 0)) m fun n o=>
 oP E (gNo c (lA 3 n)) o fun p q=>
 oP E (gNo c (bC .eql 3 13 p (vI 4))) q fun r s=>
 oP E (xPick c (vB true) r) s fun a t=>
 oP E (gYs a (fA 88 b 1)) t fun u v=>
 oP E (gYs a (lA 9 u)) v fun y z=>
 oP E (gYs a (bN .eql 9 18 19 y (zT a x1))) z fun aa ab=>
 oP E (xPick a aa (vB false)) ab fun ac ad=>
 R ac ad
def h37:Hint:=(sQ (sQ (sQ hN)))
theorem d0M{x0 x1:Value}(h:F37 x0 x1 w R E):Cv pG 37 #[x0,x1] w R E:=okF (h:=h37) Tryz.func37 (by kernel_rfl) (by kernel_rfl) h
def c3d(x0 x2 x4 w)(R:RT)(E):=
 ∀_τ:Fr,(oP E (xCall (fC 67) [x0,(Value.string ⟨#[59]⟩)]) w fun _t46_29 b=>
 oP E (lA 49 x4) b fun c d=>
 oP E (sA 49 x2 c) d fun _ a=>
 xcell pG 49 x2 a fun e=>
 R e a)
def c3e(x0 _x2 x4:Value)(w)(j1:NT)(_R:RT)(E):=
 ∀_τ:Fr,(oP E (xCall (fC 68) [x0]) w fun a b=>
 oP E (xV (Instr.field 88 a 2)) b fun c d=>
 oP E (fA 49 x4 1) d fun e f=>
 oP E (sA 3 e c) f fun _ g=>
 oP E (xCall (fC 67) [x0,(Value.string ⟨#[93]⟩)]) g fun _t44_48 i=>
 j1 [] i)
def F38(x0 w)(R:RT)(E):=
 opK pG E (xV (Instr.alloc 49 true (.tuple #[]))) w fun e i=>
 oP E (xCall (fC 37) [x0,(Value.string ⟨#[97,114,114,97,121]⟩)]) i fun j k=>
 oP E (xNil x0) k fun l m=>
 oP E (fA 86 l 1) m fun n o=>
 oP E (lA 3 n) o fun p q=>
 oP E (bC .add 3 11 p (vI 1)) q fun r s=>
 oP E (xNil x0) s fun t u=>
 oP E (fA 86 t 1) u fun v y=>
 oP E (sA 3 v r) y fun _ z=>
 oP E (xCall (fC 66) [x0,(vI 1)]) z fun aa ab=>
 oP E (xV (Instr.field 88 aa 1)) ab fun ac ad=>
 oP E (xV (Instr.build 49 #[(0,ac)])) ad fun ae af=>
 oP E (xV (Instr.alloc 49 true (.tuple #[]))) af fun d ag=>
 oP E (sA 49 d ae) ag fun _ f=>
 xcut (fun _ ah=>c3d x0 e d ah R E) fun j1=>
 xcond j
 (oP E (xCall (fC 67) [x0,(Value.string ⟨#[91]⟩)]) f fun _t21_38 ai=>
 xcut (fun _ aj=>c3e x0 e d aj j1 R E) fun j2=>
 oP E (xCall (fC 35) [x0]) ai fun ak al=>
 oP E (xV (Instr.alloc 88 true (.tuple #[]))) al fun a am=>
 oP E (sA 88 a ak) am fun _ an=>
 oP E (fA 88 a 0) an fun ao ap=>
 oP E (lA 3 ao) ap fun aq ar=>
 oP E (bC .neq 3 25 aq (vI 2)) ar fun b au=>
 oP E (gNo b (fA 88 a 2)) au fun av aw=>
 oP E (gNo b (lA 2 av)) aw fun ax ay=>
 oP E (gNo b (bC .lss 2 29 ax (vI 1))) ay fun az ba=>
 oP E (xPick b (vB true) az) ba fun c bb=>
 oP E (gNo c (fA 88 a 2)) bb fun bc bd=>
 oP E (gNo c (lA 2 bc)) bd fun be bf=>
 oP E (gNo c (bC .gtr 2 34 be (vI 2147483647))) bf fun bg bh=>
 oP E (xPick c (vB true) bg) bh fun bi g=>
 xcond bi
 (oP E (xCall (fC 36) [x0]) g fun _t38_80 bj=>
 j2 [] bj)
 (j2 [] g))
 (j1 [] f)
def h38:Hint:=(sQ (sQ (sQ (sQ (hU [] (sQ (hC (sQ (hU [] (sQ (sQ (hC hN hN))) (sQ hN))) hN)) (sQ (sQ hN)))))))
theorem d0N{x0:Value}(h:F38 x0 w R E):Cv pG 38 #[x0] w R E:=okF (h:=h38) Tryz.func38 (by kernel_rfl) (by kernel_rfl) h
def c3f(x0 x1 w)(R:RT)(E):=
 ∀_τ:Fr,(oP E (bC .gtr 3 10 x1 (vI 40)) w fun b a=>
 xcond b
 (oP E (xCall (fC 35) [x0]) a fun c d=>
 oP E (xV (Instr.field 88 c 3)) d fun e f=>
 oP E (xV (Instr.build 83 #[(0,e),(1,(vI 41))])) f fun g i=>
 oP E (xV (Instr.makeInterface 83 g)) i fun j k=>
 oP E (xV (Instr.panic j)) k fun _ l=>
 R (Value.tuple #[]) l)
 (R (Value.tuple #[]) a))
def F39(x0 x1 x2 w)(R:RT)(E):=
 xcut (fun _ b=>c3f x0 x1 b R E) fun j1=>
 oP E (xV (Op.unary .not x2)) w fun c a=>
 xcond c
 (oP E (xCall (fC 36) [x0]) a fun _t9_17 d=>
 j1 [] d)
 (j1 [] a)
def h39:Hint:=(hU [] (sQ (hC hN hN)) (sQ (hC hN hN)))
theorem d0O{x0 x1 x2:Value}(h:F39 x0 x1 x2 w R E):Cv pG 39 #[x0,x1,x2] w R E:=okF (h:=h39) Tryz.func39 (by kernel_rfl) (by kernel_rfl) h
def F40(x0 w)(R:RT)(E):=
 opK pG E (xCall (fC 35) [x0]) w fun f g=>
 oP E (xV (Instr.field 88 f 0)) g fun i j=>
 oP E (bC .eql 3 5 i (vI 1)) j fun a k=>
 oP E (gNo a (xCall (fC 37) [(zF a x0),(Value.string ⟨#[105,102]⟩)])) k fun l m=>
 oP E (xPick a (vB true) l) m fun b n=>
 oP E (gNo b (xCall (fC 37) [(zF b x0),(Value.string ⟨#[119,104,105,108,101]⟩)])) n fun o p=>
 oP E (xPick b (vB true) o) p fun c q=>
 oP E (gNo c (xCall (fC 37) [(zF c x0),(Value.string ⟨#[97,115,115,101,114,116]⟩)])) q fun r s=>
 oP E (xPick c (vB true) r) s fun d t=>
 oP E (gNo d (xCall (fC 37) [(zF d x0),(Value.string ⟨#[97,115,115,117,109,101]⟩)])) t fun u v=>
 oP E (xPick d (vB true) u) v fun e y=>
 oP E (gNo e (xCall (fC 37) [(zF e x0),(Value.string ⟨#[115,107,105,112]⟩)])) y fun z aa=>
 oP E (xPick e (vB true) z) aa fun ab ac=>
 R ab ac
def h40:Hint:=(sQ (sQ hN))
theorem d0P{x0:Value}(h:F40 x0 w R E):Cv pG 40 #[x0] w R E:=okF (h:=h40) Tryz.func40 (by kernel_rfl) (by kernel_rfl) h
def c3g(x0 x4 x5 w)(R:RT)(E):=
 ∀_τ:Fr,(oP E (xCall (fC 67) [x0,(Value.string ⟨#[59]⟩)]) w fun _t96_11 b=>
 oP E (lA 54 x5) b fun c d=>
 oP E (sA 54 x4 c) d fun _ a=>
 xcell pG 54 x4 a fun e=>
 R e a)
def c3h(x0 x1 _x4 x5:Value)(w)(j1:NT)(_R:RT)(E):=
 ∀_τ:Fr,(oP E (xCall (fC 67) [x0,(Value.string ⟨#[61]⟩)]) w fun _t30_35 g=>
 dX g fun b=>
 qP pG (fA 54 x5 2) fun a=>
 qL pG b (blk a) (lA 37 a) fun i=>
 oP E (xCall (fC 71) [x0,x1]) b fun j c=>
 keepX [(blk a)] b c (opK pG E (xV (Instr.buildSlice 37 1 #[(0,j)])) c fun k d=>
 keepX [(blk a)] c d (opK pG E (xBuiltin .append #[37,37] 37 [false,false] [i,k]) d fun l e=>
 keepX [] d e (qP pG (fA 54 x5 2) fun m=>
 oP E (sA 37 m l) e fun _ f=>
 keepX [] e f (j1 [] f)))))
def c3i(x4 x5 w)(R:RT)(E):=
 ∀_τ:Fr,(oP E (lA 54 x5) w fun b c=>
 oP E (sA 54 x4 b) c fun _ a=>
 xcell pG 54 x4 a fun d=>
 R d a)
def F41(x0 x1 w)(R:RT)(E):=
 opK pG E (xV (Instr.alloc 54 true (.tuple #[]))) w fun c y=>
 oP E (xV (Instr.alloc 54 true (.tuple #[]))) y fun a z=>
 oP E (xCall (fC 68) [x0]) z fun aa ab=>
 oP E (xV (Instr.alloc 88 true (.tuple #[]))) ab fun b ac=>
 oP E (sA 88 b aa) ac fun _ ad=>
 xcut (fun _ ae=>c3g x0 c a ae R E) fun j1=>
 oP E (fA 88 b 0) ad fun af ag=>
 oP E (lA 3 af) ag fun ah ai=>
 oP E (bC .eql 3 12 ah (vI 1)) ai fun aj m=>
 xcond aj
 (dX m fun e=>
 qP pG (fA 88 b 1) fun f=>
 qP pG (fA 54 a 0) fun ak=>
 qL pG e (blk f) (lA 9 f) fun al=>
 oP E (sA 3 ak (vI 1)) e fun _ g=>
 keepX [(blk f)] e g (qP pG (fA 54 a 1) fun am=>
 oP E (sA 9 am al) g fun _ n=>
 keepX [] g n (xcut (fun _ an=>c3h x0 x1 c a an j1 R E) fun j2=>
 oP E (xCall (fC 69) [x0,(Value.string ⟨#[91]⟩)]) n fun ao o=>
 xcond ao
 (oP E (fA 54 a 0) o fun ap aq=>
 oP E (sA 3 ap (vI 2)) aq fun _ ar=>
 dX ar fun i=>
 qP pG (fA 54 a 2) fun d=>
 qL pG i (blk d) (lA 37 d) fun au=>
 oP E (xCall (fC 70) [x0,x1,(Value.string ⟨#[93]⟩)]) i fun av j=>
 keepX [(blk d)] i j (opK pG E (xV (Instr.buildSlice 37 1 #[(0,av)])) j fun aw k=>
 keepX [(blk d)] j k (opK pG E (xBuiltin .append #[37,37] 37 [false,false] [au,aw]) k fun ax l=>
 keepX [] k l (qP pG (fA 54 a 2) fun ay=>
 oP E (sA 37 ay ax) l fun _ p=>
 keepX [] l p (j2 [] p)))))
 (j2 [] o))))
 (oP E (fA 88 b 1) m fun az ba=>
 oP E (lA 9 az) ba fun bb bc=>
 oP E (bC .eql 9 41 bb (Value.string ⟨#[105,102]⟩)) bc fun bd q=>
 xcond bd
 (oP E (xCall (fC 72) [x0,x1]) q fun be bf=>
 oP E (xV (Instr.buildSlice 52 1 #[(0,be)])) bf fun bg bh=>
 oP E (fA 54 a 0) bh fun bi bj=>
 oP E (sA 3 bi (vI 3)) bj fun _ bk=>
 oP E (fA 54 a 3) bk fun bl bm=>
 oP E (sA 52 bl bg) bm fun _ bn=>
 oP E (xCall (fC 73) [x0,x1]) bn fun bo bp=>
 oP E (fA 54 a 4) bp fun bq br=>
 oP E (sA 23 bq bo) br fun _ bs=>
 xcut (fun _ bt=>c3i c a bt R E) fun j3=>
 oP E (xCall (fC 69) [x0,(Value.string ⟨#[101,108,115,101]⟩)]) bs fun bu r=>
 xcond bu
 (oP E (xCall (fC 73) [x0,x1]) r fun bv bw=>
 oP E (fA 54 a 5) bw fun bz ca=>
 oP E (sA 23 bz bv) ca fun _ cb=>
 j3 [] cb)
 (j3 [] r))
 (oP E (fA 88 b 1) q fun cc cd=>
 oP E (lA 9 cc) cd fun ce cf=>
 oP E (bC .eql 9 62 ce (Value.string ⟨#[119,104,105,108,101]⟩)) cf fun cg s=>
 xcond cg
 (oP E (xCall (fC 72) [x0,x1]) s fun ch ci=>
 oP E (xV (Instr.buildSlice 52 1 #[(0,ch)])) ci fun cj ck=>
 oP E (fA 54 a 0) ck fun cl cm=>
 oP E (sA 3 cl (vI 4)) cm fun _ cn=>
 oP E (fA 54 a 3) cn fun co cp=>
 oP E (sA 52 co cj) cp fun _ cq=>
 oP E (xCall (fC 73) [x0,x1]) cq fun cr cs=>
 oP E (fA 54 a 4) cs fun ct cu=>
 oP E (sA 23 ct cr) cu fun _ cv=>
 oP E (lA 54 a) cv fun cw cx=>
 oP E (sA 54 c cw) cx fun _ t=>
 xcell pG 54 c t fun cy=>
 R cy t)
 (oP E (fA 88 b 1) s fun cz da=>
 oP E (lA 9 cz) da fun db dc=>
 oP E (bC .eql 9 77 db (Value.string ⟨#[97,115,115,101,114,116]⟩)) dc fun dd u=>
 xcond dd
 (oP E (xCall (fC 72) [x0,x1]) u fun de df=>
 oP E (xV (Instr.buildSlice 52 1 #[(0,de)])) df fun dg dh=>
 oP E (fA 54 a 0) dh fun di dj=>
 oP E (sA 3 di (vI 5)) dj fun _ dk=>
 oP E (fA 54 a 3) dk fun dl dm=>
 oP E (sA 52 dl dg) dm fun _ dn=>
 j1 [] dn)
 (oP E (fA 88 b 1) u fun dp dq=>
 oP E (lA 9 dp) dq fun dr ds=>
 oP E (bC .eql 9 87 dr (Value.string ⟨#[97,115,115,117,109,101]⟩)) ds fun dt v=>
 xcond dt
 (oP E (xCall (fC 72) [x0,x1]) v fun du dv=>
 oP E (xV (Instr.buildSlice 52 1 #[(0,du)])) dv fun dw dx=>
 oP E (fA 54 a 0) dx fun dy dz=>
 oP E (sA 3 dy (vI 6)) dz fun _ ea=>
 oP E (fA 54 a 3) ea fun eb ec=>
 oP E (sA 52 eb dw) ec fun _ ed=>
 j1 [] ed)
 (oP E (fA 54 a 0) v fun ee ef=>
 oP E (sA 3 ee (vI 7)) ef fun _ eg=>
 j1 [] eg)))))
def h41:Hint:=(sQ (sQ (sQ (hU [] (hB (sQ (hC (hS (.reg [(0,16384,64),(1,32768,16384),(0,65536,32),(4,0,65536),(15,131072,32),(31,0,163840)] [2,0,2,2,2,0] (.early 0 (.early 2 (.load 1 (.step 3 (.early 4 (.step 5 .done))))))) (hU [] (sQ (hC (sQ (.reg [(0,2097152,32),(1,4194304,2097152),(0,8388608,1),(0,16777216,2),(12,33554432,25165824),(16,67108864,33554432),(50,134217728,71303168),(127,268435456,32),(255,0,402653184)] [2,0,2,2,2,2,0,2,0] (.early 0 (.early 2 (.early 3 (.load 1 (.step 4 (.step 5 (.step 6 (.early 7 (.step 8 .done))))))))))) hN)) (sQ (.reg [(0,2147483648,32),(1,4294967296,2147483648),(0,8589934592,1),(0,17179869184,2),(12,34359738368,25769803776),(16,68719476736,34359738368),(50,137438953472,73014444032),(127,274877906944,32),(255,0,412316860416)] [2,0,2,2,2,2,0,2,0] (.early 0 (.early 2 (.early 3 (.load 1 (.step 4 (.step 5 (.step 6 (.early 7 (.step 8 .done))))))))))))) (sQ (hC (sQ (sQ (hU [] (sQ (hC hN hN)) (sQ hN)))) (sQ (hC (sQ (sQ (sQ hN))) (sQ (hC hN (sQ (hC hN hN))))))))))) (sQ (sQ hN))))))
theorem d0Q{x0 x1:Value}(h:F41 x0 x1 w R E):Cv pG 41 #[x0,x1] w R E:=okF (h:=h41) Tryz.func41 (by kernel_rfl) (by kernel_rfl) h
def c3j(w)(R:RT)(_E:Pan):=
 ∀_τ:Fr,(R (vB true) w)
def d0R(x1 x2 x15 x16 x17 w)(next2:NT)(j1:NT)(R:RT)(E):=
 opK pG E (bN .lss 3 17 16 x17 x16) w fun e a=>
 xcond e
 (oP E (iA 37 x15 x17) a fun f g=>
 oP E (lA 39 f) g fun i j=>
 oP E (xV (Instr.alloc 39 true (.tuple #[]))) j fun b k=>
 oP E (sA 39 b i) k fun _ l=>
 oP E (iA 37 x1 x17) l fun m n=>
 oP E (lA 39 m) n fun o p=>
 oP E (xV (Instr.alloc 39 true (.tuple #[]))) p fun c q=>
 oP E (sA 39 c o) q fun _ r=>
 oP E (lA 39 b) r fun s t=>
 oP E (lA 39 c) t fun u v=>
 oP E (xCall x2 [s,u]) v fun y z=>
 oP E (xV (Op.unary .not y)) z fun aa d=>
 xcond aa
 (R (vB false) d)
 (oP E (bC .add 3 17 x17 (vI 1)) d fun ab ac=>
 next2 [ab] ac))
 (j1 [] a)
def F42(x0 x1 x2 w)(R:RT)(E):=
 opK pG E (xBuiltin .len #[37] 3 [false] [x0]) w fun b c=>
 oP E (xBuiltin .len #[37] 3 [false] [x1]) c fun d e=>
 oP E (bN .neq 3 11 13 b d) e fun f a=>
 xcond f
 (R (vB false) a)
 (xcut (fun _ g=>c3j g R E) fun j1=>
 oP E (xBuiltin .len #[37] 3 [false] [x0]) a fun i j=>
 xloop [17] [(vI 0)] j fun k l next2=>
 d0R x1 x2 x0 i (k 17) l next2 j1 R E)
def h42:Hint:=(sQ (hS (sQ (hC (sQ hN) hN)) (hU [] (sQ (hB (hL [17] (sQ (hS (hC hN hN) (hS (hB (sQ (sQ (sQ (hC (sQ hN) hN))))) hN)))))) (sQ hN))))
theorem d0S{x0 x1 x2:Value}(h:F42 x0 x1 x2 w R E):Cv pG 42 #[x0,x1,x2] w R E:=okF (h:=h42) Tryz.func42 (by kernel_rfl) (by kernel_rfl) h
def F43(x0 x1 w)(R:RT)(E):=
 opK pG E (xV (Instr.box 39 x0)) w fun d f=>
 oP E (xV (Instr.box 39 x1)) f fun e g=>
 oP E (fA 39 d 0) g fun i j=>
 oP E (lA 3 i) j fun k l=>
 oP E (fA 39 e 0) l fun m n=>
 oP E (lA 3 m) n fun o p=>
 oP E (bN .eql 3 6 8 k o) p fun a q=>
 oP E (gYs a (fA 39 d 1)) q fun r s=>
 oP E (gYs a (lA 2 r)) s fun t u=>
 oP E (gYs a (fA 39 e 1)) u fun v y=>
 oP E (gYs a (lA 2 v)) y fun z aa=>
 oP E (gYs a (bN .eql 2 12 14 t z)) aa fun ab ac=>
 oP E (xPick a ab (vB false)) ac fun b ad=>
 oP E (gYs b (fA 39 d 2)) ad fun ae af=>
 oP E (gYs b (lA 9 ae)) af fun ag ah=>
 oP E (gYs b (fA 39 e 2)) ah fun ai aj=>
 oP E (gYs b (lA 9 ai)) aj fun ak al=>
 oP E (gYs b (bN .eql 9 19 21 ag ak)) al fun am an=>
 oP E (xPick b am (vB false)) an fun c ao=>
 oP E (gYs c (fA 39 d 3)) ao fun ap aq=>
 oP E (gYs c (lA 37 ap)) aq fun ar au=>
 oP E (gYs c (fA 39 e 3)) au fun av aw=>
 oP E (gYs c (lA 37 av)) aw fun ax ay=>
 oP E (gYs c (xCall (fC 42) [ar,ax,(fC 43)])) ay fun az ba=>
 oP E (xPick c az (vB false)) ba fun bb bc=>
 R bb bc
def h43:Hint:=(sQ (sQ hN))
theorem d0T{x0 x1:Value}(h:F43 x0 x1 w R E):Cv pG 43 #[x0,x1] w R E:=okF (h:=h43) Tryz.func43 (by kernel_rfl) (by kernel_rfl) h
def c3k(w)(R:RT)(_E:Pan):=
 ∀_τ:Fr,(R (vB true) w)
def d0U(x1 x2 x15 x16 x17 w)(next2:NT)(j1:NT)(R:RT)(E):=
 opK pG E (bN .lss 3 17 16 x17 x16) w fun e a=>
 xcond e
 (oP E (iA 52 x15 x17) a fun f g=>
 oP E (lA 75 f) g fun i j=>
 oP E (xV (Instr.alloc 75 true (.tuple #[]))) j fun b k=>
 oP E (sA 75 b i) k fun _ l=>
 oP E (iA 52 x1 x17) l fun m n=>
 oP E (lA 75 m) n fun o p=>
 oP E (xV (Instr.alloc 75 true (.tuple #[]))) p fun c q=>
 oP E (sA 75 c o) q fun _ r=>
 oP E (lA 75 b) r fun s t=>
 oP E (lA 75 c) t fun u v=>
 oP E (xCall x2 [s,u]) v fun y z=>
 oP E (xV (Op.unary .not y)) z fun aa d=>
 xcond aa
 (R (vB false) d)
 (oP E (bC .add 3 17 x17 (vI 1)) d fun ab ac=>
 next2 [ab] ac))
 (j1 [] a)
def F44(x0 x1 x2 w)(R:RT)(E):=
 opK pG E (xBuiltin .len #[52] 3 [false] [x0]) w fun b c=>
 oP E (xBuiltin .len #[52] 3 [false] [x1]) c fun d e=>
 oP E (bN .neq 3 11 13 b d) e fun f a=>
 xcond f
 (R (vB false) a)
 (xcut (fun _ g=>c3k g R E) fun j1=>
 oP E (xBuiltin .len #[52] 3 [false] [x0]) a fun i j=>
 xloop [17] [(vI 0)] j fun k l next2=>
 d0U x1 x2 x0 i (k 17) l next2 j1 R E)
def h44:Hint:=(sQ (hS (sQ (hC (sQ hN) hN)) (hU [] (sQ (hB (hL [17] (sQ (hS (hC hN hN) (hS (hB (sQ (sQ (sQ (hC (sQ hN) hN))))) hN)))))) (sQ hN))))
theorem d0V{x0 x1 x2:Value}(h:F44 x0 x1 x2 w R E):Cv pG 44 #[x0,x1,x2] w R E:=okF (h:=h44) Tryz.func44 (by kernel_rfl) (by kernel_rfl) h
def F45(x0 x1 w)(R:RT)(E):=
 opK pG E (xV (Instr.box 75 x0)) w fun d f=>
 oP E (xV (Instr.box 75 x1)) f fun e g=>
 oP E (fA 75 d 0) g fun i j=>
 oP E (lA 3 i) j fun k l=>
 oP E (fA 75 e 0) l fun m n=>
 oP E (lA 3 m) n fun o p=>
 oP E (bN .eql 3 6 8 k o) p fun a q=>
 oP E (gYs a (fA 75 d 1)) q fun r s=>
 oP E (gYs a (lA 3 r)) s fun t u=>
 oP E (gYs a (fA 75 e 1)) u fun v y=>
 oP E (gYs a (lA 3 v)) y fun z aa=>
 oP E (gYs a (bN .eql 3 12 14 t z)) aa fun ab ac=>
 oP E (xPick a ab (vB false)) ac fun b ad=>
 oP E (gYs b (fA 75 d 2)) ad fun ae af=>
 oP E (gYs b (lA 37 ae)) af fun ag ah=>
 oP E (gYs b (fA 75 e 2)) ah fun ai aj=>
 oP E (gYs b (lA 37 ai)) aj fun ak al=>
 oP E (gYs b (xCall (fC 42) [ag,ak,(fC 43)])) al fun am an=>
 oP E (xPick b am (vB false)) an fun c ao=>
 oP E (gYs c (fA 75 d 3)) ao fun ap aq=>
 oP E (gYs c (lA 52 ap)) aq fun ar au=>
 oP E (gYs c (fA 75 e 3)) au fun av aw=>
 oP E (gYs c (lA 52 av)) aw fun ax ay=>
 oP E (gYs c (xCall (fC 44) [ar,ax,(fC 45)])) ay fun az ba=>
 oP E (xPick c az (vB false)) ba fun bb bc=>
 R bb bc
def h45:Hint:=(sQ (sQ hN))
theorem d0W{x0 x1:Value}(h:F45 x0 x1 w R E):Cv pG 45 #[x0,x1] w R E:=okF (h:=h45) Tryz.func45 (by kernel_rfl) (by kernel_rfl) h
def c3l(x3 w)(R:RT)(E):=
 ∀_τ:Fr,(oP E (lA 70 x3) w fun a b=>
 R a b)
def F46(x0 w)(R:RT)(E):=
 opK pG E (xV (Instr.build 69 #[])) w fun f g=>
 oP E (xV (Instr.box 69 f)) g fun i j=>
 oP E (xV (Instr.alloc 70 true (.tuple #[]))) j fun a k=>
 oP E (sA 70 a i) k fun _ l=>
 oP E (xV (Instr.alloc 135 true (.tuple #[]))) l fun b m=>
 oP E (xV (Instr.makeFunc (.func 74) #[] #[a,b])) m fun n o=>
 oP E (sA 135 b n) o fun _ p=>
 xcut (fun _ q=>c3l a q R E) fun j1=>
 oP E (lA 135 b) p fun r s=>
 oP E (xCall r [x0,(vI 1)]) s fun t u=>
 oP E (xV (Op.unary .not t)) u fun v c=>
 xcond v
 (j1 [] c)
 (oP E (lA 70 a) c fun y z=>
 oP E (xNil y) z fun aa ab=>
 oP E (fA 69 aa 3) ab fun ac ad=>
 oP E (lA 4 ac) ad fun ae d=>
 xcond ae
 (oP E (lA 70 a) d fun af ag=>
 oP E (xNil af) ag fun ah ai=>
 oP E (fA 69 ah 2) ai fun aj ak=>
 oP E (sA 27 aj (vI 30)) ak fun _ al=>
 j1 [] al)
 (oP E (lA 70 a) d fun am an=>
 oP E (xNil am) an fun ao ap=>
 oP E (fA 69 ao 4) ap fun aq ar=>
 oP E (lA 4 aq) ar fun au e=>
 xcond au
 (oP E (lA 70 a) e fun av aw=>
 oP E (xNil av) aw fun ax ay=>
 oP E (fA 69 ax 2) ay fun az ba=>
 oP E (sA 27 az (vI 31)) ba fun _ bb=>
 j1 [] bb)
 (j1 [] e)))
def h46:Hint:=(sQ (sQ (sQ (sQ (hU [] (sQ (hB (sQ (hC hN (sQ (hC hN (sQ (hC hN hN)))))))) (sQ hN))))))
theorem d0X{x0:Value}(h:F46 x0 w R E):Cv pG 46 #[x0] w R E:=okF (h:=h46) Tryz.func46 (by kernel_rfl) (by kernel_rfl) h
def c3m(x3 w)(R:RT)(_E:Pan):=
 ∀_τ:Fr,(R x3 w)
def c3n(x3 w)(j1:NT)(_R:RT)(E):=
 ∀_τ:Fr,(oP E (bC .sub 3 18 x3 (vI 1)) w fun a b=>
 j1 [a] b)
def c3o(x3 w)(j2:NT)(_R:RT)(E):=
 ∀_τ:Fr,(oP E (bC .sub 3 16 x3 (vI 1)) w fun a b=>
 j2 [a] b)
def c3p(x3 x4 x8 w)(j3:NT)(j2:NT)(j1:NT)(_R:RT)(E):=
 ∀_τ:Fr,(xcond x8
 (j3 [x3] w)
 (oP E (bC .eql 3 4 x4 (vI 5)) w fun b a=>
 xcond b
 (j2 [x3] a)
 (j1 [x3] a)))
def c3q(x3 x4 x5 w)(j3:NT)(j2:NT)(j1:NT)(R:RT)(E):=
 ∀_τ:Fr,(xcond x5
 (oP E (bC .sub 3 14 x3 (vI 1)) w fun e f=>
 j3 [e] f)
 (xcut (fun g i=>c3p x3 x4 (nth g 0) i j3 j2 j1 R E) fun j5=>
 oP E (bC .eql 3 4 x4 (vI 8)) w fun a b=>
 xcond a
 (j5 [a] b)
 (oP E (bC .eql 3 4 x4 (vI 9)) b fun c d=>
 xcond c
 (j5 [c] d)
 (oP E (bC .eql 3 4 x4 (vI 10)) d fun j k=>
 j5 [j] k))))
def F47(x0 w)(R:RT)(E):=
 xcut (fun c d=>c3m (nth c 0) d R E) fun j1=>
 xcut (fun e f=>c3n (nth e 0) f j1 R E) fun j2=>
 xcut (fun g i=>c3o (nth g 0) i j2 R E) fun j3=>
 xcut (fun j k=>c3q (vI 4) x0 (nth j 0) k j3 j2 j1 R E) fun j4=>
 oP E (bC .eql 3 4 x0 (vI 6)) w fun a b=>
 xcond a
 (j4 [a] b)
 (oP E (bC .eql 3 4 x0 (vI 7)) b fun l m=>
 j4 [l] m)
def h47:Hint:=(sQ (sQ (hU [3] (sQ (hB (hU [3] (hB (hU [3] (hB (hS (hB (hS (hS (hU [5] (sQ (hC hN hN)) (hC hN hN)) (hS (hU [8] (sQ (hC hN (sQ (hC hN hN)))) (hC hN hN)) (sQ (hC hN hN)))) hN)) hN)) hN)) (sQ hN)))) (sQ hN))))
theorem d0Y{x0:Value}(h:F47 x0 w R E):Cv pG 47 #[x0] w R E:=okF (h:=h47) Tryz.func47 (by kernel_rfl) (by kernel_rfl) h
def F49(x0 x1 x2 w)(R:RT)(E):=
 opK pG E (xV (Instr.box 41 x0)) w fun a g=>
 oP E (xV (Instr.box 39 x1)) g fun d i=>
 dX i fun b=>
 qP pG (fA 39 d 0) fun e=>
 qP pG (xV (Instr.makeFunc (.func 77) #[] #[a,d])) fun j=>
 qL pG b (blk a) (lA 41 a) fun k=>
 qL pG b (blk e) (lA 3 e) fun l=>
 oP E (xCall (fC 47) [l]) b fun m c=>
 keepX [(blk a)] b c (qP pG (bN .lss 3 9 10 m x2) fun n=>
 oP E (xCall (fC 76) [k,n,(Value.string ⟨#[40]⟩),(Value.string ⟨#[41]⟩),j]) c fun _t13_13 f=>
 keepX [] c f (R (Value.tuple #[]) f))
def h49:Hint:=(sQ (.reg [(0,64,8),(0,128,16),(2,256,128),(4,512,256),(0,1024,4),(24,2048,1536),(0,4096,24),(105,8192,6208)] [4,5,1,1,5,5,5,0] (.early 1 (.early 4 (.early 6 (.load 0 (.load 2 (.step 3 (.early 5 (.step 7 .done))))))))))
theorem d0Z{x0 x1 x2:Value}(h:F49 x0 x1 x2 w R E):Cv pG 49 #[x0,x1,x2] w R E:=okF (h:=h49) Tryz.func49 (by kernel_rfl) (by kernel_rfl) h
def F50(x0 w)(R:RT)(E):=
 opK pG E (xV (Instr.build 139 #[(0,(Value.string ⟨#[43]⟩)),(1,(Value.string ⟨#[45]⟩)),(2,(Value.string ⟨#[42]⟩)),(3,(Value.string ⟨#[47]⟩)),(4,(Value.string ⟨#[37]⟩))])) w fun a b=>
 oP E (bC .sub 3 4 x0 (vI 6)) b fun c d=>
 oP E (xV (Instr.index 139 a c)) d fun e f=>
 R e f
def h50:Hint:=(sQ (sQ hN))
theorem d1a{x0:Value}(h:F50 x0 w R E):Cv pG 50 #[x0] w R E:=okF (h:=h50) Tryz.func50 (by kernel_rfl) (by kernel_rfl) h
def c3r(x6 w)(R:RT)(_E:Pan):=
 ∀_τ:Fr,(R x6 w)
def d1b(x6 x25 x26 x27 w)(next3:NT)(j2:NT)(_R:RT)(E):=
 opK pG E (bN .lss 3 27 26 x27 x26) w fun b a=>
 xcond b
 (oP E (iA 140 x25 x27) a fun c d=>
 oP E (lA 101 c) d fun e f=>
 oP E (xBuiltin .append #[101,101] 101 [false,false] [x6,e]) f fun g i=>
 oP E (bC .add 3 27 x27 (vI 1)) i fun j k=>
 next3 [g,j] k)
 (j2 [x6] a)
def c3s(x0 x3 w)(R:RT)(E):=
 ∀_τ:Fr,(oP E (xCall (fC 78) [(nS),x3]) w fun b c=>
 xcut (fun d e=>c3r (nth d 0) e R E) fun j2=>
 oP E (xBuiltin .len #[140] 3 [false] [x0]) c fun f g=>
 xloop [6,27] [b,(vI 0)] g fun a i next3=>
 d1b (a 6) x0 f (a 27) i next3 j2 R E)
def c3t(_x0 x3 _x9 _x10 x11:Value)(w)(next4:NT)(_R:RT)(E):=
 ∀_τ:Fr,(oP E (bC .add 3 11 x11 (vI 1)) w fun a b=>
 next4 [x3,a] b)
def d1c(x0 x3 x9 x10 x11 w)(next4:NT)(j1:NT)(R:RT)(E):=
 opK pG E (bN .lss 3 11 10 x11 x10) w fun d b=>
 xcond d
 (xcut (fun e f=>c3t x0 (nth e 0) x9 x10 x11 f next4 R E) fun j5=>
 oP E (iA 140 x9 x11) b fun g i=>
 oP E (lA 101 g) i fun j k=>
 oP E (xBuiltin .len #[101] 3 [false] [j]) k fun l m=>
 oP E (bN .add 3 15 17 x3 l) m fun a n=>
 oP E (bC .lss 3 19 a (vI 0)) n fun o c=>
 xcond o
 (oP E (xV (Instr.makeInterface 9 (Value.string ⟨#[108,101,110,32,111,117,116,32,111,102,32,114,97,110,103,101]⟩))) c fun p q=>
 oP E (xV (Instr.panic p)) q fun _ r=>
 j5 [a] r)
 (j5 [a] c))
 (j1 [x3] b)
def F51(x0 w)(R:RT)(E):=
 xcut (fun b c=>c3s x0 (nth b 0) c R E) fun j1=>
 oP E (xBuiltin .len #[140] 3 [false] [x0]) w fun d e=>
 xloop [3,11] [(vI 0),(vI 0)] e fun a f next4=>
 d1c x0 (a 3) x0 d (a 11) f next4 j1 R E
def h51:Hint:=(sQ (sQ (hU [3] (sQ (hB (hL [3,11] (sQ (hS (hC hN hN) (hU [3] (hB (sQ (sQ (sQ (hC hN hN))))) hN)))))) (sQ (hU [6] (sQ (hB (hL [6,27] (sQ (hS (hC hN hN) (hS (hB (sQ hN)) hN)))))) (sQ hN))))))
theorem d1d{x0:Value}(h:F51 x0 w R E):Cv pG 51 #[x0] w R E:=okF (h:=h51) Tryz.func51 (by kernel_rfl) (by kernel_rfl) h
def c3u(x5 w)(R:RT)(_E:Pan):=
 ∀_τ:Fr,(R x5 w)
def d1e(x1 x5 x8 x9 x10 w)(next2:NT)(j1:NT)(_R:RT)(E):=
 opK pG E (bN .lss 3 10 9 x10 x9) w fun c a=>
 xcond c
 (oP E (iA 22 x8 x10) a fun d e=>
 oP E (lA 49 d) e fun f g=>
 oP E (xV (Instr.alloc 49 true (.tuple #[]))) g fun b i=>
 oP E (sA 49 b f) i fun _ j=>
 oP E (lA 49 b) j fun k l=>
 oP E (xCall x1 [k]) l fun m n=>
 oP E (xV (Instr.buildSlice 101 1 #[(0,m)])) n fun o p=>
 oP E (xBuiltin .append #[101,101] 101 [false,false] [x5,o]) p fun q r=>
 oP E (bC .add 3 10 x10 (vI 1)) r fun s t=>
 next2 [q,s] t)
 (j1 [x5] a)
def F52(x0 x1 w)(R:RT)(E):=
 xcut (fun b c=>c3u (nth b 0) c R E) fun j1=>
 oP E (xBuiltin .len #[22] 3 [false] [x0]) w fun d e=>
 xloop [5,10] [(nS),(vI 0)] e fun a f next2=>
 d1e x1 (a 5) x0 d (a 10) f next2 j1 R E
def h52:Hint:=(sQ (sQ (hU [5] (sQ (hB (hL [5,10] (sQ (hS (hC hN hN) (hS (hB (sQ hN)) hN)))))) (sQ hN))))
theorem d1f{x0 x1:Value}(h:F52 x0 x1 w R E):Cv pG 52 #[x0,x1] w R E:=okF (h:=h52) Tryz.func52 (by kernel_rfl) (by kernel_rfl) h
def F53(x0 w)(R:RT)(E):=
 opK pG E (xV (Instr.box 49 x0)) w fun a b=>
 oP E (lA 49 a) b fun c d=>
 oP E (xV (Instr.build 143 #[(0,c)])) d fun e f=>
 oP E (xV (Instr.makeInterface 143 e)) f fun g i=>
 R g i
def h53:Hint:=(sQ (sQ hN))
theorem d1g{x0:Value}(h:F53 x0 w R E):Cv pG 53 #[x0] w R E:=okF (h:=h53) Tryz.func53 (by kernel_rfl) (by kernel_rfl) h
def c3v(x5 w)(R:RT)(_E:Pan):=
 ∀_τ:Fr,(R x5 w)
def d1h(x1 x5 x8 x9 x10 w)(next2:NT)(j1:NT)(_R:RT)(E):=
 opK pG E (bN .lss 3 10 9 x10 x9) w fun c a=>
 xcond c
 (oP E (iA 23 x8 x10) a fun d e=>
 oP E (lA 54 d) e fun f g=>
 oP E (xV (Instr.alloc 54 true (.tuple #[]))) g fun b i=>
 oP E (sA 54 b f) i fun _ j=>
 oP E (lA 54 b) j fun k l=>
 oP E (xCall x1 [k]) l fun m n=>
 oP E (xV (Instr.buildSlice 101 1 #[(0,m)])) n fun o p=>
 oP E (xBuiltin .append #[101,101] 101 [false,false] [x5,o]) p fun q r=>
 oP E (bC .add 3 10 x10 (vI 1)) r fun s t=>
 next2 [q,s] t)
 (j1 [x5] a)
def F54(x0 x1 w)(R:RT)(E):=
 xcut (fun b c=>c3v (nth b 0) c R E) fun j1=>
 oP E (xBuiltin .len #[23] 3 [false] [x0]) w fun d e=>
 xloop [5,10] [(nS),(vI 0)] e fun a f next2=>
 d1h x1 (a 5) x0 d (a 10) f next2 j1 R E
def h54:Hint:=(sQ (sQ (hU [5] (sQ (hB (hL [5,10] (sQ (hS (hC hN hN) (hS (hB (sQ hN)) hN)))))) (sQ hN))))
theorem d1i{x0 x1:Value}(h:F54 x0 x1 w R E):Cv pG 54 #[x0,x1] w R E:=okF (h:=h54) Tryz.func54 (by kernel_rfl) (by kernel_rfl) h
def F55(x0 w)(R:RT)(E):=
 opK pG E (xV (Instr.box 54 x0)) w fun a b=>
 oP E (lA 54 a) b fun c d=>
 oP E (xV (Instr.build 145 #[(0,c)])) d fun e f=>
 oP E (xV (Instr.makeInterface 145 e)) f fun g i=>
 R g i
def h55:Hint:=(sQ (sQ hN))
theorem d1j{x0:Value}(h:F55 x0 w R E):Cv pG 55 #[x0] w R E:=okF (h:=h55) Tryz.func55 (by kernel_rfl) (by kernel_rfl) h
def F57(x0 x1 w)(R:RT)(E):=
 opK pG E (xCall (fC 82) [x0]) w fun _t7_1 a=>
 oP E (xNil x0) a fun b c=>
 oP E (fA 45 b 1) c fun d e=>
 oP E (lA 43 d) e fun f g=>
 oP E (xBuiltin .append #[43,9] 43 [false,false] [f,x1]) g fun i j=>
 oP E (xNil x0) j fun k l=>
 oP E (fA 45 k 1) l fun m n=>
 oP E (sA 43 m i) n fun _ o=>
 oP E (xBuiltin .len #[9] 3 [false] [x1]) o fun p q=>
 R (Value.tuple #[p,Value.nilIface]) q
def h57:Hint:=(sQ (sQ (sQ (sQ hN))))
theorem d1k{x0 x1:Value}(h:F57 x0 x1 w R E):Cv pG 57 #[x0,x1] w R E:=okF (h:=h57) Tryz.func57 (by kernel_rfl) (by kernel_rfl) h
def F59(x0 x1 x2 x3 w)(R:RT)(E):=
 opK pG E (lA 41 x0) w fun a b=>
 oP E (lA 9 x1) b fun c d=>
 oP E (xV (Instr.buildSlice 67 2 #[(0,c),(1,(Value.string ⟨#[32]⟩))])) d fun e f=>
 oP E (xCall (fC 26) [a,e]) f fun _t7_7 g=>
 oP E (lA 41 x0) g fun i j=>
 oP E (lA 75 x2) j fun k l=>
 oP E (xCall (fC 60) [i,k]) l fun _t10_13 m=>
 oP E (lA 41 x0) m fun n o=>
 oP E (lA 9 x3) o fun p q=>
 oP E (xV (Instr.buildSlice 67 1 #[(0,p)])) q fun r s=>
 oP E (xCall (fC 26) [n,r]) s fun _t14_21 t=>
 R (Value.tuple #[]) t
def h59:Hint:=(sQ (sQ hN))
theorem d1l{x0 x1 x2 x3:Value}(h:F59 x0 x1 x2 x3 w R E):Cv pG 59 #[x0,x1,x2,x3] w R E:=okF (h:=h59) Tryz.func59 (by kernel_rfl) (by kernel_rfl) h
def c3w(x0 x3 x4 x5 w)(R:RT)(E):=
 ∀_τ:Fr,(oP E (fA 75 x3 3) w fun a b=>
 oP E (lA 52 a) b fun c d=>
 oP E (iA 52 c (vI 0)) d fun e f=>
 oP E (lA 75 e) f fun g i=>
 oP E (xCall (fC 88) [x0,g,x4]) i fun _t63_17 j=>
 oP E (xV (Instr.buildSlice 67 1 #[(0,x5)])) j fun k l=>
 oP E (xCall (fC 26) [x0,k]) l fun _t67_21 m=>
 oP E (fA 75 x3 3) m fun n o=>
 oP E (lA 52 n) o fun p q=>
 oP E (iA 52 p (vI 1)) q fun r s=>
 oP E (lA 75 r) s fun t u=>
 oP E (bC .add 3 73 x4 (vI 1)) u fun v y=>
 oP E (xCall (fC 88) [x0,t,v]) y fun _t75_33 z=>
 R (Value.tuple #[]) z)
def F60(x0 x1 w)(R:RT)(E):=
 opK pG E (xV (Instr.box 75 x1)) w fun a j=>
 oP E (fA 75 a 0) j fun k l=>
 oP E (lA 3 k) l fun m n=>
 oP E (xCall (fC 87) [m]) n fun c o=>
 xcut (fun p q=>c3w x0 a c (nth p 0) q R E) fun j1=>
 oP E (fA 75 a 0) o fun r s=>
 oP E (lA 3 r) s fun b t=>
 oP E (bC .eql 3 10 b (vI 1)) t fun u d=>
 xcond u
 (oP E (xV (Instr.buildSlice 67 1 #[(0,(Value.string ⟨#[116,114,117,101]⟩))])) d fun v y=>
 oP E (xCall (fC 26) [x0,v]) y fun _t15_45 z=>
 R (Value.tuple #[]) z)
 (oP E (bC .eql 3 10 b (vI 2)) d fun aa e=>
 xcond aa
 (oP E (xV (Instr.buildSlice 67 1 #[(0,(Value.string ⟨#[102,97,108,115,101]⟩))])) e fun ab ac=>
 oP E (xCall (fC 26) [x0,ab]) ac fun _t20_51 ad=>
 R (Value.tuple #[]) ad)
 (oP E (bC .eql 3 10 b (vI 3)) e fun ae f=>
 xcond ae
 (oP E (fA 75 a 2) f fun af ag=>
 oP E (lA 37 af) ag fun ah ai=>
 oP E (iA 37 ah (vI 0)) ai fun aj ak=>
 oP E (lA 39 aj) ak fun al am=>
 oP E (xCall (fC 22) [x0,al]) am fun _t28_63 an=>
 oP E (xV (Instr.build 157 #[(0,(Value.string ⟨#[60]⟩)),(1,(Value.string ⟨#[60,61]⟩)),(2,(Value.string ⟨#[61,61]⟩)),(3,(Value.string ⟨#[33,61]⟩)),(4,(Value.string ⟨#[62]⟩)),(5,(Value.string ⟨#[62,61]⟩))])) an fun ao ap=>
 oP E (fA 75 a 1) ap fun aq ar=>
 oP E (lA 3 aq) ar fun au av=>
 oP E (bC .sub 3 32 au (vI 1)) av fun aw ax=>
 oP E (xV (Instr.index 157 ao aw)) ax fun ay az=>
 oP E (xV (Instr.buildSlice 67 3 #[(0,(Value.string ⟨#[32]⟩)),(1,ay),(2,(Value.string ⟨#[32]⟩))])) az fun ba bb=>
 oP E (xCall (fC 26) [x0,ba]) bb fun _t36_77 bc=>
 oP E (fA 75 a 2) bc fun bd be=>
 oP E (lA 37 bd) be fun bf bg=>
 oP E (iA 37 bf (vI 1)) bg fun bh bi=>
 oP E (lA 39 bh) bi fun bj bk=>
 oP E (xCall (fC 22) [x0,bj]) bk fun _t42_87 bl=>
 R (Value.tuple #[]) bl)
 (oP E (bC .eql 3 10 b (vI 4)) f fun bm g=>
 xcond bm
 (oP E (xV (Instr.buildSlice 67 1 #[(0,(Value.string ⟨#[33]⟩))])) g fun bn bo=>
 oP E (xCall (fC 26) [x0,bn]) bo fun _t47_93 bp=>
 oP E (fA 75 a 3) bp fun bq br=>
 oP E (lA 52 bq) br fun bs bt=>
 oP E (iA 52 bs (vI 0)) bt fun bu bv=>
 oP E (lA 75 bu) bv fun bw bz=>
 oP E (xCall (fC 88) [x0,bw,c]) bz fun _t54_103 ca=>
 R (Value.tuple #[]) ca)
 (oP E (bC .eql 3 10 b (vI 6)) g fun cb i=>
 xcond cb
 (j1 [(Value.string ⟨#[32,124,124,32]⟩)] i)
 (j1 [(Value.string ⟨#[32,38,38,32]⟩)] i)))))
def h60:Hint:=(sQ (sQ (sQ (hU [5] (sQ (hB (sQ (hC (sQ hN) (sQ (hC (sQ hN) (sQ (hC (sQ (sQ (sQ hN))) (sQ (hC (sQ (sQ hN)) (sQ (hC hN hN)))))))))))) (sQ (sQ hN))))))
theorem d1m{x0 x1:Value}(h:F60 x0 x1 w R E):Cv pG 60 #[x0,x1] w R E:=okF (h:=h60) Tryz.func60 (by kernel_rfl) (by kernel_rfl) h
def c3x(w)(R:RT)(_E:Pan):=
 ∀_τ:Fr,(R (Value.tuple #[(vI 0),(vI 0)]) w)
def d1n(x0 x12 w)(next2:NT)(j1:NT)(R:RT)(E):=
 opK pG E (xV (Instr.next x12 true 0)) w fun a g=>
 oP E (xT a 0) g fun i b=>
 xcond i
 (oP E (xT a 1) b fun c j=>
 oP E (xT a 2) j fun k l=>
 oP E (bC .neq 21 17 k (Value.int .i32 65533)) l fun m d=>
 xcond m
 (next2 [] d)
 (oP E (xV (Instr.sliceAt 9 x0 (some c) none none)) d fun n o=>
 oP E (xCall (fC 89) [n]) o fun e p=>
 oP E (xT e 0) p fun _t24_23 q=>
 oP E (xT e 1) q fun r s=>
 oP E (bC .eql 3 26 r (vI 1)) s fun t f=>
 xcond t
 (R (Value.tuple #[c,(vI 11)]) f)
 (next2 [] f)))
 (j1 [] b)
def F61(x0 w)(R:RT)(E):=
 opK pG E (xBuiltin .len #[9] 3 [false] [x0]) w fun b c=>
 oP E (bC .gtr 3 9 b (vI 65536)) c fun d a=>
 xcond d
 (R (Value.tuple #[(vI 0),(vI 10)]) a)
 (xcut (fun _ e=>c3x e R E) fun j1=>
 oP E (xV (Instr.range 9 x0)) a fun f g=>
 xloop [] [] g fun _ i next2=>
 d1n x0 f i next2 j1 R E)
def h61:Hint:=(sQ (hS (sQ (hC (sQ hN) hN)) (hU [] (sQ (hB (hL [] (sQ (hS (hC hN hN) (hB (sQ (hS (sQ (hC hN hN)) (sQ (sQ (hC (sQ hN) hN))))))))))) (sQ hN))))
theorem d1o{x0:Value}(h:F61 x0 w R E):Cv pG 61 #[x0] w R E:=okF (h:=h61) Tryz.func61 (by kernel_rfl) (by kernel_rfl) h
def d1p(x0 x2 w)(next1:NT)(R:RT)(E):=
 opK pG E (xCall (fC 95) [x0]) w fun b c=>
 oP E (xCall (fC 80) [b,(Value.string ⟨#[35]⟩)]) c fun d a=>
 xcond d
 (oP E (xCall (fC 94) [x0,(fC 96)]) a fun _t13_7 e=>
 oP E (xCall (fC 94) [x0,x2]) e fun _t11_9 f=>
 next1 [] f)
 (R (Value.tuple #[]) a)
def F63(x0 w)(R:RT)(E):=
 opK pG E (xCall (fC 94) [x0,(fC 92)]) w fun _t5_1 a=>
 xloop [] [] a fun _ b next1=>
 d1p x0 (fC 92) b next1 R E
def h63:Hint:=(sQ (sQ (hB (hL [] (hS (sQ (hC hN hN)) (hS (hB hN) hN))))))
theorem d1q{x0:Value}(h:F63 x0 w R E):Cv pG 63 #[x0] w R E:=okF (h:=h63) Tryz.func63 (by kernel_rfl) (by kernel_rfl) h
def c3y(w)(R:RT)(_E:Pan):=
 ∀_τ:Fr,(R (Value.tuple #[(Value.int .i32 0),(vB false)]) w)
def c3z(x8 w)(j1:NT)(R:RT)(E):=
 opK pG E (xV (Instr.next x8 true 0)) w fun a c=>
 oP E (xT a 0) c fun d b=>
 xcond d
 (oP E (xT a 2) b fun e f=>
 R (Value.tuple #[e,(vB true)]) f)
 (j1 [] b)
def F64(x0 w)(R:RT)(E):=
 xcut (fun _ a=>c3y a R E) fun j1=>
 oP E (xCall (fC 95) [x0]) w fun b c=>
 oP E (xV (Instr.range 9 b)) c fun d e=>
 xloop [] [] e fun _ f _=>
 c3z d f j1 R E
def h64:Hint:=(sQ (hU [] (sQ (hB (hL [] (sQ (hS (hC hN hN) (hB (sQ (sQ hN)))))))) (sQ hN)))
theorem d1r{x0:Value}(h:F64 x0 w R E):Cv pG 64 #[x0] w R E:=okF (h:=h64) Tryz.func64 (by kernel_rfl) (by kernel_rfl) h
def F65(x0 x1 w)(R:RT)(E):=
 opK pG E (xCall (fC 93) [x1]) w fun a e=>
 oP E (bC .eql 3 6 a (vI 3)) e fun f b=>
 xcond f
 (oP E (xV (Instr.makeFunc (.func 97) #[x0] #[])) b fun g i=>
 R g i)
 (oP E (bC .eql 3 6 a (vI 4)) b fun j c=>
 xcond j
 (oP E (xV (Instr.makeFunc (.func 98) #[x0] #[])) c fun k l=>
 R k l)
 (oP E (bC .eql 3 6 a (vI 5)) c fun m d=>
 xcond m
 (oP E (xV (Instr.makeFunc (.func 99) #[x0] #[])) d fun n o=>
 R n o)
 (R (fC 100) d)))
def h65:Hint:=(sQ (hS (sQ (hB (sQ (hC (sQ hN) (sQ (hC (sQ hN) (sQ (hC (sQ hN) hN)))))))) (sQ hN)))
theorem d1s{x0 x1:Value}(h:F65 x0 x1 w R E):Cv pG 65 #[x0,x1] w R E:=okF (h:=h65) Tryz.func65 (by kernel_rfl) (by kernel_rfl) h
def c3A(x0 x4 w)(R:RT)(E):=
 ∀_τ:Fr,(oP E (xCall (fC 68) [x0]) w fun b c=>
 oP E (sA 88 x4 b) c fun _ a=>
 xcell pG 88 x4 a fun d=>
 R d a)
def F66(x0 x1 w)(R:RT)(E):=
 opK pG E (xV (Instr.alloc 88 true (.tuple #[]))) w fun b c=>
 xcut (fun _ d=>c3A x0 b d R E) fun j1=>
 oP E (xCall (fC 35) [x0]) c fun e f=>
 oP E (xV (Instr.field 88 e 0)) f fun g i=>
 oP E (bN .neq 3 7 8 g x1) i fun j a=>
 xcond j
 (oP E (xCall (fC 36) [x0]) a fun _t11_16 k=>
 j1 [] k)
 (j1 [] a)
def h66:Hint:=(sQ (hU [] (sQ (hC hN hN)) (sQ hN)))
theorem d1t{x0 x1:Value}(h:F66 x0 x1 w R E):Cv pG 66 #[x0,x1] w R E:=okF (h:=h66) Tryz.func66 (by kernel_rfl) (by kernel_rfl) h
def F67(x0 x1 w)(R:RT)(E):=
 opK pG E (xCall (fC 69) [x0,x1]) w fun b c=>
 oP E (xV (Op.unary .not b)) c fun d a=>
 xcond d
 (oP E (xCall (fC 36) [x0]) a fun _t9_5 e=>
 R (Value.tuple #[]) e)
 (R (Value.tuple #[]) a)
def h67:Hint:=(sQ (hC hN hN))
theorem d1u{x0 x1:Value}(h:F67 x0 x1 w R E):Cv pG 67 #[x0,x1] w R E:=okF (h:=h67) Tryz.func67 (by kernel_rfl) (by kernel_rfl) h
def c3B(x0 x2 x3 w)(R:RT)(E):=
 ∀_τ:Fr,(oP E (xNil x0) w fun b c=>
 oP E (fA 86 b 1) c fun d e=>
 oP E (lA 3 d) e fun f g=>
 oP E (bC .add 3 14 f (vI 1)) g fun i j=>
 oP E (xNil x0) j fun k l=>
 oP E (fA 86 k 1) l fun m n=>
 oP E (sA 3 m i) n fun _ o=>
 oP E (lA 88 x3) o fun p q=>
 oP E (sA 88 x2 p) q fun _ a=>
 xcell pG 88 x2 a fun r=>
 R r a)
def F68(x0 w)(R:RT)(E):=
 opK pG E (xV (Instr.alloc 88 true (.tuple #[]))) w fun c d=>
 oP E (xCall (fC 35) [x0]) d fun e f=>
 oP E (xV (Instr.alloc 88 true (.tuple #[]))) f fun a g=>
 oP E (sA 88 a e) g fun _ i=>
 xcut (fun _ j=>c3B x0 c a j R E) fun j1=>
 oP E (fA 88 a 0) i fun k l=>
 oP E (lA 3 k) l fun m n=>
 oP E (bC .eql 3 7 m (vI 5)) n fun o b=>
 xcond o
 (oP E (xCall (fC 36) [x0]) b fun _t10_36 p=>
 j1 [] p)
 (j1 [] b)
def h68:Hint:=(sQ (sQ (hU [] (sQ (hC hN hN)) (sQ (sQ hN)))))
theorem d1v{x0:Value}(h:F68 x0 w R E):Cv pG 68 #[x0] w R E:=okF (h:=h68) Tryz.func68 (by kernel_rfl) (by kernel_rfl) h
def F69(x0 x1 w)(R:RT)(E):=
 opK pG E (xCall (fC 37) [x0,x1]) w fun b c=>
 oP E (xV (Op.unary .not b)) c fun d a=>
 xcond d
 (R (vB false) a)
 (oP E (xNil x0) a fun e f=>
 oP E (fA 86 e 1) f fun g i=>
 oP E (lA 3 g) i fun j k=>
 oP E (bC .add 3 12 j (vI 1)) k fun l m=>
 oP E (xNil x0) m fun n o=>
 oP E (fA 86 n 1) o fun p q=>
 oP E (sA 3 p l) q fun _ r=>
 R (vB true) r)
def h69:Hint:=(sQ (hS (sQ (hC (sQ hN) hN)) (sQ (sQ hN))))
theorem d1w{x0 x1:Value}(h:F69 x0 x1 w R E):Cv pG 69 #[x0,x1] w R E:=okF (h:=h69) Tryz.func69 (by kernel_rfl) (by kernel_rfl) h
def F70(x0 x1 x2 w)(R:RT)(E):=
 opK pG E (xV (Instr.alloc 39 true (.tuple #[]))) w fun a d=>
 oP E (bC .add 3 9 x1 (vI 1)) d fun e f=>
 oP E (xCall (fC 101) [x0]) f fun g i=>
 oP E (xCall (fC 39) [x0,e,g]) i fun _t13_7 j=>
 oP E (bC .add 3 15 x1 (vI 1)) j fun k l=>
 oP E (xCall (fC 71) [x0,k]) l fun m n=>
 oP E (xV (Instr.alloc 39 true (.tuple #[]))) n fun b o=>
 oP E (sA 39 b m) o fun _ p=>
 oP E (xCall (fC 67) [x0,x2]) p fun _t20_17 q=>
 oP E (lA 39 b) q fun r s=>
 oP E (sA 39 a r) s fun _ c=>
 xcell pG 39 a c fun t=>
 R t c
def h70:Hint:=(sQ (sQ (sQ (sQ (sQ hN)))))
theorem d1x{x0 x1 x2:Value}(h:F70 x0 x1 x2 w R E):Cv pG 70 #[x0,x1,x2] w R E:=okF (h:=h70) Tryz.func70 (by kernel_rfl) (by kernel_rfl) h
def F71(x0 x1 w)(R:RT)(E):=
 opK pG E (xV (Instr.alloc 39 true (.tuple #[]))) w fun a c=>
 oP E (xV (Instr.buildSlice 67 2 #[(0,(Value.string ⟨#[43]⟩)),(1,(Value.string ⟨#[45]⟩))])) c fun d e=>
 oP E (xV (Instr.buildSlice 169 2 #[(0,(vI 6)),(1,(vI 7))])) e fun f g=>
 oP E (xV (Instr.makeFunc (.func 103) #[x0] #[])) g fun i j=>
 oP E (xV (Instr.build 171 #[(0,d),(1,f),(2,i)])) j fun k l=>
 oP E (xCall (fC 102) [x0,x1,k]) l fun m n=>
 oP E (sA 39 a m) n fun _ b=>
 xcell pG 39 a b fun o=>
 R o b
def h71:Hint:=(sQ (sQ hN))
theorem d1y{x0 x1:Value}(h:F71 x0 x1 w R E):Cv pG 71 #[x0,x1] w R E:=okF (h:=h71) Tryz.func71 (by kernel_rfl) (by kernel_rfl) h
def F72(x0 x1 w)(R:RT)(E):=
 opK pG E (xV (Instr.box 60 x0)) w fun a d=>
 oP E (xV (Instr.alloc 75 true (.tuple #[]))) d fun b e=>
 oP E (xV (Instr.makeFunc (.func 104) #[] #[a])) e fun f g=>
 oP E (lA 60 a) g fun i j=>
 oP E (xCall (fC 105) [i,x1,(Value.string ⟨#[124,124]⟩),(vI 6),f]) j fun k l=>
 oP E (sA 75 b k) l fun _ c=>
 xcell pG 75 b c fun m=>
 R m c
def h72:Hint:=(sQ (sQ (sQ hN)))
theorem d1z{x0 x1:Value}(h:F72 x0 x1 w R E):Cv pG 72 #[x0,x1] w R E:=okF (h:=h72) Tryz.func72 (by kernel_rfl) (by kernel_rfl) h
def c3C(x5 w)(R:RT)(_E:Pan):=
 ∀_τ:Fr,(R x5 w)
def d1A(x0 x1 x5 w)(next2:NT)(j1:NT)(_R:RT)(E):=
 opK pG E (xCall (fC 69) [x0,(Value.string ⟨#[125]⟩)]) w fun b c=>
 oP E (xV (Op.unary .not b)) c fun d a=>
 xcond d
 (oP E (bC .add 3 12 x1 (vI 1)) a fun e f=>
 oP E (xCall (fC 40) [x0]) f fun g i=>
 oP E (xCall (fC 39) [x0,e,g]) i fun _t16_13 j=>
 oP E (bC .add 3 19 x1 (vI 1)) j fun k l=>
 oP E (xCall (fC 41) [x0,k]) l fun m n=>
 oP E (xV (Instr.buildSlice 23 1 #[(0,m)])) n fun o p=>
 oP E (xBuiltin .append #[23,23] 23 [false,false] [x5,o]) p fun q r=>
 next2 [q] r)
 (j1 [x5] a)
def F73(x0 x1 w)(R:RT)(E):=
 opK pG E (xCall (fC 67) [x0,(Value.string ⟨#[123]⟩)]) w fun _t7_1 a=>
 xcut (fun b c=>c3C (nth b 0) c R E) fun j1=>
 xloop [5] [(nS)] a fun d e next2=>
 d1A x0 x1 (d 5) e next2 j1 R E
def h73:Hint:=(sQ (sQ (sQ (hU [5] (hB (hL [5] (hS (sQ (hC hN hN)) (hB (sQ hN))))) (sQ hN)))))
theorem d1B{x0 x1:Value}(h:F73 x0 x1 w R E):Cv pG 73 #[x0,x1] w R E:=okF (h:=h73) Tryz.func73 (by kernel_rfl) (by kernel_rfl) h
def c3D(w)(R:RT)(_E:Pan):=
 ∀_τ:Fr,(R (vB true) w)
def d1C(x1 x2 x3 x9 x10 x11 w)(next2:NT)(j1:NT)(R:RT)(E):=
 opK pG E (bN .lss 3 11 10 x11 x10) w fun i f=>
 xcond i
 (oP E (iA 101 x9 x11) f fun j k=>
 oP E (lA 107 j) k fun g l=>
 dX l fun c=>
 qL pG c (blk x2) (lA 70 x2) fun m=>
 oP E (xCall (fC 75) [m,g,x1]) c fun n b=>
 keepX [] c b (qP pG (xV (Op.unary .not n)) fun a=>
 qP pG (gNo a (bC .add 3 24 (zF a x1) (vI 1))) fun o=>
 qL pG b (blk x3) (gNo a (lA 135 x3)) fun p=>
 oP E (gNo a (xInvoke (zF a g) "gnomon/tree.parts" [])) b fun q d =>
 keepX [(blk x3)] b d (opK pG E (gNo a (xCall p [q,o])) d fun r e=>
 keepX [] d e (qP pG (gNo a (xV (Op.unary .not r))) fun s=>
 qP pG (xPick a (vB true) s) fun t=>
 xcond t
 (R (vB false) e)
 (oP E (bC .add 3 11 x11 (vI 1)) e fun u v=>
 next2 [u] v)))))
 (j1 [] f)
def F74(x0 x1 x2 x3 w)(R:RT)(E):=
 xcut (fun _ a=>c3D a R E) fun j1=>
 oP E (xBuiltin .len #[101] 3 [false] [x0]) w fun b c=>
 xloop [11] [(vI 0)] c fun d e next2=>
 d1C x1 x2 x3 x0 b (d 11) e next2 j1 R E
def h74:Hint:=(sQ (hU [] (sQ (hB (hL [11] (sQ (hS (hC hN hN) (hS (hB (sQ (hS (.reg [(0,32768,4),(0,65536,256),(0,131072,2),(7,262144,229376),(8,524288,262144),(24,1048576,524288),(32,2097152,1048584),(32,4194304,1048832),(160,8388608,5242880),(32,16777216,1048578),(544,33554432,17825792),(1376,67108864,45088768),(2080,134217728,68157440),(4128,268435456,135266304)] [64,65,65,0,65,65,1,65,64,65,65,0,65,65] (.early 1 (.early 2 (.load 0 (.step 3 (.early 4 (.early 5 (.early 7 (.early 9 (.early 10 (.load 6 (.step 8 (.step 11 (.early 12 (.early 13 .done))))))))))))))) (hC (sQ hN) hN)))) hN)))))) (sQ hN)))
theorem d1D{x0 x1 x2 x3:Value}(h:F74 x0 x1 x2 x3 w R E):Cv pG 74 #[x0,x1,x2,x3] w R E:=okF (h:=h74) Tryz.func74 (by kernel_rfl) (by kernel_rfl) h
def c3E(w)(R:RT)(_E:Pan):=
 ∀_τ:Fr,(R (vB true) w)
def F75(x0 x1 x2 w)(R:RT)(E):=
 opK pG E (xNil x0) w fun j k=>
 oP E (fA 69 j 0) k fun l m=>
 oP E (lA 3 l) m fun n o=>
 oP E (bC .add 3 12 n (vI 1)) o fun p q=>
 oP E (xNil x0) q fun r s=>
 oP E (fA 69 r 0) s fun t u=>
 oP E (sA 3 t p) u fun _ v=>
 oP E (xNil x0) v fun y z=>
 oP E (fA 69 y 0) z fun aa ab=>
 oP E (lA 3 aa) ab fun ac ad=>
 oP E (bC .gtr 3 19 ac (vI 4096)) ad fun ae d=>
 xcond ae
 (oP E (xNil x0) d fun af ag=>
 oP E (fA 69 af 2) ag fun ah ai=>
 oP E (sA 27 ah (vI 33)) ai fun _ aj=>
 R (vB false) aj)
 (oP E (bC .gtr 3 24 x2 (vI 64)) d fun ak e=>
 xcond ak
 (oP E (xNil x0) e fun al am=>
 oP E (fA 69 al 2) am fun an ao=>
 oP E (sA 27 an (vI 32)) ao fun _ ap=>
 R (vB false) ap)
 (oP E (xNil x0) e fun aq ar=>
 oP E (fA 69 aq 1) ar fun au av=>
 oP E (lA 3 au) av fun aw ax=>
 oP E (xBuiltin .max #[3,3] 3 [false,false] [aw,x2]) ax fun ay az=>
 oP E (xNil x0) az fun ba bb=>
 oP E (fA 69 ba 1) bb fun bc bd=>
 oP E (sA 3 bc ay) bd fun _ be=>
 oP E (xNil x0) be fun bf bg=>
 oP E (fA 69 bf 3) bg fun bh bi=>
 oP E (lA 4 bh) bi fun a bj=>
 oP E (gNo a (xInvoke (zF a x1) "gnomon/tree.form" [])) bj fun bk bl =>
 oP E (gNo a (xV (Op.unary .not bk))) bl fun bm bn=>
 oP E (xPick a (vB true) bm) bn fun bo bp=>
 oP E (xNil x0) bp fun bq br=>
 oP E (fA 69 bq 3) br fun bs bt=>
 oP E (sA 4 bs bo) bt fun _ bu=>
 xcut (fun _ bv=>c3E bv R E) fun j1=>
 oP E (xCall (fC 107) [x1]) bu fun f bw=>
 oP E (xT f 0) bw fun c bz=>
 oP E (xT f 1) bz fun ca g=>
 xcond ca
 (oP E (xNil x0) g fun cb cc=>
 oP E (fA 69 cb 4) cc fun cd ce=>
 oP E (lA 4 cd) ce fun b cf=>
 oP E (gNo b (xCall (fC 108) [(zF b c)])) cf fun cg ch=>
 oP E (gNo b (xV (Op.unary .not cg))) ch fun ci cj=>
 oP E (xPick b (vB true) ci) cj fun ck cl=>
 oP E (xNil x0) cl fun cm cn=>
 oP E (fA 69 cm 4) cn fun co cp=>
 oP E (sA 4 co ck) cp fun _ cq=>
 oP E (xNil x0) cq fun cr cs=>
 oP E (fA 69 cr 5) cs fun ct cu=>
 oP E (lA 67 ct) cu fun cv cw=>
 oP E (xCall (fC 109) [cv,c]) cw fun cx cy=>
 oP E (xV (Op.unary .not cx)) cy fun cz i=>
 xcond cz
 (oP E (xNil x0) i fun da db=>
 oP E (fA 69 da 5) db fun dc dd=>
 oP E (lA 67 dc) dd fun de df=>
 oP E (xV (Instr.buildSlice 67 1 #[(0,c)])) df fun dg dh=>
 oP E (xBuiltin .append #[67,67] 67 [false,false] [de,dg]) dh fun di dj=>
 oP E (xNil x0) dj fun dk dl=>
 oP E (fA 69 dk 5) dl fun dm dn=>
 oP E (sA 67 dm di) dn fun _ dp=>
 j1 [] dp)
 (j1 [] i))
 (j1 [] g)))
def h75:Hint:=(sQ (hS (sQ (sQ (hC (sQ (sQ hN)) hN))) (hS (sQ (hC (sQ (sQ hN)) hN)) (sQ (sQ (hU [] (sQ (sQ (hC (sQ (sQ (hC hN hN))) hN))) (sQ hN)))))))
theorem d1E{x0 x1 x2:Value}(h:F75 x0 x1 x2 w R E):Cv pG 75 #[x0,x1,x2] w R E:=okF (h:=h75) Tryz.func75 (by kernel_rfl) (by kernel_rfl) h
def b8i(x0 x1 x3 x4 w)(R:RT)(E):=
 ∀_τ:Fr,(oP E (xCall x4 []) w fun _t16_1 a=>
 xcond x1
 (oP E (xV (Instr.buildSlice 67 1 #[(0,x3)])) a fun b c=>
 oP E (xCall (fC 26) [x0,b]) c fun _t21_5 d=>
 R (Value.tuple #[]) d)
 (R (Value.tuple #[]) a))
def F76(x0 x1 x2 x3 x4 w)(R:RT)(E):=
 xcut (fun _ a=>b8i x0 x1 x3 x4 a R E) fun j1=>
 xcond x1
 (oP E (xV (Instr.buildSlice 67 1 #[(0,x2)])) w fun b c=>
 oP E (xCall (fC 26) [x0,b]) c fun _t14_11 d=>
 j1 [] d)
 (j1 [] w)
def h76:Hint:=(hU [] (sQ (hC hN hN)) (sQ (sQ (hC hN hN))))
theorem d1F{x0 x1 x2 x3 x4:Value}(h:F76 x0 x1 x2 x3 x4 w R E):Cv pG 76 #[x0,x1,x2,x3,x4] w R E:=okF (h:=h76) Tryz.func76 (by kernel_rfl) (by kernel_rfl) h
def F77(x0 x1 w)(R:RT)(E):=
 opK pG E (lA 41 x0) w fun a b=>
 oP E (lA 39 x1) b fun c d=>
 oP E (xCall (fC 22) [a,c]) d fun _t4_5 e=>
 R (Value.tuple #[]) e
def h77:Hint:=hN
theorem d1G{x0 x1:Value}(h:F77 x0 x1 w R E):Cv pG 77 #[x0,x1] w R E:=okF (h:=h77) Tryz.func77 (by kernel_rfl) (by kernel_rfl) h
def b8j(x0 w)(R:RT)(_E:Pan):=
 ∀_τ:Fr,(R x0 w)
def c3F(x0 x1 w)(R:RT)(E):=
 ∀_τ:Fr,(xcut (fun c d=>b8j (nth c 0) d R E) fun j2=>
 oP E (xBuiltin .cap #[101] 3 [false] [x0]) w fun e f=>
 oP E (xBuiltin .len #[101] 3 [false] [x0]) f fun g i=>
 oP E (bN .sub 3 10 12 e g) i fun j k=>
 oP E (bN .sub 3 8 13 x1 j) k fun a l=>
 oP E (bC .gtr 3 15 a (vI 0)) l fun m b=>
 xcond m
 (oP E (xBuiltin .cap #[101] 3 [false] [x0]) b fun n o=>
 oP E (xV (Instr.sliceAt 101 x0 none (some n) none)) o fun p q=>
 oP E (xBuiltin .append #[101,3] 101 [false,false] [p,a]) q fun r s=>
 oP E (xBuiltin .len #[101] 3 [false] [x0]) s fun t u=>
 oP E (xV (Instr.sliceAt 101 r none (some t) none)) u fun v y=>
 j2 [v] y)
 (j2 [x0] b))
def F78(x0 x1 w)(R:RT)(E):=
 xcut (fun _ b=>c3F x0 x1 b R E) fun j1=>
 oP E (bC .lss 3 5 x1 (vI 0)) w fun c a=>
 xcond c
 (oP E (xV (Instr.makeInterface 9 (Value.string ⟨#[99,97,110,110,111,116,32,98,101,32,110,101,103,97,116,105,118,101]⟩))) a fun d e=>
 oP E (xV (Instr.panic d)) e fun _ f=>
 j1 [] f)
 (j1 [] a)
def h78:Hint:=(sQ (hU [] (sQ (hC hN hN)) (hU [0] (sQ (sQ (hC hN hN))) (sQ hN))))
theorem d1H{x0 x1:Value}(h:F78 x0 x1 w R E):Cv pG 78 #[x0,x1] w R E:=okF (h:=h78) Tryz.func78 (by kernel_rfl) (by kernel_rfl) h
def F80(x0 x1 w)(R:RT)(E):=
 opK pG E (xCall (fC 112) [x0,x1]) w fun a b=>
 R a b
def h80:Hint:=(sQ (sQ hN))
theorem d1I{x0 x1:Value}(h:F80 x0 x1 w R E):Cv pG 80 #[x0,x1] w R E:=okF (h:=h80) Tryz.func80 (by kernel_rfl) (by kernel_rfl) h
def F82(x0 w)(R:RT)(E):=
 opK pG E (xNil x0) w fun b c=>
 oP E (fA 45 b 0) c fun d e=>
 oP E (lA 42 d) e fun f g=>
 oP E (bC .eql 42 5 f (Value.pointer none)) g fun i a=>
 xcond i
 (oP E (xV (convert 42 181 x0)) a fun j k=>
 oP E (xCall (fC 114) [j]) k fun l m=>
 oP E (xV (convert 181 42 l)) m fun n o=>
 oP E (xNil x0) o fun p q=>
 oP E (fA 45 p 0) q fun r s=>
 oP E (sA 42 r n) s fun _ t=>
 R (Value.tuple #[]) t)
 (oP E (xNil x0) a fun u v=>
 oP E (fA 45 u 0) v fun y z=>
 oP E (lA 42 y) z fun aa ab=>
 oP E (bN .neq 42 17 18 aa x0) ab fun ac ad=>
 xcond ac
 (False)
 (R (Value.tuple #[]) ad))
def h82:Hint:=(sQ (hC hN (sQ (hC hN hN))))
theorem d1J{x0:Value}(h:F82 x0 w R E):Cv pG 82 #[x0] w R E:=okF (h:=h82) Tryz.func82 (by kernel_rfl) (by kernel_rfl) h
def c3G(x3 w)(R:RT)(_E:Pan):=
 ∀_τ:Fr,(R x3 w)
def c3H(x3 w)(j1:NT)(_R:RT)(E):=
 ∀_τ:Fr,(oP E (bC .sub 3 11 x3 (vI 1)) w fun a b=>
 j1 [a] b)
def F87(x0 w)(R:RT)(E):=
 xcut (fun c d=>c3G (nth c 0) d R E) fun j1=>
 xcut (fun e f=>c3H (nth e 0) f j1 R E) fun j2=>
 oP E (bC .eql 3 4 x0 (vI 6)) w fun g a=>
 xcond g
 (oP E (bC .sub 3 9 (vI 3) (vI 1)) a fun i j=>
 j2 [i] j)
 (oP E (bC .eql 3 4 x0 (vI 5)) a fun k b=>
 xcond k
 (j2 [(vI 3)] b)
 (j1 [(vI 3)] b))
def h87:Hint:=(sQ (sQ (hU [3] (sQ (hB (hU [3] (hB (hS (hB (hS (hS (sQ (hC hN hN)) (sQ (hC hN hN))) hN)) hN)) (sQ hN)))) (sQ hN))))
theorem d1K{x0:Value}(h:F87 x0 w R E):Cv pG 87 #[x0] w R E:=okF (h:=h87) Tryz.func87 (by kernel_rfl) (by kernel_rfl) h
def F88(x0 x1 x2 w)(R:RT)(E):=
 opK pG E (xV (Instr.box 41 x0)) w fun a g=>
 oP E (xV (Instr.box 75 x1)) g fun d i=>
 dX i fun b=>
 qP pG (fA 75 d 0) fun e=>
 qP pG (xV (Instr.makeFunc (.func 120) #[] #[a,d])) fun j=>
 qL pG b (blk a) (lA 41 a) fun k=>
 qL pG b (blk e) (lA 3 e) fun l=>
 oP E (xCall (fC 87) [l]) b fun m c=>
 keepX [(blk a)] b c (qP pG (bN .lss 3 9 10 m x2) fun n=>
 oP E (xCall (fC 76) [k,n,(Value.string ⟨#[91]⟩),(Value.string ⟨#[93]⟩),j]) c fun _t13_13 f=>
 keepX [] c f (R (Value.tuple #[]) f))
def h88:Hint:=(sQ (.reg [(0,64,8),(0,128,16),(2,256,128),(4,512,256),(0,1024,4),(24,2048,1536),(0,4096,24),(105,8192,6208)] [4,5,1,1,5,5,5,0] (.early 1 (.early 4 (.early 6 (.load 0 (.load 2 (.step 3 (.early 5 (.step 7 .done))))))))))
theorem d1L{x0 x1 x2:Value}(h:F88 x0 x1 x2 w R E):Cv pG 88 #[x0,x1,x2] w R E:=okF (h:=h88) Tryz.func88 (by kernel_rfl) (by kernel_rfl) h
def F90(w)(R:RT)(E):=
 opK pG E (xV (Instr.alloc 31 true (.tuple #[]))) w fun a c=>
 oP E (xV (Instr.build 31 #[(0,(vI 1)),(1,(vI 1))])) c fun d e=>
 oP E (sA 31 a d) e fun _ b=>
 xcell pG 31 a b fun f=>
 R f b
def h90:Hint:=(sQ (sQ hN))
theorem c3I(h:F90  w R E):Cv pG 90 #[] w R E:=okF (h:=h90) Tryz.func90 (by kernel_rfl) (by kernel_rfl) h
def F92(x0 w)(R:RT)(E):=
 opK pG E (xCall (fC 93) [x0]) w fun b c=>
 oP E (bC .eql 3 6 b (vI 1)) c fun a d=>
 oP E (gNo a (bC .eql 3 9 (zF a b) (vI 2))) d fun e f=>
 oP E (xPick a (vB true) e) f fun g i=>
 R g i
def h92:Hint:=(sQ (sQ (sQ hN)))
theorem d1M{x0:Value}(h:F92 x0 w R E):Cv pG 92 #[x0] w R E:=okF (h:=h92) Tryz.func92 (by kernel_rfl) (by kernel_rfl) h
def c3J(x39 w)(R:RT)(_E:Pan):=
 ∀_τ:Fr,(xcond x39
 (R (vI 3) w)
 (R (vI 6) w))
def c3K(x1 x31 w)(R:RT)(E):=
 ∀_τ:Fr,(xcond x31
 (R (vI 6) w)
 (oP E (xV (Instr.makeFunc (.func 124) #[] #[x1])) w fun a n=>
 oP E (xCall a [(Value.int .i32 48),(Value.int .i32 57)]) n fun o b=>
 xcond o
 (R (vI 4) b)
 (xcut (fun p q=>c3J (nth p 0) q R E) fun j4=>
 oP E (lA 21 x1) b fun r s=>
 oP E (bC .eql 21 40 r (Value.int .i32 95)) s fun c d=>
 xcond c
 (j4 [c] d)
 (oP E (xCall a [(Value.int .i32 97),(Value.int .i32 122)]) d fun e f=>
 xcond e
 (j4 [e] f)
 (oP E (xCall a [(Value.int .i32 65),(Value.int .i32 90)]) f fun g i=>
 xcond g
 (j4 [g] i)
 (oP E (xCall a [(Value.int .i32 192),(Value.int .i32 591)]) i fun j k=>
 xcond j
 (j4 [j] k)
 (oP E (xCall a [(Value.int .i32 913),(Value.int .i32 969)]) k fun l m=>
 xcond l
 (j4 [l] m)
 (oP E (xCall a [(Value.int .i32 1040),(Value.int .i32 1103)]) m fun t u=>
 j4 [t] u))))))))
def c3L(x1 x4 x11 w)(R:RT)(E):=
 ∀_τ:Fr,(xcond x11
 (R (vI 5) w)
 (xcut (fun e f=>c3K x1 (nth e 0) f R E) fun j3=>
 oP E (bC .eql 21 4 x4 (Value.int .i32 215)) w fun a b=>
 xcond a
 (j3 [a] b)
 (oP E (bC .eql 21 4 x4 (Value.int .i32 247)) b fun c d=>
 xcond c
 (j3 [c] d)
 (oP E (bC .eql 21 4 x4 (Value.int .i32 930)) d fun g i=>
 j3 [g] i))))
def c3M(x1 x4 x5 w)(R:RT)(E):=
 ∀_τ:Fr,(xcond x5
 (R (vI 1) w)
 (oP E (bC .eql 21 4 x4 (Value.int .i32 10)) w fun ao a=>
 xcond ao
 (R (vI 2) a)
 (xcut (fun ap aq=>c3L x1 x4 (nth ap 0) aq R E) fun j2=>
 oP E (bC .eql 21 4 x4 (Value.int .i32 59)) a fun b c=>
 xcond b
 (j2 [b] c)
 (oP E (bC .eql 21 4 x4 (Value.int .i32 44)) c fun d e=>
 xcond d
 (j2 [d] e)
 (oP E (bC .eql 21 4 x4 (Value.int .i32 123)) e fun f g=>
 xcond f
 (j2 [f] g)
 (oP E (bC .eql 21 4 x4 (Value.int .i32 125)) g fun i j=>
 xcond i
 (j2 [i] j)
 (oP E (bC .eql 21 4 x4 (Value.int .i32 40)) j fun k l=>
 xcond k
 (j2 [k] l)
 (oP E (bC .eql 21 4 x4 (Value.int .i32 41)) l fun m n=>
 xcond m
 (j2 [m] n)
 (oP E (bC .eql 21 4 x4 (Value.int .i32 91)) n fun o p=>
 xcond o
 (j2 [o] p)
 (oP E (bC .eql 21 4 x4 (Value.int .i32 93)) p fun q r=>
 xcond q
 (j2 [q] r)
 (oP E (bC .eql 21 4 x4 (Value.int .i32 61)) r fun s t=>
 xcond s
 (j2 [s] t)
 (oP E (bC .eql 21 4 x4 (Value.int .i32 33)) t fun u v=>
 xcond u
 (j2 [u] v)
 (oP E (bC .eql 21 4 x4 (Value.int .i32 60)) v fun y z=>
 xcond y
 (j2 [y] z)
 (oP E (bC .eql 21 4 x4 (Value.int .i32 62)) z fun aa ab=>
 xcond aa
 (j2 [aa] ab)
 (oP E (bC .eql 21 4 x4 (Value.int .i32 43)) ab fun ac ad=>
 xcond ac
 (j2 [ac] ad)
 (oP E (bC .eql 21 4 x4 (Value.int .i32 45)) ad fun ae af=>
 xcond ae
 (j2 [ae] af)
 (oP E (bC .eql 21 4 x4 (Value.int .i32 42)) af fun ag ah=>
 xcond ag
 (j2 [ag] ah)
 (oP E (bC .eql 21 4 x4 (Value.int .i32 47)) ah fun ai aj=>
 xcond ai
 (j2 [ai] aj)
 (oP E (bC .eql 21 4 x4 (Value.int .i32 37)) aj fun ak al=>
 xcond ak
 (j2 [ak] al)
 (oP E (bC .eql 21 4 x4 (Value.int .i32 38)) al fun am an=>
 xcond am
 (j2 [am] an)
 (oP E (bC .eql 21 4 x4 (Value.int .i32 124)) an fun ar au=>
 j2 [ar] au)))))))))))))))))))))
def F93(x0 w)(R:RT)(E):=
 opK pG E (xV (Instr.box 21 x0)) w fun b g=>
 oP E (lA 21 b) g fun a i=>
 xcut (fun j k=>c3M b a (nth j 0) k R E) fun j1=>
 oP E (bC .eql 21 4 a (Value.int .i32 32)) i fun c d=>
 xcond c
 (j1 [c] d)
 (oP E (bC .eql 21 4 a (Value.int .i32 9)) d fun e f=>
 xcond e
 (j1 [e] f)
 (oP E (bC .eql 21 4 a (Value.int .i32 13)) f fun l m=>
 j1 [l] m))
def h93:Hint:=(sQ (hS (sQ (hB (hU [5] (sQ (hC hN (sQ (hC hN hN)))) (hC (sQ hN) (sQ (hC (sQ hN) (hU [11] (sQ (hC hN (sQ (hC hN (sQ (hC hN (sQ (hC hN (sQ (hC hN (sQ (hC hN (sQ (hC hN (sQ (hC hN (sQ (hC hN (sQ (hC hN (sQ (hC hN (sQ (hC hN (sQ (hC hN (sQ (hC hN (sQ (hC hN (sQ (hC hN (sQ (hC hN (sQ (hC hN hN)))))))))))))))))))))))))))))))))))) (hC (sQ hN) (hU [31] (sQ (hC hN (sQ (hC hN hN)))) (hC (sQ hN) hN)))))))))) (sQ (hS (hB (sQ (hC (sQ hN) (hU [39] (sQ (hC hN (sQ (hC hN (sQ (hC hN (sQ (hC hN (sQ (hC hN hN)))))))))) (hC (sQ hN) hN))))) (sQ hN)))))
theorem d1N{x0:Value}(h:F93 x0 w R E):Cv pG 93 #[x0] w R E:=okF (h:=h93) Tryz.func93 (by kernel_rfl) (by kernel_rfl) h
def a6G(x0 x5 w)(R:RT)(_E:Pan):=
 ∀_τ:Fr,(dX w fun a=>
 qP pG (xNil x0) fun d=>
 qP pG (fA 123 d 0) fun b=>
 qP pG (xNil x0) fun e=>
 qP pG (fA 123 e 1) fun c=>
 qL pG a (blk b) (lA 9 b) fun f=>
 qL pG a (blk c) (lA 3 c) fun g=>
 qP pG (xV (Instr.sliceAt 9 f (some x5) (some g) none)) fun i=>
 R i a)
def b2i(x0 x1 _x5 x6 x7:Value)(w)(next2:NT)(j1:NT)(_R:RT)(E):=
 opK pG E (gYs x7 (xCall (zT x7 x1) [(zT x7 x6)])) w fun c d=>
 oP E (xPick x7 c (vB false)) d fun e a=>
 xcond e
 (oP E (xCall (fC 125) [x0]) a fun _t29_27 f=>
 oP E (xCall (fC 64) [x0]) f fun b g=>
 oP E (xT b 0) g fun i j=>
 oP E (xT b 1) j fun k l=>
 next2 [i,k] l)
 (j1 [] a)
def F94(x0 x1 w)(R:RT)(E):=
 opK pG E (xNil x0) w fun d e=>
 oP E (fA 123 d 1) e fun f g=>
 oP E (lA 3 f) g fun a i=>
 xcut (fun _ j=>a6G x0 a j R E) fun j1=>
 oP E (xCall (fC 64) [x0]) i fun b k=>
 oP E (xT b 0) k fun l m=>
 oP E (xT b 1) m fun n o=>
 xloop [6,7] [l,n] o fun c p next2=>
 b2i x0 x1 a (c 6) (c 7) p next2 j1 R E
def h94:Hint:=(sQ (sQ (hU [] (sQ (hB (hL [6,7] (hS (sQ (hC hN hN)) (hS (hB hN) hN))))) (hS (.reg [(0,1073741824,1),(1,2147483648,1073741824),(2,4294967296,2147483648),(4,8589934592,4294967296),(0,17179869184,32),(0,34359738368,1),(32,68719476736,34359738368),(64,137438953472,68719476736),(128,274877906944,137438953472),(280,549755813888,300647710720),(1023,16,549755813888)] [264,264,264,256,264,264,264,264,8,264,264] (.early 0 (.early 1 (.early 2 (.early 4 (.early 5 (.early 6 (.early 7 (.load 3 (.load 8 (.early 9 (.early 10 .done)))))))))))) hN))))
theorem b4T{x0 x1:Value}(h:F94 x0 x1 w R E):Cv pG 94 #[x0,x1] w R E:=okF (h:=h94) Tryz.func94 (by kernel_rfl) (by kernel_rfl) h
def F95(x0 w)(R:RT)(_E:Pan):=
 dX w fun a=>
 qP pG (xNil x0) fun d=>
 qP pG (fA 123 d 0) fun b=>
 qP pG (xNil x0) fun e=>
 qP pG (fA 123 e 1) fun c=>
 qL pG a (blk b) (lA 9 b) fun f=>
 qL pG a (blk c) (lA 3 c) fun g=>
 qP pG (xV (Instr.sliceAt 9 f (some g) none none)) fun i=>
 R i a
def h95:Hint:=(sQ (hS (.reg [(0,8,1),(1,16,8),(2,32,16),(4,64,32),(0,128,1),(16,256,128),(32,512,256),(64,1024,512),(136,2048,1088),(511,4,2048)] [136,136,136,128,136,136,136,8,136,136] (.early 0 (.early 1 (.early 2 (.early 4 (.early 5 (.early 6 (.load 3 (.load 7 (.early 8 (.early 9 .done))))))))))) hN))
theorem d1O{x0:Value}(h:F95 x0 w R E):Cv pG 95 #[x0] w R E:=okF (h:=h95) Tryz.func95 (by kernel_rfl) (by kernel_rfl) h
def F96(x0 w)(R:RT)(E):=
 opK pG E (bC .neq 21 3 x0 (Value.int .i32 10)) w fun a b=>
 R a b
def h96:Hint:=(sQ (sQ hN))
theorem d1P{x0:Value}(h:F96 x0 w R E):Cv pG 96 #[x0] w R E:=okF (h:=h96) Tryz.func96 (by kernel_rfl) (by kernel_rfl) h
def c3N(x2 x4 w)(R:RT)(E):=
 ∀_τ:Fr,(oP E (lA 88 x4) w fun b c=>
 oP E (sA 88 x2 b) c fun _ a=>
 xcell pG 88 x2 a fun d=>
 R (Value.tuple #[d,(vI 0)]) a)
def F97(x0 w)(R:RT)(E):=
 opK pG E (xV (Instr.alloc 88 true (.tuple #[]))) w fun b f=>
 oP E (xCall (fC 94) [x0,(fC 126)]) f fun g i=>
 oP E (xV (Instr.build 88 #[(0,(vI 1)),(1,g)])) i fun j k=>
 oP E (xV (Instr.alloc 88 true (.tuple #[]))) k fun a l=>
 oP E (sA 88 a j) l fun _ m=>
 xcut (fun _ n=>c3N b a n R E) fun j1=>
 oP E (fA 88 a 1) m fun o p=>
 oP E (lA 9 o) p fun q r=>
 oP E (xCall (fC 127) [q]) r fun s c=>
 xcond s
 (oP E (fA 88 a 0) c fun t u=>
 oP E (sA 3 t (vI 3)) u fun _ v=>
 j1 [] v)
 (oP E (fA 88 a 1) c fun y z=>
 oP E (lA 9 y) z fun aa ab=>
 oP E (xCall (fC 128) [aa]) ab fun ac d=>
 xcond ac
 (oP E (lA 88 a) d fun ad ae=>
 oP E (sA 88 b ad) ae fun _ e=>
 xcell pG 88 b e fun af=>
 R (Value.tuple #[af,(vI 22)]) e)
 (j1 [] d))
def h97:Hint:=(sQ (sQ (hU [] (hB (sQ (hC hN (sQ (hC (sQ hN) hN))))) (sQ hN))))
theorem d1Q{x0:Value}(h:F97 x0 w R E):Cv pG 97 #[x0] w R E:=okF (h:=h97) Tryz.func97 (by kernel_rfl) (by kernel_rfl) h
def F98(x0 w)(R:RT)(E):=
 opK pG E (xV (Instr.alloc 88 true (.tuple #[]))) w fun e m=>
 oP E (xCall (fC 94) [x0,(fC 129)]) m fun n o=>
 oP E (xV (Instr.build 88 #[(0,(vI 2)),(1,n)])) o fun p q=>
 oP E (xV (Instr.alloc 88 true (.tuple #[]))) q fun c r=>
 oP E (sA 88 c p) r fun _ s=>
 oP E (fA 88 c 1) s fun t u=>
 oP E (lA 9 t) u fun v y=>
 oP E (xCall (fC 130) [v,(vI 10),(vI 64)]) y fun g z=>
 oP E (xT g 0) z fun aa ab=>
 oP E (xT g 1) ab fun ac ad=>
 oP E (xCall (fC 64) [x0]) ad fun i ae=>
 oP E (xT i 0) ae fun af ag=>
 oP E (xT i 1) ag fun f ah=>
 oP E (xBin .neq 114 (.tmp 23) (.const Value.nilIface) ac Value.nilIface) ah fun a ai=>
 oP E (gNo a (fA 88 c 1)) ai fun aj ak=>
 oP E (gNo a (lA 9 aj)) ak fun al am=>
 oP E (gNo a (xBuiltin .len #[9] 3 [false] [al])) am fun an ao=>
 oP E (gNo a (bC .gtr 3 28 an (vI 1))) ao fun d ap=>
 oP E (gsem (asB (zF a d)) true (fA 88 c 1)) ap fun aq ar=>
 oP E (gsem (asB (zF a d)) true (lA 9 aq)) ar fun au av=>
 oP E (gsem (asB (zF a d)) true (xV (Instr.index 9 au (vI 0)))) av fun aw ax=>
 oP E (gsem (asB (zF a d)) true (bC .eql 5 33 aw (Value.int .u8 48))) ax fun ay az=>
 oP E (gNo a (xPick (zF a d) ay (vB false))) az fun ba bb=>
 oP E (xPick a (vB true) ba) bb fun b bc=>
 oP E (gsem (asB (zF b (zF b f))) true (xCall (fC 93) [(gval (asB (zF b (zF b f))) true af)])) bc fun bd be=>
 oP E (gsem (asB (zF b (zF b f))) true (bC .eql 3 41 bd (vI 3))) be fun bf bg=>
 oP E (gNo b (xPick (zF b (zF b f)) bf (vB false))) bg fun bh bi=>
 oP E (xPick b (vB true) bh) bi fun bj j=>
 xcond bj
 (oP E (lA 88 c) j fun bk bl=>
 oP E (sA 88 e bk) bl fun _ k=>
 xcell pG 88 e k fun bm=>
 R (Value.tuple #[bm,(vI 21)]) k)
 (oP E (fA 88 c 2) j fun bn bo=>
 oP E (sA 2 bn aa) bo fun _ bp=>
 oP E (lA 88 c) bp fun bq br=>
 oP E (sA 88 e bq) br fun _ l=>
 xcell pG 88 e l fun bs=>
 R (Value.tuple #[bs,(vI 0)]) l)
def h98:Hint:=(sQ (sQ (sQ (sQ (hS (sQ (hC (sQ hN) hN)) (sQ (sQ hN)))))))
theorem d1R{x0:Value}(h:F98 x0 w R E):Cv pG 98 #[x0] w R E:=okF (h:=h98) Tryz.func98 (by kernel_rfl) (by kernel_rfl) h
def c3O(x0 x2 w)(R:RT)(E):=
 ∀_τ:Fr,(oP E (xCall (fC 95) [x0]) w fun f g=>
 oP E (xV (Instr.sliceAt 9 f none (some (vI 1)) none)) g fun a i=>
 oP E (xCall (fC 125) [x0]) i fun _t26_7 j=>
 oP E (bC .eql 9 27 a (Value.string ⟨#[38]⟩)) j fun b k=>
 oP E (gNo b (bC .eql 9 30 (zF b a) (Value.string ⟨#[124]⟩))) k fun l m=>
 oP E (xPick b (vB true) l) m fun n c=>
 xcond n
 (oP E (xV (Instr.build 88 #[])) c fun o p=>
 oP E (sA 88 x2 o) p fun _ d=>
 xcell pG 88 x2 d fun q=>
 R (Value.tuple #[q,(vI 20)]) d)
 (oP E (xV (Instr.build 88 #[(0,(vI 4)),(1,a)])) c fun r s=>
 oP E (sA 88 x2 r) s fun _ e=>
 xcell pG 88 x2 e fun t=>
 R (Value.tuple #[t,(vI 0)]) e))
def d1S(x0 x2 x7 x8 w)(next2:NT)(j1:NT)(R:RT)(E):=
 opK pG E (bC .lss 3 8 x8 (vI 6)) w fun e a=>
 xcond e
 (oP E (xV (Instr.index 157 x7 x8)) a fun b f=>
 oP E (xCall (fC 95) [x0]) f fun g i=>
 oP E (xCall (fC 80) [g,b]) i fun j c=>
 xcond j
 (oP E (xCall (fC 125) [x0]) c fun _t16_37 k=>
 oP E (xCall (fC 125) [x0]) k fun _t18_39 l=>
 oP E (xV (Instr.build 88 #[(0,(vI 4)),(1,b)])) l fun m n=>
 oP E (sA 88 x2 m) n fun _ d=>
 xcell pG 88 x2 d fun o=>
 R (Value.tuple #[o,(vI 0)]) d)
 (oP E (bC .add 3 8 x8 (vI 1)) c fun p q=>
 next2 [p] q))
 (j1 [] a)
def F99(x0 w)(R:RT)(E):=
 opK pG E (xV (Instr.alloc 88 true (.tuple #[]))) w fun a b=>
 xcut (fun _ c=>c3O x0 a c R E) fun j1=>
 oP E (xV (Instr.build 157 #[(0,(Value.string ⟨#[61,61]⟩)),(1,(Value.string ⟨#[33,61]⟩)),(2,(Value.string ⟨#[60,61]⟩)),(3,(Value.string ⟨#[62,61]⟩)),(4,(Value.string ⟨#[38,38]⟩)),(5,(Value.string ⟨#[124,124]⟩))])) b fun d e=>
 xloop [8] [(vI 0)] e fun f g next2=>
 d1S x0 a d (f 8) g next2 j1 R E
def h99:Hint:=(sQ (hU [] (sQ (hB (hL [8] (sQ (hS (hC hN hN) (hS (hB (sQ (sQ (hC (sQ (sQ (sQ hN))) hN)))) hN)))))) (sQ (sQ (hS (sQ (hC (sQ hN) hN)) (sQ hN))))))
theorem d1T{x0:Value}(h:F99 x0 w R E):Cv pG 99 #[x0] w R E:=okF (h:=h99) Tryz.func99 (by kernel_rfl) (by kernel_rfl) h
def d4H(w)(R:RT)(E):=
 opK pG E (xV (Instr.alloc 88 true (.tuple #[]))) w fun a c=>
 oP E (xV (Instr.build 88 #[])) c fun d e=>
 oP E (sA 88 a d) e fun _ b=>
 xcell pG 88 a b fun f=>
 R (Value.tuple #[f,(vI 20)]) b
def d4I:Hint:=(sQ (sQ hN))
theorem c7X(h:d4H  w R E):Cv pG 100 #[] w R E:=okF (h:=d4I) Tryz.func100 (by kernel_rfl) (by kernel_rfl) h
def d4J(x0 w)(R:RT)(E):=
 opK pG E (xCall (fC 35) [x0]) w fun f g=>
 oP E (xV (Instr.field 88 f 0)) g fun e i=>
 oP E (bC .eql 3 7 e (vI 1)) i fun a j=>
 oP E (gNo a (bC .eql 3 10 (zF a e) (vI 2))) j fun k l=>
 oP E (xPick a (vB true) k) l fun b m=>
 oP E (gNo b (xCall (fC 37) [(zF b x0),(Value.string ⟨#[45]⟩)])) m fun n o=>
 oP E (xPick b (vB true) n) o fun c p=>
 oP E (gNo c (xCall (fC 37) [(zF c x0),(Value.string ⟨#[105,110,112,117,116]⟩)])) p fun q r=>
 oP E (xPick c (vB true) q) r fun d s=>
 oP E (gNo d (xCall (fC 37) [(zF d x0),(Value.string ⟨#[40]⟩)])) s fun t u=>
 oP E (xPick d (vB true) t) u fun v y=>
 R v y
def d4K:Hint:=(sQ (sQ (sQ hN)))
theorem c7Y{x0:Value}(h:d4J x0 w R E):Cv pG 101 #[x0] w R E:=okF (h:=d4K) Tryz.func101 (by kernel_rfl) (by kernel_rfl) h
end Go.Proofs.YtoflkliecagjcaaGreatDoor
