/- The second reading of some of the program's functions, printed by gen2.py off the code; each is held against the code by the kernel. -/
import Derived.KernelRfl
import Derived.Test.YtnhdnncbjddmjaaGreatDooryEGz
namespace Go.Proofs.YtnhdnncbjddmjaaGreatDoor
open Go.RowKit
set_option maxRecDepth 100000
variable {w:World}{R:RT}{E:Pan}
def F3(x0 w)(R:RT)(E):=
 opK pG E (xV (Instr.box 25 x0)) w fun b f=>
 oP E (xCall (fC 4) []) f fun g i=>
 oP E (xV (Op.unary .not g)) i fun j c=>
 xcond j
 (R (vB false) c)
 (oP E (lA 25 b) c fun k l=>
 oP E (xCall (fC 5) [k]) l fun d m=>
 oP E (xT d 0) m fun n o=>
 oP E (xT d 1) o fun p q=>
 oP E (lA 25 b) q fun r s=>
 oP E (xCall (fC 6) [r]) s fun e t=>
 oP E (xT e 0) t fun u v=>
 oP E (xT e 1) v fun y z=>
 oP E (bN .eql 9 19 20 n u) z fun a aa=>
 oP E (gYs a (bN .eql 3 23 24 (zT a p) (zT a y))) aa fun ab ac=>
 oP E (xPick a ab (vB false)) ac fun ad ae=>
 R ad ae)
def h3:Hint:=(sQ (hS (sQ (hC (sQ hN) hN)) (sQ (sQ (sQ hN)))))
theorem c0p{x0:Value}(h:F3 x0 w R E):Cv pG 3 #[x0] w R E:=okF (h:=h3) Tryz.func3 (by kernel_rfl) (by kernel_rfl) h
def F4(w)(R:RT)(E):=
 opK pG E (xV (Instr.build 36 #[(0,(vI 1)),(1,(vI 1))])) w fun c d=>
 oP E (xV (Instr.build 36 #[(0,(vI 1)),(1,(vI 2))])) d fun e f=>
 oP E (xV (Instr.build 36 #[(0,(vI 1)),(1,(vI 3))])) f fun g i=>
 oP E (xV (Instr.buildSlice 34 2 #[(0,e),(1,g)])) i fun j k=>
 oP E (xV (Instr.build 36 #[(0,(vI 7)),(3,j)])) k fun l m=>
 oP E (xV (Instr.buildSlice 34 2 #[(0,c),(1,l)])) m fun n o=>
 oP E (xV (Instr.build 36 #[(0,(vI 7)),(3,n)])) o fun p q=>
 oP E (xCall (fC 7) [p]) q fun b r=>
 oP E (xT b 0) r fun s t=>
 oP E (xT b 1) t fun u v=>
 oP E (bC .eql 27 14 u (vI 0)) v fun a y=>
 oP E (gYs a (bC .eql 9 17 (zT a s) (Value.string ⟨#[49,32,45,32,40,50,32,45,32,51,41]⟩))) y fun z aa=>
 oP E (xPick a z (vB false)) aa fun ab ac=>
 R ab ac
def h4:Hint:=(sQ (sQ (sQ hN)))
theorem c0q(h:F4  w R E):Cv pG 4 #[] w R E:=okF (h:=h4) Tryz.func4 (by kernel_rfl) (by kernel_rfl) h
def b3v(x5 w)(R:RT)(E):=
 ∀_τ:Fr,(oP E (xCall (fC 12) [x5]) w fun b a=>
 xcond b
 (R (Value.tuple #[(eS),(vI 50)]) a)
 (oP E (xNil x5) a fun c d=>
 oP E (fA 44 c 0) d fun e f=>
 oP E (xCall (fC 13) [e]) f fun g i=>
 R (Value.tuple #[g,(vI 0)]) i))
def b6u(x5 x42 x43 x44 w)(next3:NT)(j2:NT)(_R:RT)(E):=
 opK pG E (bN .lss 3 44 43 x44 x43) w fun c a=>
 xcond c
 (oP E (iA 23 x42 x44) a fun d e=>
 oP E (lA 51 d) e fun f g=>
 oP E (xV (Instr.alloc 51 true (.tuple #[]))) g fun b i=>
 oP E (sA 51 b f) i fun _ j=>
 oP E (lA 51 b) j fun k l=>
 oP E (xCall (fC 11) [x5,k]) l fun _t50_41 m=>
 oP E (bC .add 3 44 x44 (vI 1)) m fun n o=>
 next3 [n] o)
 (j2 [] a)
def b3w(x1 x5 w)(R:RT)(E):=
 ∀_τ:Fr,(xcut (fun _ b=>b3v x5 b R E) fun j2=>
 oP E (fA 25 x1 1) w fun c d=>
 oP E (lA 23 c) d fun a e=>
 oP E (xBuiltin .len #[23] 3 [false] [a]) e fun f g=>
 xloop [44] [(vI 0)] g fun i j next3=>
 b6u x5 a f (i 44) j next3 j2 R E)
def b3x(_x1 _x5 _x18 _x19 x20:Value)(w)(next4:NT)(_R:RT)(E):=
 ∀_τ:Fr,(oP E (bC .add 3 20 x20 (vI 1)) w fun a b=>
 next4 [a] b)
def b6v(x1 x5 x18 x19 x20 w)(next4:NT)(j1:NT)(R:RT)(E):=
 opK pG E (bN .lss 3 20 19 x20 x19) w fun k f=>
 xcond k
 (xcut (fun _ l=>b3x x1 x5 x18 x19 x20 l next4 R E) fun j5=>
 oP E (iA 22 x18 x20) f fun m n=>
 oP E (lA 46 m) n fun o p=>
 oP E (xV (Instr.alloc 46 true (.tuple #[]))) p fun a q=>
 oP E (sA 46 a o) q fun _ r=>
 oP E (fA 46 a 1) r fun s t=>
 oP E (lA 3 s) t fun u v=>
 oP E (bC .eql 3 25 u (vI 0)) v fun y g=>
 xcond y
 (oP E (fA 46 a 0) g fun z aa=>
 oP E (lA 9 z) aa fun ab ac=>
 oP E (xV (Instr.buildSlice 63 3 #[(0,(Value.string ⟨#[118,97,114,32]⟩)),(1,ab),(2,(Value.string ⟨#[59]⟩))])) ac fun ad ae=>
 oP E (xCall (fC 9) [x5,ad]) ae fun _t31_81 af=>
 j5 [] af)
 (dX g fun b=>
 qP pG (fA 46 a 0) fun c=>
 qP pG (fA 46 a 1) fun i=>
 qL pG b (blk c) (lA 9 c) fun ag=>
 qL pG b (blk i) (lA 3 i) fun ah=>
 oP E (xCall (fC 10) [ah]) b fun ai d=>
 keepX [(blk c)] b d (opK pG E (xV (Instr.buildSlice 63 5 #[(0,(Value.string ⟨#[97,114,114,97,121,32]⟩)),(1,ag),(2,(Value.string ⟨#[91]⟩)),(3,ai),(4,(Value.string ⟨#[93,59]⟩))])) d fun aj e=>
 keepX [] d e (opK pG E (xCall (fC 9) [x5,aj]) e fun _t39_92 j=>
 keepX [] e j (j5 [] j)))))
 (j1 [] f)
def F5(x0 w)(R:RT)(E):=
 opK pG E (xV (Instr.box 25 x0)) w fun a f=>
 oP E (lA 25 a) f fun g i=>
 oP E (xCall (fC 8) [g]) i fun b j=>
 oP E (bC .neq 27 12 b (vI 0)) j fun k c=>
 xcond k
 (R (Value.tuple #[(eS),b]) c)
 (oP E (xV (Instr.build 44 #[])) c fun l m=>
 oP E (xV (Instr.box 44 l)) m fun d n=>
 xcut (fun _ o=>b3w a d o R E) fun j1=>
 oP E (fA 25 a 0) n fun p q=>
 oP E (lA 22 p) q fun e r=>
 oP E (xBuiltin .len #[22] 3 [false] [e]) r fun s t=>
 xloop [20] [(vI 0)] t fun u v next4=>
 b6v a d e s (u 20) v next4 j1 R E)
def h5:Hint:=(sQ (hS (sQ (sQ (hC (sQ hN) hN))) (sQ (hU [] (sQ (hB (hL [20] (sQ (hS (hC hN hN) (hU [] (hB (sQ (hS (sQ (hC (sQ hN) hN)) (.reg [(0,4294967296,32),(0,8589934592,128),(2,17179869184,8589934592),(0,34359738368,128),(8,68719476736,34359738368),(16,137438953472,68719476736),(36,274877906944,154618822656),(97,549755813888,279172874240)] [20,20,16,20,4,4,0,0] (.early 0 (.early 1 (.early 3 (.load 2 (.load 4 (.step 5 (.step 6 (.step 7 .done)))))))))))) hN)))))) (hU [] (sQ (hB (hL [44] (sQ (hS (hC hN hN) (hS (hB (sQ hN)) hN)))))) (hS (sQ (hC (sQ hN) hN)) (sQ hN)))))))
theorem c0r{x0:Value}(h:F5 x0 w R E):Cv pG 5 #[x0] w R E:=okF (h:=h5) Tryz.func5 (by kernel_rfl) (by kernel_rfl) h
def b3y(x1 x5 w)(R:RT)(E):=
 ∀_τ:Fr,(oP E (fA 25 x1 1) w fun b c=>
 oP E (lA 23 b) c fun d e=>
 oP E (xCall (fC 17) [x5,d,(vI 0)]) e fun _t50_17 f=>
 oP E (xNil x5) f fun g i=>
 oP E (fA 57 g 0) i fun j k=>
 oP E (lA 9 j) k fun l m=>
 oP E (xBuiltin .len #[9] 3 [false] [l]) m fun n o=>
 oP E (bC .gtr 3 55 n (vI 65536)) o fun p a=>
 xcond p
 (R (Value.tuple #[(eS),(vI 50)]) a)
 (oP E (xNil x5) a fun q r=>
 oP E (fA 57 q 0) r fun s t=>
 oP E (lA 9 s) t fun u v=>
 R (Value.tuple #[u,(vI 0)]) v))
def b3z(_x1 _x5 x6:Value)(w)(next2:NT)(_R:RT)(E):=
 ∀_τ:Fr,(oP E (bC .add 3 20 x6 (vI 1)) w fun a b=>
 next2 [a] b)
def b6w(x1 x5 x6 w)(next2:NT)(j1:NT)(R:RT)(E):=
 opK pG E (fA 25 x1 0) w fun j k=>
 oP E (lA 22 j) k fun l m=>
 oP E (xBuiltin .len #[22] 3 [false] [l]) m fun n o=>
 oP E (bN .lss 3 15 18 x6 n) o fun p e=>
 xcond p
 (xcut (fun _ q=>b3z x1 x5 x6 q next2 R E) fun j3=>
 oP E (fA 25 x1 0) e fun r s=>
 oP E (lA 22 r) s fun t u=>
 oP E (iA 22 t x6) u fun v y=>
 oP E (lA 46 v) y fun z aa=>
 oP E (xV (Instr.alloc 46 true (.tuple #[]))) aa fun a ab=>
 oP E (sA 46 a z) ab fun _ ac=>
 oP E (fA 46 a 1) ac fun ad ae=>
 oP E (lA 3 ad) ae fun af ag=>
 oP E (bC .eql 3 28 af (vI 0)) ag fun ah f=>
 xcond ah
 (oP E (fA 46 a 0) f fun ai aj=>
 oP E (lA 9 ai) aj fun ak al=>
 oP E (xBin .add 9 (.const (Value.string ⟨#[118,97,114,32]⟩)) (.tmp 32) (Value.string ⟨#[118,97,114,32]⟩) ak) al fun am an=>
 oP E (bC .add 9 33 am (Value.string ⟨#[59]⟩)) an fun ao ap=>
 oP E (xCall (fC 15) [x5,(vI 0),ao]) ap fun _t35_75 aq=>
 j3 [] aq)
 (dX f fun b=>
 qP pG (fA 46 a 0) fun c=>
 qP pG (fA 46 a 1) fun g=>
 qL pG b (blk c) (lA 9 c) fun ar=>
 qP pG (xBin .add 9 (.const (Value.string ⟨#[97,114,114,97,121,32]⟩)) (.tmp 38) (Value.string ⟨#[97,114,114,97,121,32]⟩) ar) fun au=>
 qP pG (bC .add 9 39 au (Value.string ⟨#[91]⟩)) fun av=>
 qL pG b (blk g) (lA 3 g) fun aw=>
 oP E (xCall (fC 16) [aw]) b fun ax d=>
 keepX [(blk c)] b d (qP pG (bN .add 9 40 43 av ax) fun ay=>
 qP pG (bC .add 9 44 ay (Value.string ⟨#[93,59]⟩)) fun az=>
 oP E (xCall (fC 15) [x5,(vI 0),az]) d fun _t46_88 i=>
 keepX [] d i (j3 [] i))))
 (j1 [] e)
def F6(x0 w)(R:RT)(E):=
 opK pG E (xV (Instr.box 25 x0)) w fun a e=>
 oP E (lA 25 a) e fun f g=>
 oP E (xCall (fC 14) [f]) g fun b i=>
 oP E (bC .neq 3 10 b (vI 0)) i fun j c=>
 xcond j
 (R (Value.tuple #[(eS),b]) c)
 (oP E (xV (Instr.build 57 #[])) c fun k l=>
 oP E (xV (Instr.box 57 k)) l fun d m=>
 xcut (fun _ n=>b3y a d n R E) fun j1=>
 xloop [6] [(vI 0)] m fun o p next2=>
 b6w a d (o 6) p next2 j1 R E)
def h6:Hint:=(sQ (sQ (hS (sQ (hC (sQ hN) hN)) (sQ (hU [] (sQ (hB (hL [6] (hS (sQ (hC hN hN)) (hU [] (hB (sQ (sQ (hC hN (.reg [(0,68719476736,32),(0,137438953472,128),(2,274877906944,137438953472),(4,549755813888,274877906944),(8,1099511627776,549755813888),(0,2199023255552,128),(32,4398046511104,2199023255552),(64,8796093022208,4398046511104),(144,17592186044416,9895604649984),(256,35184372088832,17592186044416),(641,70368744177664,35253091565568)] [68,68,64,68,68,68,4,4,68,68,0] (.early 0 (.early 1 (.early 5 (.load 2 (.early 3 (.early 4 (.load 6 (.step 7 (.early 8 (.early 9 (.step 10 .done)))))))))))))))) hN))))) (sQ (hS (sQ (hC (sQ hN) hN)) (sQ hN))))))))
theorem c0s{x0:Value}(h:F6 x0 w R E):Cv pG 6 #[x0] w R E:=okF (h:=h6) Tryz.func6 (by kernel_rfl) (by kernel_rfl) h
def F7(x0 w)(R:RT)(E):=
 opK pG E (xV (Instr.box 36 x0)) w fun a e=>
 oP E (lA 36 a) e fun f g=>
 oP E (xCall (fC 18) [f]) g fun b i=>
 oP E (bC .neq 27 8 b (vI 0)) i fun j c=>
 xcond j
 (R (Value.tuple #[(eS),b]) c)
 (oP E (xV (Instr.build 44 #[])) c fun k l=>
 oP E (xV (Instr.box 44 k)) l fun d m=>
 oP E (lA 36 a) m fun n o=>
 oP E (xCall (fC 19) [d,n]) o fun _t15_15 p=>
 oP E (xNil d) p fun q r=>
 oP E (fA 44 q 0) r fun s t=>
 oP E (xCall (fC 13) [s]) t fun u v=>
 R (Value.tuple #[u,(vI 0)]) v)
def h7:Hint:=(sQ (hS (sQ (sQ (hC (sQ hN) hN))) (sQ (sQ (sQ hN)))))
theorem c0t{x0:Value}(h:F7 x0 w R E):Cv pG 7 #[x0] w R E:=okF (h:=h7) Tryz.func7 (by kernel_rfl) (by kernel_rfl) h
def F8(x0 w)(R:RT)(E):=
 opK pG E (xV (Instr.box 25 x0)) w fun a b=>
 oP E (lA 25 a) b fun c d=>
 oP E (xCall (fC 20) [c]) d fun e f=>
 oP E (xNil e) f fun g i=>
 oP E (fA 65 g 2) i fun j k=>
 oP E (lA 27 j) k fun l m=>
 R l m
def h8:Hint:=(sQ (sQ hN))
theorem c0u{x0:Value}(h:F8 x0 w R E):Cv pG 8 #[x0] w R E:=okF (h:=h8) Tryz.func8 (by kernel_rfl) (by kernel_rfl) h
def F9(x0 x1 w)(R:RT)(E):=
 opK pG E (xV (Instr.box 38 x0)) w fun a b=>
 oP E (xV (Instr.box 63 x1)) b fun c d=>
 oP E (lA 38 a) d fun e f=>
 oP E (xV (Instr.makeFunc (.func 22) #[] #[a,c])) f fun g i=>
 oP E (xCall (fC 21) [e,g]) i fun _t6_9 j=>
 R (Value.tuple #[]) j
def h9:Hint:=(sQ hN)
theorem c0v{x0 x1:Value}(h:F9 x0 x1 w R E):Cv pG 9 #[x0,x1] w R E:=okF (h:=h9) Tryz.func9 (by kernel_rfl) (by kernel_rfl) h
def b0U(x2 w)(R:RT)(E):=
 ∀_τ:Fr,(oP E (lA 38 x2) w fun a b=>
 oP E (xV (Instr.buildSlice 63 1 #[(0,(Value.string ⟨#[125]⟩))])) b fun c d=>
 oP E (xCall (fC 9) [a,c]) d fun _t46_51 e=>
 R (Value.tuple #[]) e)
def F11(x0 x1 w)(R:RT)(E):=
 opK pG E (xV (Instr.box 38 x0)) w fun a ae=>
 oP E (xV (Instr.box 51 x1)) ae fun b af=>
 oP E (lA 38 a) af fun ag ah=>
 oP E (xCall (fC 12) [ag]) ah fun ai i=>
 xcond ai
 (R (Value.tuple #[]) i)
 (oP E (fA 51 b 0) i fun aj ak=>
 oP E (lA 3 aj) ak fun c al=>
 oP E (bC .eql 3 7 c (vI 1)) al fun am j=>
 xcond am
 (oP E (lA 38 a) j fun an ao=>
 oP E (xV (Instr.makeFunc (.func 25) #[] #[a,b])) ao fun ap aq=>
 oP E (xCall (fC 21) [an,ap]) aq fun _t15_19 ar=>
 R (Value.tuple #[]) ar)
 (oP E (bC .eql 3 7 c (vI 2)) j fun au k=>
 xcond au
 (oP E (lA 38 a) k fun av aw=>
 oP E (xV (Instr.makeFunc (.func 26) #[] #[a,b])) aw fun ax ay=>
 oP E (xCall (fC 21) [av,ax]) ay fun _t20_27 az=>
 R (Value.tuple #[]) az)
 (oP E (bC .eql 3 7 c (vI 3)) k fun ba l=>
 xcond ba
 (dX l fun d=>
 qP pG (fA 51 b 3) fun m=>
 qL pG d (blk a) (lA 38 a) fun bb=>
 qL pG d (blk m) (lA 49 m) fun bc=>
 qP pG (iA 49 bc (vI 0)) fun n=>
 qL pG d (blk n) (lA 71 n) fun bd=>
 oP E (xCall (fC 27) [bb,(Value.string ⟨#[105,102]⟩),bd,(Value.string ⟨#[32,123]⟩)]) d fun _t28_37 o=>
 keepX [] d o (opK pG E (lA 38 a) o fun be bf=>
 oP E (fA 51 b 4) bf fun bg bh=>
 oP E (lA 23 bg) bh fun bi bj=>
 oP E (xCall (fC 28) [be,bi]) bj fun _t32_45 bk=>
 xcut (fun _ bl=>b0U a bl R E) fun j1=>
 oP E (fA 51 b 5) bk fun bm bn=>
 oP E (lA 23 bm) bn fun bo bp=>
 oP E (xBuiltin .len #[23] 3 [false] [bo]) bp fun bq br=>
 oP E (bC .gtr 3 35 bq (vI 0)) br fun bs p=>
 xcond bs
 (oP E (lA 38 a) p fun bt bu=>
 oP E (xV (Instr.buildSlice 63 1 #[(0,(Value.string ⟨#[125,32,101,108,115,101,32,123]⟩))])) bu fun bv bw=>
 oP E (xCall (fC 9) [bt,bv]) bw fun _t39_67 bz=>
 oP E (lA 38 a) bz fun ca cb=>
 oP E (fA 51 b 5) cb fun cc cd=>
 oP E (lA 23 cc) cd fun ce cf=>
 oP E (xCall (fC 28) [ca,ce]) cf fun _t43_75 cg=>
 j1 [] cg)
 (j1 [] p)))
 (oP E (bC .eql 3 7 c (vI 4)) l fun ch q=>
 xcond ch
 (dX q fun e=>
 qP pG (fA 51 b 3) fun r=>
 qL pG e (blk a) (lA 38 a) fun ci=>
 qL pG e (blk r) (lA 49 r) fun cj=>
 qP pG (iA 49 cj (vI 0)) fun s=>
 qL pG e (blk s) (lA 71 s) fun ck=>
 oP E (xCall (fC 27) [ci,(Value.string ⟨#[119,104,105,108,101]⟩),ck,(Value.string ⟨#[32,123]⟩)]) e fun _t54_85 t=>
 keepX [] e t (opK pG E (lA 38 a) t fun cl cm=>
 oP E (fA 51 b 4) cm fun cn co=>
 oP E (lA 23 cn) co fun cp cq=>
 oP E (xCall (fC 28) [cl,cp]) cq fun _t58_93 cr=>
 oP E (lA 38 a) cr fun cs ct=>
 oP E (xV (Instr.buildSlice 63 1 #[(0,(Value.string ⟨#[125]⟩))])) ct fun cu cv=>
 oP E (xCall (fC 9) [cs,cu]) cv fun _t61_99 cw=>
 R (Value.tuple #[]) cw))
 (oP E (bC .eql 3 7 c (vI 5)) q fun cx u=>
 xcond cx
 (dX u fun f=>
 qP pG (fA 51 b 3) fun v=>
 qL pG f (blk a) (lA 38 a) fun cy=>
 qL pG f (blk v) (lA 49 v) fun cz=>
 qP pG (iA 49 cz (vI 0)) fun y=>
 qL pG f (blk y) (lA 71 y) fun da=>
 oP E (xCall (fC 27) [cy,(Value.string ⟨#[97,115,115,101,114,116]⟩),da,(Value.string ⟨#[59]⟩)]) f fun _t69_109 z=>
 keepX [] f z (R (Value.tuple #[]) z))
 (oP E (bC .eql 3 7 c (vI 6)) u fun db aa=>
 xcond db
 (dX aa fun g=>
 qP pG (fA 51 b 3) fun ab=>
 qL pG g (blk a) (lA 38 a) fun dc=>
 qL pG g (blk ab) (lA 49 ab) fun dd=>
 qP pG (iA 49 dd (vI 0)) fun ac=>
 qL pG g (blk ac) (lA 71 ac) fun de=>
 oP E (xCall (fC 27) [dc,(Value.string ⟨#[97,115,115,117,109,101]⟩),de,(Value.string ⟨#[59]⟩)]) g fun _t77_119 ad=>
 keepX [] g ad (R (Value.tuple #[]) ad))
 (oP E (lA 38 a) aa fun df dg=>
 oP E (xV (Instr.buildSlice 63 1 #[(0,(Value.string ⟨#[115,107,105,112,59]⟩))])) dg fun dh di=>
 oP E (xCall (fC 9) [df,dh]) di fun _t10_125 dj=>
 R (Value.tuple #[]) dj)))))))
def h11:Hint:=(sQ (hS (sQ (hC hN hN)) (sQ (hB (sQ (hC hN (sQ (hC hN (sQ (hC (hS (.reg [(0,8388608,4),(0,16777216,8),(2,33554432,16777216),(4,67108864,33554432),(8,134217728,67108864),(17,268435456,142606336)] [20,21,17,21,5,0] (.early 1 (.load 0 (.load 2 (.early 3 (.load 4 (.step 5 .done))))))) (sQ (hU [] (sQ (hC (sQ hN) hN)) hN))) (sQ (hC (hS (.reg [(0,562949953421312,4),(0,1125899906842624,8),(2,2251799813685248,1125899906842624),(4,4503599627370496,2251799813685248),(8,9007199254740992,4503599627370496),(17,18014398509481984,9570149208162304)] [20,21,17,21,5,0] (.early 1 (.load 0 (.load 2 (.early 3 (.load 4 (.step 5 .done))))))) (sQ hN)) (sQ (hC (.reg [(0,18446744073709551616,4),(0,36893488147419103232,8),(2,73786976294838206464,36893488147419103232),(4,147573952589676412928,73786976294838206464),(8,295147905179352825856,147573952589676412928),(17,590295810358705651712,313594649253062377472)] [20,21,17,21,5,0] (.early 1 (.load 0 (.load 2 (.early 3 (.load 4 (.step 5 .done))))))) (sQ (hC (.reg [(0,4722366482869645213696,4),(0,9444732965739290427392,8),(2,18889465931478580854784,9444732965739290427392),(4,37778931862957161709568,18889465931478580854784),(8,75557863725914323419136,37778931862957161709568),(17,151115727451828646838272,80280230208783968632832)] [20,21,17,21,5,0] (.early 1 (.load 0 (.load 2 (.early 3 (.load 4 (.step 5 .done))))))) hN))))))))))))))))
theorem b8k{x0 x1:Value}(h:F11 x0 x1 w R E):Cv pG 11 #[x0,x1] w R E:=okF (h:=h11) Tryz.func11 (by kernel_rfl) (by kernel_rfl) h
def F12(x0 w)(R:RT)(E):=
 opK pG E (xNil x0) w fun a b=>
 oP E (fA 44 a 0) b fun c d=>
 oP E (xCall (fC 29) [c]) d fun e f=>
 oP E (bC .gtr 3 6 e (vI 65536)) f fun g i=>
 R g i
def h12:Hint:=(sQ (sQ hN))
theorem b8l{x0:Value}(h:F12 x0 w R E):Cv pG 12 #[x0] w R E:=okF (h:=h12) Tryz.func12 (by kernel_rfl) (by kernel_rfl) h
def F13(x0 w)(R:RT)(E):=
 dX w fun a=>
 qP pG (xNil x0) fun f=>
 qP pG (fA 42 f 1) fun d=>
 qP pG (xNil x0) fun g=>
 qP pG (fA 42 g 1) fun b=>
 qL pG a (blk d) (lA 40 d) fun i=>
 qL pG a (blk b) (lA 40 b) fun j=>
 qP pG (xBuiltin .len #[40] 3 [false] [j]) fun k=>
 oP E (xBuiltin .unsafeSliceData #[40] 74 [false] [i]) a fun l c=>
 keepX [(blk b)] a c (opK pG E (xBuiltin .unsafeString #[74,3] 9 [false,false] [l,k]) c fun m e=>
 keepX [] c e (R m e))
def h13:Hint:=(sQ (hS (.reg [(0,8,1),(1,16,8),(2,32,16),(4,64,32),(8,128,64),(0,256,1),(32,512,256),(64,1024,512),(128,2048,1024),(256,4096,2048),(528,8192,4224),(2047,4,8192)] [264,264,264,256,256,264,264,264,8,264,0,264] (.early 0 (.early 1 (.early 2 (.early 5 (.early 6 (.early 7 (.load 3 (.load 8 (.early 9 (.step 4 (.step 10 (.early 11 .done))))))))))))) hN))
theorem b8m{x0:Value}(h:F13 x0 w R E):Cv pG 13 #[x0] w R E:=okF (h:=h13) Tryz.func13 (by kernel_rfl) (by kernel_rfl) h
def b0V(x4 w)(R:RT)(E):=
 ∀_τ:Fr,(oP E (lA 79 x4) w fun a b=>
 oP E (xCall (fC 33) [a]) b fun c d=>
 R c d)
def b4r(x1 x4 x6 w)(next3:NT)(j2:NT)(_R:RT)(E):=
 opK pG E (fA 25 x1 1) w fun c d=>
 oP E (lA 23 c) d fun e f=>
 oP E (xBuiltin .len #[23] 3 [false] [e]) f fun g i=>
 oP E (bN .lss 3 50 53 x6 g) i fun a j=>
 oP E (gYs a (fA 79 x4 0)) j fun k l=>
 oP E (gYs a (lA 4 k)) l fun m n=>
 oP E (xPick a m (vB false)) n fun o b=>
 xcond o
 (oP E (fA 25 x1 1) b fun p q=>
 oP E (lA 23 p) q fun r s=>
 oP E (iA 23 r x6) s fun t u=>
 oP E (lA 51 t) u fun v y=>
 oP E (xCall (fC 32) [x4,v]) y fun _t66_55 z=>
 oP E (bC .add 3 59 x6 (vI 1)) z fun aa ab=>
 next3 [aa] ab)
 (j2 [] b)
def b0W(x1 x4 w)(R:RT)(E):=
 ∀_τ:Fr,(xcut (fun _ a=>b0V x4 a R E) fun j2=>
 xloop [6] [(vI 0)] w fun b c next3=>
 b4r x1 x4 (b 6) c next3 j2 R E)
def b4s(x1 x4 x5 w)(next4:NT)(j1:NT)(_R:RT)(E):=
 opK pG E (fA 25 x1 0) w fun d e=>
 oP E (lA 22 d) e fun f g=>
 oP E (xBuiltin .len #[22] 3 [false] [f]) g fun i j=>
 oP E (bN .lss 3 15 18 x5 i) j fun k c=>
 xcond k
 (oP E (fA 79 x4 0) c fun l m=>
 oP E (lA 4 l) m fun a n=>
 oP E (gYs a (fA 25 x1 0)) n fun o p=>
 oP E (gYs a (lA 22 o)) p fun q r=>
 oP E (gYs a (iA 22 q (zT a x5))) r fun s t=>
 oP E (gYs a (fA 46 s 1)) t fun u v=>
 oP E (gYs a (lA 3 u)) v fun y z=>
 oP E (gYs a (bC .geq 3 30 y (vI 0))) z fun aa ab=>
 oP E (xPick a aa (vB false)) ab fun b ac=>
 oP E (gYs b (fA 25 x1 0)) ac fun ad ae=>
 oP E (gYs b (lA 22 ad)) ae fun af ag=>
 oP E (gYs b (iA 22 af (zT b x5))) ag fun ah ai=>
 oP E (gYs b (fA 46 ah 1)) ai fun aj ak=>
 oP E (gYs b (lA 3 aj)) ak fun al am=>
 oP E (gYs b (bC .leq 3 39 al (vI 2147483647))) am fun an ao=>
 oP E (xPick b an (vB false)) ao fun ap aq=>
 oP E (fA 79 x4 0) aq fun ar au=>
 oP E (sA 4 ar ap) au fun _ av=>
 oP E (fA 25 x1 0) av fun aw ax=>
 oP E (lA 22 aw) ax fun ay az=>
 oP E (iA 22 ay x5) az fun ba bb=>
 oP E (fA 46 ba 0) bb fun bc bd=>
 oP E (lA 9 bc) bd fun be bf=>
 oP E (xCall (fC 31) [x4,be,(vB true)]) bf fun _t49_117 bg=>
 oP E (bC .add 3 20 x5 (vI 1)) bg fun bh bi=>
 next4 [bh] bi)
 (j1 [] c)
def F14(x0 w)(R:RT)(E):=
 opK pG E (xV (Instr.box 25 x0)) w fun a e=>
 oP E (lA 25 a) e fun f g=>
 oP E (xCall (fC 30) [f]) g fun i j=>
 oP E (xV (Instr.alloc 76 true (.tuple #[]))) j fun b k=>
 oP E (sA 76 b i) k fun _ l=>
 oP E (fA 76 b 2) l fun m n=>
 oP E (lA 3 m) n fun o p=>
 oP E (bC .neq 3 10 o (vI 0)) p fun q d=>
 xcond q
 (oP E (fA 76 b 2) d fun r s=>
 oP E (lA 3 r) s fun t u=>
 R t u)
 (oP E (xV (Instr.build 79 #[(0,(vB true)),(1,(vB true))])) d fun v y=>
 oP E (xV (Instr.alloc 79 true (.tuple #[]))) y fun c z=>
 oP E (sA 79 c v) z fun _ aa=>
 xcut (fun _ ab=>b0W a c ab R E) fun j1=>
 xloop [5] [(vI 0)] aa fun ac ad next4=>
 b4s a c (ac 5) ad next4 j1 R E)
def h14:Hint:=(sQ (sQ (hS (sQ (hC (sQ hN) hN)) (sQ (hU [] (sQ (hB (hL [5] (hS (sQ (hC hN hN)) (hS (hB (sQ hN)) hN))))) (hU [] (sQ (hB (hL [6] (hS (sQ (hC hN hN)) (hS (hB hN) hN))))) (sQ hN)))))))
theorem b8n{x0:Value}(h:F14 x0 w R E):Cv pG 14 #[x0] w R E:=okF (h:=h14) Tryz.func14 (by kernel_rfl) (by kernel_rfl) h
def b0X(x0 x2 w)(R:RT)(E):=
 ∀_τ:Fr,(oP E (xNil x0) w fun a b=>
 oP E (fA 57 a 0) b fun c d=>
 oP E (lA 9 c) d fun e f=>
 oP E (bN .add 9 24 25 e x2) f fun g i=>
 oP E (bC .add 9 26 g (Value.string ⟨#[10]⟩)) i fun j k=>
 oP E (xNil x0) k fun l m=>
 oP E (fA 57 l 0) m fun n o=>
 oP E (sA 9 n j) o fun _ p=>
 R (Value.tuple #[]) p)
def b4t(_x0 x1 x2 x6:Value)(w)(next2:NT)(j1:NT)(_R:RT)(E):=
 opK pG E (bN .lss 3 13 14 x6 x1) w fun b a=>
 xcond b
 (oP E (xBin .add 9 (.const (Value.string ⟨#[32,32]⟩)) (.tmp 18) (Value.string ⟨#[32,32]⟩) x2) a fun c d=>
 oP E (bC .add 3 16 x6 (vI 1)) d fun e f=>
 next2 [c,e] f)
 (j1 [x2] a)
def F15(x0 x1 x2 w)(R:RT)(E):=
 opK pG E (xNil x0) w fun c d=>
 oP E (fA 57 c 0) d fun e f=>
 oP E (lA 9 e) f fun g i=>
 oP E (xBuiltin .len #[9] 3 [false] [g]) i fun j k=>
 oP E (bC .gtr 3 11 j (vI 65536)) k fun l a=>
 xcond l
 (R (Value.tuple #[]) a)
 (xcut (fun m n=>b0X x0 (nth m 0) n R E) fun j1=>
 xloop [2,6] [x2,(vI 0)] a fun b o next2=>
 b4t x0 x1 (b 2) (b 6) o next2 j1 R E)
def h15:Hint:=(hS (sQ (hC hN hN)) (hU [2] (sQ (hB (hL [2,6] (hS (sQ (hC hN hN)) (hS (hB hN) hN))))) hN))
theorem b8o{x0 x1 x2:Value}(h:F15 x0 x1 x2 w R E):Cv pG 15 #[x0,x1,x2] w R E:=okF (h:=h15) Tryz.func15 (by kernel_rfl) (by kernel_rfl) h
def b4u(x0 x3 w)(next1:NT)(R:RT)(E):=
 opK pG E (bC .rem 2 12 x0 (vI 10)) w fun d e=>
 oP E (xBin .add 2 (.const (vI 48)) (.tmp 13) (vI 48) d) e fun f g=>
 oP E (xV (convert 2 5 f)) g fun i j=>
 oP E (xV (Instr.buildSlice 40 1 #[(0,i)])) j fun k l=>
 oP E (xV (convert 40 9 k)) l fun m n=>
 oP E (bN .add 9 17 18 m x3) n fun a o=>
 oP E (bC .quo 2 20 x0 (vI 10)) o fun b p=>
 oP E (bC .eql 2 22 b (vI 0)) p fun q c=>
 xcond q
 (R a c)
 (next1 [b,a] c)
def F16(x0 w)(R:RT)(E):=
 opK pG E (bC .lss 2 4 x0 (vI 0)) w fun d a=>
 xcond d
 (oP E (bC .eql 2 6 x0 (vI (-9223372036854775808))) a fun e b=>
 xcond e
 (R (Value.string ⟨#[45,57,50,50,51,51,55,50,48,51,54,56,53,52,55,55,53,56,48,56]⟩) b)
 (oP E (xV (Op.unary .neg x0)) b fun f g=>
 oP E (xCall (fC 16) [f]) g fun i j=>
 oP E (xBin .add 9 (.const (Value.string ⟨#[45]⟩)) (.tmp 10) (Value.string ⟨#[45]⟩) i) j fun k l=>
 R k l))
 (xloop [0,3] [x0,(eS)] a fun c m next1=>
 b4u (c 0) (c 3) m next1 R E)
def h16:Hint:=(sQ (hS (sQ (hC (hS (sQ (hC (sQ hN) hN)) (sQ hN)) hN)) (sQ (hB (hL [0,3] (hB (sQ (sQ (sQ (hC (sQ hN) hN))))))))))
theorem b8p{x0:Value}(h:F16 x0 w R E):Cv pG 16 #[x0] w R E:=okF (h:=h16) Tryz.func16 (by kernel_rfl) (by kernel_rfl) h
def b0Y(_x0 _x1 _x2 x6:Value)(w)(next1:NT)(_R:RT)(E):=
 ∀_τ:Fr,(oP E (bC .add 3 20 x6 (vI 1)) w fun a b=>
 next1 [a] b)
def b0Z(x0 _x1 x2 _x6:Value)(w)(j2:NT)(_R:RT)(E):=
 ∀_τ:Fr,(oP E (xCall (fC 15) [x0,x2,(Value.string ⟨#[125]⟩)]) w fun _t148_167 a=>
 j2 [] a)
def b4v(x0 x1 x2 x6 w)(next1:NT)(R:RT)(E):=
 opK pG E (xBuiltin .len #[23] 3 [false] [x1]) w fun ae af=>
 oP E (bN .lss 3 8 10 x6 ae) af fun b ag=>
 oP E (gYs b (xNil (zT b x0))) ag fun ah ai=>
 oP E (gYs b (fA 57 ah 0)) ai fun aj ak=>
 oP E (gYs b (lA 9 aj)) ak fun al am=>
 oP E (gYs b (xBuiltin .len #[9] 3 [false] [al])) am fun an ao=>
 oP E (gYs b (bC .leq 3 17 an (vI 65536))) ao fun ap aq=>
 oP E (xPick b ap (vB false)) aq fun ar n=>
 xcond ar
 (xcut (fun _ au=>b0Y x0 x1 x2 x6 au next1 R E) fun j2=>
 oP E (iA 23 x1 x6) n fun av aw=>
 oP E (lA 51 av) aw fun ax ay=>
 oP E (xV (Instr.alloc 51 true (.tuple #[]))) ay fun a az=>
 oP E (sA 51 a ax) az fun _ ba=>
 oP E (fA 51 a 0) ba fun bb bc=>
 oP E (lA 3 bb) bc fun c bd=>
 oP E (bC .eql 3 27 c (vI 1)) bd fun be o=>
 xcond be
 (dX o fun e=>
 qP pG (fA 51 a 1) fun g=>
 qP pG (fA 51 a 2) fun p=>
 qL pG e (blk g) (lA 9 g) fun bf=>
 qP pG (bC .add 9 33 bf (Value.string ⟨#[32,61,32]⟩)) fun bg=>
 qL pG e (blk p) (lA 34 p) fun bh=>
 qP pG (iA 34 bh (vI 0)) fun q=>
 qL pG e (blk q) (lA 36 q) fun bi=>
 oP E (xCall (fC 34) [bi]) e fun bj i=>
 keepX [(blk g)] e i (qP pG (bN .add 9 34 39 bg bj) fun bk=>
 qP pG (bC .add 9 40 bk (Value.string ⟨#[59]⟩)) fun bl=>
 oP E (xCall (fC 15) [x0,x2,bl]) i fun _t42_47 r=>
 keepX [] i r (j2 [] r)))
 (oP E (bC .eql 3 27 c (vI 2)) o fun bm s=>
 xcond bm
 (dX s fun d=>
 qP pG (fA 51 a 1) fun f=>
 qP pG (fA 51 a 2) fun t=>
 qP pG (fA 51 a 2) fun j=>
 qL pG d (blk f) (lA 9 f) fun bn=>
 qP pG (bC .add 9 48 bn (Value.string ⟨#[91]⟩)) fun bo=>
 qL pG d (blk t) (lA 34 t) fun bp=>
 qP pG (iA 34 bp (vI 0)) fun u=>
 qL pG d (blk u) (lA 36 u) fun bq=>
 qL pG d (blk j) (lA 34 j) fun br=>
 qP pG (iA 34 br (vI 1)) fun k=>
 qL pG d (blk k) (lA 36 k) fun bs=>
 oP E (xCall (fC 34) [bq]) d fun bt l=>
 keepX [(blk k),(blk j),(blk f)] d l (qP pG (bN .add 9 49 54 bo bt) fun bu=>
 qP pG (bC .add 9 55 bu (Value.string ⟨#[93,32,61,32]⟩)) fun bv=>
 oP E (xCall (fC 34) [bs]) l fun bw m=>
 keepX [(blk f)] l m (qP pG (bN .add 9 56 61 bv bw) fun bz=>
 qP pG (bC .add 9 62 bz (Value.string ⟨#[59]⟩)) fun ca=>
 oP E (xCall (fC 15) [x0,x2,ca]) m fun _t64_71 v=>
 keepX [] m v (j2 [] v))))
 (oP E (bC .eql 3 27 c (vI 5)) s fun cb y=>
 xcond cb
 (oP E (fA 51 a 3) y fun cc cd=>
 oP E (lA 49 cc) cd fun ce cf=>
 oP E (iA 49 ce (vI 0)) cf fun cg ch=>
 oP E (lA 71 cg) ch fun ci cj=>
 oP E (xCall (fC 35) [ci]) cj fun ck cl=>
 oP E (xBin .add 9 (.const (Value.string ⟨#[97,115,115,101,114,116,32]⟩)) (.tmp 73) (Value.string ⟨#[97,115,115,101,114,116,32]⟩) ck) cl fun cm cn=>
 oP E (bC .add 9 74 cm (Value.string ⟨#[59]⟩)) cn fun co cp=>
 oP E (xCall (fC 15) [x0,x2,co]) cp fun _t76_89 cq=>
 j2 [] cq)
 (oP E (bC .eql 3 27 c (vI 6)) y fun cr z=>
 xcond cr
 (oP E (fA 51 a 3) z fun cs ct=>
 oP E (lA 49 cs) ct fun cu cv=>
 oP E (iA 49 cu (vI 0)) cv fun cw cx=>
 oP E (lA 71 cw) cx fun cy cz=>
 oP E (xCall (fC 35) [cy]) cz fun da db=>
 oP E (xBin .add 9 (.const (Value.string ⟨#[97,115,115,117,109,101,32]⟩)) (.tmp 85) (Value.string ⟨#[97,115,115,117,109,101,32]⟩) da) db fun dc dd=>
 oP E (bC .add 9 86 dc (Value.string ⟨#[59]⟩)) dd fun de df=>
 oP E (xCall (fC 15) [x0,x2,de]) df fun _t88_107 dg=>
 j2 [] dg)
 (oP E (bC .eql 3 27 c (vI 7)) z fun dh aa=>
 xcond dh
 (oP E (xCall (fC 15) [x0,x2,(Value.string ⟨#[115,107,105,112,59]⟩)]) aa fun _t93_111 di=>
 j2 [] di)
 (oP E (bC .eql 3 27 c (vI 4)) aa fun dj ab=>
 xcond dj
 (oP E (fA 51 a 3) ab fun dk dl=>
 oP E (lA 49 dk) dl fun dm dn=>
 oP E (iA 49 dm (vI 0)) dn fun dp dq=>
 oP E (lA 71 dp) dq fun dr ds=>
 oP E (xCall (fC 35) [dr]) ds fun dt du=>
 oP E (xBin .add 9 (.const (Value.string ⟨#[119,104,105,108,101,32]⟩)) (.tmp 102) (Value.string ⟨#[119,104,105,108,101,32]⟩) dt) du fun dv dw=>
 oP E (bC .add 9 103 dv (Value.string ⟨#[32,123]⟩)) dw fun dx dy=>
 oP E (xCall (fC 15) [x0,x2,dx]) dy fun _t105_129 dz=>
 oP E (fA 51 a 4) dz fun ea eb=>
 oP E (lA 23 ea) eb fun ec ed=>
 oP E (bC .add 3 109 x2 (vI 1)) ed fun ee ef=>
 oP E (xCall (fC 17) [x0,ec,ee]) ef fun _t111_137 eg=>
 oP E (xCall (fC 15) [x0,x2,(Value.string ⟨#[125]⟩)]) eg fun _t114_139 eh=>
 j2 [] eh)
 (oP E (bC .eql 3 27 c (vI 3)) ab fun ei ac=>
 xcond ei
 (oP E (fA 51 a 3) ac fun ej ek=>
 oP E (lA 49 ej) ek fun el em=>
 oP E (iA 49 el (vI 0)) em fun en eo=>
 oP E (lA 71 en) eo fun ep eq=>
 oP E (xCall (fC 35) [ep]) eq fun er es=>
 oP E (xBin .add 9 (.const (Value.string ⟨#[105,102,32]⟩)) (.tmp 123) (Value.string ⟨#[105,102,32]⟩) er) es fun et eu=>
 oP E (bC .add 9 124 et (Value.string ⟨#[32,123]⟩)) eu fun ev ew=>
 oP E (xCall (fC 15) [x0,x2,ev]) ew fun _t126_157 ex=>
 oP E (fA 51 a 4) ex fun ey ez=>
 oP E (lA 23 ey) ez fun fa fb=>
 oP E (bC .add 3 130 x2 (vI 1)) fb fun fc fd=>
 oP E (xCall (fC 17) [x0,fa,fc]) fd fun _t132_165 fe=>
 xcut (fun _ ff=>b0Z x0 x1 x2 x6 ff j2 R E) fun j3=>
 oP E (fA 51 a 5) fe fun fg fh=>
 oP E (lA 23 fg) fh fun fi fj=>
 oP E (xBuiltin .len #[23] 3 [false] [fi]) fj fun fk fl=>
 oP E (bC .gtr 3 135 fk (vI 0)) fl fun fm ad=>
 xcond fm
 (oP E (xCall (fC 15) [x0,x2,(Value.string ⟨#[125,32,101,108,115,101,32,123]⟩)]) ad fun _t139_179 fn=>
 oP E (fA 51 a 5) fn fun fo fp=>
 oP E (lA 23 fo) fp fun fq fs=>
 oP E (bC .add 3 143 x2 (vI 1)) fs fun ft fu=>
 oP E (xCall (fC 17) [x0,fq,ft]) fu fun _t145_187 fv=>
 j3 [] fv)
 (j3 [] ad))
 (j2 [] ac))))))))
 (R (Value.tuple #[]) n)
def F17(x0 x1 x2 w)(R:RT)(E):=
 xloop [6] [(vI 0)] w fun a b next1=>
 b4v x0 x1 x2 (a 6) b next1 R E
def h17:Hint:=(sQ (hB (hL [6] (hS (sQ (hC hN hN)) (hU [] (hB (sQ (sQ (hB (sQ (hC (.reg [(0,1073741824,1),(0,2147483648,4),(0,4294967296,128),(4,8589934592,4294967296),(8,17179869184,8589934592),(0,34359738368,128),(32,68719476736,34359738368),(64,137438953472,68719476736),(128,274877906944,137438953472),(256,549755813888,274877906944),(528,1099511627776,566935683072),(1024,2199023255552,1099511627776),(2563,4398046511104,2202244481024)] [328,328,328,320,328,328,264,328,72,8,328,328,0] (.early 0 (.early 1 (.early 2 (.early 5 (.load 3 (.early 4 (.load 6 (.early 7 (.load 8 (.step 9 (.early 10 (.early 11 (.step 12 .done)))))))))))))) (sQ (hC (.reg [(0,35184372088832,1),(0,70368744177664,4),(0,140737488355328,128),(4,281474976710656,140737488355328),(8,562949953421312,281474976710656),(0,1125899906842624,128),(32,2251799813685248,1125899906842624),(64,4503599627370496,2251799813685248),(128,9007199254740992,4503599627370496),(256,18014398509481984,9007199254740992),(528,36028797018963968,18577348462903296),(1024,72057594037927936,36028797018963968),(0,144115188075855872,128),(4096,288230376151711744,144115188075855872),(8192,576460752303423488,288230376151711744),(16384,1152921504606846976,576460752303423488),(33280,2305843009213693952,1152921504606846976),(67584,4611686018427387904,2377900603251621888),(131072,9223372036854775808,4611686018427387904),(327683,18446744073709551616,9223477589971042304)] [41288,41288,41288,41280,41288,41288,41224,41288,41032,40968,41288,41288,41288,33096,41288,8520,8,41288,41288,0] (.early 0 (.early 1 (.early 2 (.early 5 (.early 12 (.load 3 (.early 4 (.load 6 (.early 7 (.load 8 (.load 13 (.early 14 (.load 15 (.step 9 (.early 10 (.early 11 (.step 16 (.early 17 (.early 18 (.step 19 .done))))))))))))))))))))) (sQ (hC hN (sQ (hC hN (sQ (hC hN (sQ (hC (sQ (sQ hN)) (sQ (hC (sQ (sQ (hU [] (sQ (hC (sQ hN) hN)) hN))) hN)))))))))))))))))) hN)))))
theorem b8q{x0 x1 x2:Value}(h:F17 x0 x1 x2 w R E):Cv pG 17 #[x0,x1,x2] w R E:=okF (h:=h17) Tryz.func17 (by kernel_rfl) (by kernel_rfl) h
def F18(x0 w)(R:RT)(E):=
 opK pG E (xV (Instr.box 36 x0)) w fun a b=>
 oP E (lA 36 a) b fun c d=>
 oP E (xV (Instr.build 85 #[(0,c)])) d fun e f=>
 oP E (xV (Instr.makeInterface 85 e)) f fun g i=>
 oP E (xV (Instr.buildSlice 86 1 #[(0,g)])) i fun j k=>
 oP E (xCall (fC 36) [j]) k fun l m=>
 oP E (xNil l) m fun n o=>
 oP E (fA 65 n 2) o fun p q=>
 oP E (lA 27 p) q fun r s=>
 R r s
def h18:Hint:=(sQ (sQ hN))
theorem b8r{x0:Value}(h:F18 x0 w R E):Cv pG 18 #[x0] w R E:=okF (h:=h18) Tryz.func18 (by kernel_rfl) (by kernel_rfl) h
def F19(x0 x1 w)(R:RT)(E):=
 opK pG E (xV (Instr.box 36 x1)) w fun a j=>
 oP E (fA 36 a 0) j fun k l=>
 oP E (lA 3 k) l fun m n=>
 oP E (xCall (fC 37) [m]) n fun c o=>
 oP E (fA 36 a 0) o fun p q=>
 oP E (lA 3 p) q fun b r=>
 oP E (bC .eql 3 9 b (vI 1)) r fun s d=>
 xcond s
 (oP E (fA 36 a 1) d fun t u=>
 oP E (lA 2 t) u fun v y=>
 oP E (xCall (fC 38) [v,(vI 10)]) y fun z aa=>
 oP E (xV (Instr.buildSlice 63 1 #[(0,z)])) aa fun ab ac=>
 oP E (xCall (fC 23) [x0,ab]) ac fun _t38_23 ad=>
 R (Value.tuple #[]) ad)
 (oP E (bC .eql 3 9 b (vI 2)) d fun ae e=>
 xcond ae
 (oP E (fA 36 a 2) e fun af ag=>
 oP E (lA 9 af) ag fun ah ai=>
 oP E (xV (Instr.buildSlice 63 1 #[(0,ah)])) ai fun aj ak=>
 oP E (xCall (fC 23) [x0,aj]) ak fun _t45_33 al=>
 R (Value.tuple #[]) al)
 (oP E (bC .eql 3 9 b (vI 3)) e fun am f=>
 xcond am
 (oP E (xV (Instr.buildSlice 63 1 #[(0,(Value.string ⟨#[105,110,112,117,116]⟩))])) f fun an ao=>
 oP E (xCall (fC 23) [x0,an]) ao fun _t50_39 ap=>
 R (Value.tuple #[]) ap)
 (oP E (bC .eql 3 9 b (vI 4)) f fun aq g=>
 xcond aq
 (oP E (fA 36 a 2) g fun ar au=>
 oP E (lA 9 ar) au fun av aw=>
 oP E (xV (Instr.buildSlice 63 2 #[(0,av),(1,(Value.string ⟨#[91]⟩))])) aw fun ax ay=>
 oP E (xCall (fC 23) [x0,ax]) ay fun _t57_49 az=>
 oP E (fA 36 a 3) az fun ba bb=>
 oP E (lA 34 ba) bb fun bc bd=>
 oP E (iA 34 bc (vI 0)) bd fun be bf=>
 oP E (lA 36 be) bf fun bg bh=>
 oP E (xCall (fC 19) [x0,bg]) bh fun _t63_59 bi=>
 oP E (xV (Instr.buildSlice 63 1 #[(0,(Value.string ⟨#[93]⟩))])) bi fun bj bk=>
 oP E (xCall (fC 23) [x0,bj]) bk fun _t66_63 bl=>
 R (Value.tuple #[]) bl)
 (oP E (bC .eql 3 9 b (vI 5)) g fun bm i=>
 xcond bm
 (oP E (xV (Instr.buildSlice 63 1 #[(0,(Value.string ⟨#[45]⟩))])) i fun bn bo=>
 oP E (xCall (fC 23) [x0,bn]) bo fun _t71_69 bp=>
 oP E (fA 36 a 3) bp fun bq br=>
 oP E (lA 34 bq) br fun bs bt=>
 oP E (iA 34 bs (vI 0)) bt fun bu bv=>
 oP E (lA 36 bu) bv fun bw bz=>
 oP E (xCall (fC 39) [x0,bw,c]) bz fun _t78_79 ca=>
 R (Value.tuple #[]) ca)
 (oP E (fA 36 a 3) i fun cb cc=>
 oP E (lA 34 cb) cc fun cd ce=>
 oP E (iA 34 cd (vI 0)) ce fun cf cg=>
 oP E (lA 36 cf) cg fun ch ci=>
 oP E (xCall (fC 39) [x0,ch,c]) ci fun _t16_89 cj=>
 oP E (fA 36 a 0) cj fun ck cl=>
 oP E (lA 3 ck) cl fun cm cn=>
 oP E (xCall (fC 40) [cm]) cn fun co cp=>
 oP E (xV (Instr.buildSlice 63 3 #[(0,(Value.string ⟨#[32]⟩)),(1,co),(2,(Value.string ⟨#[32]⟩))])) cp fun cq cr=>
 oP E (xCall (fC 23) [x0,cq]) cr fun _t22_99 cs=>
 oP E (fA 36 a 3) cs fun ct cu=>
 oP E (lA 34 ct) cu fun cv cw=>
 oP E (iA 34 cv (vI 1)) cw fun cx cy=>
 oP E (lA 36 cx) cy fun cz da=>
 oP E (bC .add 3 28 c (vI 1)) da fun db dc=>
 oP E (xCall (fC 39) [x0,cz,db]) dc fun _t30_111 dd=>
 R (Value.tuple #[]) dd)))))
def h19:Hint:=(sQ (sQ (sQ (hB (sQ (hC hN (sQ (hC hN (sQ (hC hN (sQ (hC (sQ (sQ hN)) (sQ (hC (sQ hN) (sQ (sQ hN))))))))))))))))
theorem b8s{x0 x1:Value}(h:F19 x0 x1 w R E):Cv pG 19 #[x0,x1] w R E:=okF (h:=h19) Tryz.func19 (by kernel_rfl) (by kernel_rfl) h
def F20(x0 w)(R:RT)(E):=
 opK pG E (xV (Instr.box 25 x0)) w fun g k=>
 dX k fun a=>
 qP pG (fA 25 g 0) fun i=>
 qP pG (fA 25 g 1) fun b=>
 qL pG a (blk i) (lA 22 i) fun l=>
 qL pG a (blk b) (lA 23 b) fun m=>
 oP E (xCall (fC 42) [l,(fC 43)]) a fun n c=>
 keepX [(blk b)] a c (opK pG E (xCall (fC 44) [m,(fC 45)]) c fun o d=>
 keepX [] c d (opK pG E (xV (Instr.buildSlice 115 2 #[(0,n),(1,o)])) d fun p e=>
 keepX [] d e (opK pG E (xCall (fC 41) [p]) e fun q f=>
 keepX [] e f (opK pG E (xCall (fC 36) [q]) f fun r j=>
 keepX [] f j (R r j)))))
def h20:Hint:=(sQ (hS (.reg [(0,8,2),(1,16,8),(2,32,16),(0,64,2),(8,128,64),(20,256,128),(36,512,288),(96,1024,512),(128,2048,1024),(511,4,2048)] [18,16,16,18,2,0,0,0,0,18] (.early 0 (.early 3 (.load 1 (.load 4 (.step 2 (.step 5 (.step 6 (.step 7 (.step 8 (.early 9 .done))))))))))) hN))
theorem b8t{x0:Value}(h:F20 x0 w R E):Cv pG 20 #[x0] w R E:=okF (h:=h20) Tryz.func20 (by kernel_rfl) (by kernel_rfl) h
def F21(x0 x1 w)(R:RT)(E):=
 opK pG E (xNil x0) w fun a b=>
 oP E (fA 44 a 1) b fun c d=>
 oP E (lA 3 c) d fun e f=>
 oP E (xCall (fC 46) [(Value.string ⟨#[32,32]⟩),e]) f fun g i=>
 oP E (xV (Instr.buildSlice 63 1 #[(0,g)])) i fun j k=>
 oP E (xCall (fC 23) [x0,j]) k fun _t11_11 l=>
 oP E (xCall x1 []) l fun _t13_13 m=>
 oP E (xV (Instr.buildSlice 63 1 #[(0,(Value.string ⟨#[10]⟩))])) m fun n o=>
 oP E (xCall (fC 23) [x0,n]) o fun _t16_17 p=>
 R (Value.tuple #[]) p
def h21:Hint:=(sQ (sQ hN))
theorem b8u{x0 x1:Value}(h:F21 x0 x1 w R E):Cv pG 21 #[x0,x1] w R E:=okF (h:=h21) Tryz.func21 (by kernel_rfl) (by kernel_rfl) h
def F22(x0 x1 w)(R:RT)(E):=
 opK pG E (lA 38 x0) w fun a b=>
 oP E (lA 63 x1) b fun c d=>
 oP E (xCall (fC 23) [a,c]) d fun _t4_5 e=>
 R (Value.tuple #[]) e
def h22:Hint:=hN
theorem b8v{x0 x1:Value}(h:F22 x0 x1 w R E):Cv pG 22 #[x0,x1] w R E:=okF (h:=h22) Tryz.func22 (by kernel_rfl) (by kernel_rfl) h
def b4w(x0 x6 x7 x8 w)(next1:NT)(R:RT)(E):=
 opK pG E (bN .lss 3 8 7 x8 x7) w fun c a=>
 xcond c
 (oP E (iA 63 x6 x8) a fun d e=>
 oP E (lA 9 d) e fun f g=>
 oP E (xCall (fC 12) [x0]) g fun i b=>
 xcond i
 (R (Value.tuple #[]) b)
 (oP E (xNil x0) b fun j k=>
 oP E (fA 44 j 0) k fun l m=>
 oP E (xCall (fC 47) [l,f]) m fun _t18_15 n=>
 oP E (bC .add 3 8 x8 (vI 1)) n fun o p=>
 next1 [o] p))
 (R (Value.tuple #[]) a)
def F23(x0 x1 w)(R:RT)(E):=
 opK pG E (xBuiltin .len #[63] 3 [false] [x1]) w fun a b=>
 xloop [8] [(vI 0)] b fun c d next1=>
 b4w x0 x1 a (c 8) d next1 R E
def h23:Hint:=(sQ (hB (hL [8] (sQ (hS (hC hN hN) (hS (hB (sQ (hS (sQ (hC hN hN)) hN))) hN))))))
theorem b8w{x0 x1:Value}(h:F23 x0 x1 w R E):Cv pG 23 #[x0,x1] w R E:=okF (h:=h23) Tryz.func23 (by kernel_rfl) (by kernel_rfl) h
def F25(x0 x1 w)(R:RT)(E):=
 opK pG E (lA 38 x0) w fun e f=>
 oP E (fA 51 x1 1) f fun g i=>
 oP E (lA 9 g) i fun j k=>
 oP E (xV (Instr.buildSlice 63 2 #[(0,j),(1,(Value.string ⟨#[32,61,32]⟩))])) k fun l m=>
 oP E (xCall (fC 23) [e,l]) m fun _t6_9 n=>
 dX n fun a=>
 qP pG (fA 51 x1 2) fun b=>
 qL pG a (blk x0) (lA 38 x0) fun o=>
 qL pG a (blk b) (lA 34 b) fun p=>
 qP pG (iA 34 p (vI 0)) fun c=>
 qL pG a (blk c) (lA 36 c) fun q=>
 oP E (xCall (fC 19) [o,q]) a fun _t12_17 d=>
 keepX [] a d (opK pG E (lA 38 x0) d fun r s=>
 oP E (xV (Instr.buildSlice 63 1 #[(0,(Value.string ⟨#[59]⟩))])) s fun t u=>
 oP E (xCall (fC 23) [r,t]) u fun _t15_23 v=>
 R (Value.tuple #[]) v)
def h25:Hint:=(sQ (hS (.reg [(0,128,1),(0,256,2),(2,512,256),(4,1024,512),(8,2048,1024),(17,4096,2176)] [20,21,17,21,5,0] (.early 1 (.load 0 (.load 2 (.early 3 (.load 4 (.step 5 .done))))))) hN))
theorem b8x{x0 x1:Value}(h:F25 x0 x1 w R E):Cv pG 25 #[x0,x1] w R E:=okF (h:=h25) Tryz.func25 (by kernel_rfl) (by kernel_rfl) h
def F26(x0 x1 w)(R:RT)(E):=
 opK pG E (lA 38 x0) w fun j k=>
 oP E (fA 51 x1 1) k fun l m=>
 oP E (lA 9 l) m fun n o=>
 oP E (xV (Instr.buildSlice 63 2 #[(0,n),(1,(Value.string ⟨#[91]⟩))])) o fun p q=>
 oP E (xCall (fC 23) [j,p]) q fun _t6_9 r=>
 dX r fun a=>
 qP pG (fA 51 x1 2) fun c=>
 qL pG a (blk x0) (lA 38 x0) fun s=>
 qL pG a (blk c) (lA 34 c) fun t=>
 qP pG (iA 34 t (vI 0)) fun d=>
 qL pG a (blk d) (lA 36 d) fun u=>
 oP E (xCall (fC 19) [s,u]) a fun _t12_17 e=>
 keepX [] a e (opK pG E (lA 38 x0) e fun v y=>
 oP E (xV (Instr.buildSlice 63 1 #[(0,(Value.string ⟨#[93,32,61,32]⟩))])) y fun z aa=>
 oP E (xCall (fC 23) [v,z]) aa fun _t15_23 ab=>
 dX ab fun b=>
 qP pG (fA 51 x1 2) fun f=>
 qL pG b (blk x0) (lA 38 x0) fun ac=>
 qL pG b (blk f) (lA 34 f) fun ad=>
 qP pG (iA 34 ad (vI 1)) fun g=>
 qL pG b (blk g) (lA 36 g) fun ae=>
 oP E (xCall (fC 19) [ac,ae]) b fun _t21_31 i=>
 keepX [] b i (opK pG E (lA 38 x0) i fun af ag=>
 oP E (xV (Instr.buildSlice 63 1 #[(0,(Value.string ⟨#[59]⟩))])) ag fun ah ai=>
 oP E (xCall (fC 23) [af,ah]) ai fun _t24_37 aj=>
 R (Value.tuple #[]) aj))
def h26:Hint:=(sQ (hS (.reg [(0,128,1),(0,256,2),(2,512,256),(4,1024,512),(8,2048,1024),(17,4096,2176)] [20,21,17,21,5,0] (.early 1 (.load 0 (.load 2 (.early 3 (.load 4 (.step 5 .done))))))) (sQ (hS (.reg [(0,65536,1),(0,131072,2),(2,262144,131072),(4,524288,262144),(8,1048576,524288),(17,2097152,1114112)] [20,21,17,21,5,0] (.early 1 (.load 0 (.load 2 (.early 3 (.load 4 (.step 5 .done))))))) hN))))
theorem b8y{x0 x1:Value}(h:F26 x0 x1 w R E):Cv pG 26 #[x0,x1] w R E:=okF (h:=h26) Tryz.func26 (by kernel_rfl) (by kernel_rfl) h
def F27(x0 x1 x2 x3 w)(R:RT)(E):=
 opK pG E (xV (Instr.box 38 x0)) w fun a b=>
 oP E (xV (Instr.box 9 x1)) b fun c d=>
 oP E (xV (Instr.box 71 x2)) d fun e f=>
 oP E (xV (Instr.box 9 x3)) f fun g i=>
 oP E (lA 38 a) i fun j k=>
 oP E (xV (Instr.makeFunc (.func 49) #[] #[a,c,e,g])) k fun l m=>
 oP E (xCall (fC 21) [j,l]) m fun _t10_13 n=>
 R (Value.tuple #[]) n
def h27:Hint:=(sQ hN)
theorem b8z{x0 x1 x2 x3:Value}(h:F27 x0 x1 x2 x3 w R E):Cv pG 27 #[x0,x1,x2,x3] w R E:=okF (h:=h27) Tryz.func27 (by kernel_rfl) (by kernel_rfl) h
def b1a(x0 w)(R:RT)(E):=
 ∀_τ:Fr,(oP E (xNil x0) w fun a b=>
 oP E (fA 44 a 1) b fun c d=>
 oP E (lA 3 c) d fun e f=>
 oP E (bC .sub 3 26 e (vI 1)) f fun g i=>
 oP E (xNil x0) i fun j k=>
 oP E (fA 44 j 1) k fun l m=>
 oP E (sA 3 l g) m fun _ n=>
 R (Value.tuple #[]) n)
def b4x(x0 x13 x14 x15 w)(next2:NT)(j1:NT)(_R:RT)(E):=
 opK pG E (bN .lss 3 15 14 x15 x14) w fun c a=>
 xcond c
 (oP E (iA 23 x13 x15) a fun d e=>
 oP E (lA 51 d) e fun f g=>
 oP E (xV (Instr.alloc 51 true (.tuple #[]))) g fun b i=>
 oP E (sA 51 b f) i fun _ j=>
 oP E (lA 51 b) j fun k l=>
 oP E (xCall (fC 11) [x0,k]) l fun _t21_45 m=>
 oP E (bC .add 3 15 x15 (vI 1)) m fun n o=>
 next2 [n] o)
 (j1 [] a)
def F28(x0 x1 w)(R:RT)(E):=
 opK pG E (xNil x0) w fun a b=>
 oP E (fA 44 a 1) b fun c d=>
 oP E (lA 3 c) d fun e f=>
 oP E (bC .add 3 9 e (vI 1)) f fun g i=>
 oP E (xNil x0) i fun j k=>
 oP E (fA 44 j 1) k fun l m=>
 oP E (sA 3 l g) m fun _ n=>
 xcut (fun _ o=>b1a x0 o R E) fun j1=>
 oP E (xBuiltin .len #[23] 3 [false] [x1]) n fun p q=>
 xloop [15] [(vI 0)] q fun r s next2=>
 b4x x0 x1 p (r 15) s next2 j1 R E
def h28:Hint:=(sQ (hU [] (sQ (hB (hL [15] (sQ (hS (hC hN hN) (hS (hB (sQ hN)) hN)))))) hN))
theorem b8A{x0 x1:Value}(h:F28 x0 x1 w R E):Cv pG 28 #[x0,x1] w R E:=okF (h:=h28) Tryz.func28 (by kernel_rfl) (by kernel_rfl) h
def F29(x0 w)(R:RT)(E):=
 opK pG E (xNil x0) w fun a b=>
 oP E (fA 42 a 1) b fun c d=>
 oP E (lA 40 c) d fun e f=>
 oP E (xBuiltin .len #[40] 3 [false] [e]) f fun g i=>
 R g i
def h29:Hint:=(sQ (sQ hN))
theorem b8B{x0:Value}(h:F29 x0 w R E):Cv pG 29 #[x0] w R E:=okF (h:=h29) Tryz.func29 (by kernel_rfl) (by kernel_rfl) h
def b1b(x2 x3 w)(R:RT)(E):=
 ∀_τ:Fr,(oP E (lA 76 x3) w fun b c=>
 oP E (sA 76 x2 b) c fun _ a=>
 xcell pG 76 x2 a fun d=>
 R d a)
def b4y(x1 _x2 x3 x5:Value)(w)(next3:NT)(j2:NT)(_R:RT)(E):=
 opK pG E (fA 25 x1 1) w fun c d=>
 oP E (lA 23 c) d fun e f=>
 oP E (xBuiltin .len #[23] 3 [false] [e]) f fun g i=>
 oP E (bN .lss 3 20 23 x5 g) i fun a j=>
 oP E (gYs a (fA 76 x3 2)) j fun k l=>
 oP E (gYs a (lA 3 k)) l fun m n=>
 oP E (gYs a (bC .eql 3 27 m (vI 0))) n fun o p=>
 oP E (xPick a o (vB false)) p fun q b=>
 xcond q
 (oP E (fA 25 x1 1) b fun r s=>
 oP E (lA 23 r) s fun t u=>
 oP E (iA 23 t x5) u fun v y=>
 oP E (lA 51 v) y fun z aa=>
 oP E (xCall (fC 52) [x3,z,(vI 1)]) aa fun _t37_42 ab=>
 oP E (bC .add 3 30 x5 (vI 1)) ab fun ac ad=>
 next3 [ac] ad)
 (j2 [] b)
def b1c(x1 x2 x3 w)(R:RT)(E):=
 ∀_τ:Fr,(xcut (fun _ a=>b1b x2 x3 a R E) fun j2=>
 xloop [5] [(vI 0)] w fun b c next3=>
 b4y x1 x2 x3 (b 5) c next3 j2 R E)
def b4z(x1 _x2 x3 x4:Value)(w)(next4:NT)(j1:NT)(_R:RT)(E):=
 opK pG E (fA 25 x1 0) w fun c d=>
 oP E (lA 22 c) d fun e f=>
 oP E (xBuiltin .len #[22] 3 [false] [e]) f fun g i=>
 oP E (bN .lss 3 7 10 x4 g) i fun a j=>
 oP E (gYs a (fA 76 x3 2)) j fun k l=>
 oP E (gYs a (lA 3 k)) l fun m n=>
 oP E (gYs a (bC .eql 3 14 m (vI 0))) n fun o p=>
 oP E (xPick a o (vB false)) p fun q b=>
 xcond q
 (oP E (xCall (fC 51) [x3,(vI 1)]) b fun _t19_66 r=>
 oP E (bC .add 3 17 x4 (vI 1)) r fun s t=>
 next4 [s] t)
 (j1 [] b)
def F30(x0 w)(R:RT)(E):=
 opK pG E (xV (Instr.box 25 x0)) w fun b d=>
 oP E (xV (Instr.alloc 76 true (.tuple #[]))) d fun c e=>
 oP E (xV (Instr.build 76 #[])) e fun f g=>
 oP E (xV (Instr.alloc 76 true (.tuple #[]))) g fun a i=>
 oP E (sA 76 a f) i fun _ j=>
 xcut (fun _ k=>b1c b c a k R E) fun j1=>
 xloop [4] [(vI 0)] j fun l m next4=>
 b4z b c a (l 4) m next4 j1 R E
def h30:Hint:=(sQ (sQ (hU [] (sQ (hB (hL [4] (hS (sQ (hC hN hN)) (hS (hB hN) hN))))) (hU [] (sQ (hB (hL [5] (hS (sQ (hC hN hN)) (hS (hB hN) hN))))) (sQ hN)))))
theorem b8C{x0:Value}(h:F30 x0 w R E):Cv pG 30 #[x0] w R E:=okF (h:=h30) Tryz.func30 (by kernel_rfl) (by kernel_rfl) h
def F31(x0 x1 x2 w)(R:RT)(E):=
 opK pG E (xV (Op.unary .not x2)) w fun d c=>
 xcond d
 (oP E (xNil x0) c fun e f=>
 oP E (fA 79 e 0) f fun g i=>
 oP E (lA 4 g) i fun a j=>
 oP E (gYs a (bC .eql 9 14 (zT a x1) (eS))) j fun k l=>
 oP E (xPick a k (vB false)) l fun m n=>
 oP E (xNil x0) n fun o p=>
 oP E (fA 79 o 0) p fun q r=>
 oP E (sA 4 q m) r fun _ s=>
 R (Value.tuple #[]) s)
 (oP E (xNil x0) c fun t u=>
 oP E (fA 79 t 1) u fun v y=>
 oP E (lA 4 v) y fun b z=>
 oP E (gYs b (xCall (fC 53) [(zT b x1)])) z fun aa ab=>
 oP E (xPick b aa (vB false)) ab fun ac ad=>
 oP E (xNil x0) ad fun ae af=>
 oP E (fA 79 ae 1) af fun ag ah=>
 oP E (sA 4 ag ac) ah fun _ ai=>
 R (Value.tuple #[]) ai)
def h31:Hint:=(hS (sQ (hC (sQ hN) hN)) hN)
theorem b8D{x0 x1 x2:Value}(h:F31 x0 x1 x2 w R E):Cv pG 31 #[x0,x1,x2] w R E:=okF (h:=h31) Tryz.func31 (by kernel_rfl) (by kernel_rfl) h
def b4A(x0 x3 x9 w)(next5:NT)(R:RT)(E):=
 opK pG E (fA 51 x3 5) w fun c d=>
 oP E (lA 23 c) d fun e f=>
 oP E (xBuiltin .len #[23] 3 [false] [e]) f fun g i=>
 oP E (bN .lss 3 146 149 x9 g) i fun a j=>
 oP E (gYs a (xNil (zT a x0))) j fun k l=>
 oP E (gYs a (fA 79 k 0)) l fun m n=>
 oP E (gYs a (lA 4 m)) n fun o p=>
 oP E (xPick a o (vB false)) p fun q b=>
 xcond q
 (oP E (fA 51 x3 5) b fun r s=>
 oP E (lA 23 r) s fun t u=>
 oP E (iA 23 t x9) u fun v y=>
 oP E (lA 51 v) y fun z aa=>
 oP E (xCall (fC 32) [x0,z]) aa fun _t165_123 ab=>
 oP E (bC .add 3 157 x9 (vI 1)) ab fun ac ad=>
 next5 [ac] ad)
 (R (Value.tuple #[]) b)
def b1d(x0 x3 w)(R:RT)(E):=
 ∀_τ:Fr,(xloop [9] [(vI 0)] w fun a b next5=>
 b4A x0 x3 (a 9) b next5 R E)
def b4B(x0 x3 x8 w)(next6:NT)(j4:NT)(_R:RT)(E):=
 opK pG E (fA 51 x3 4) w fun c d=>
 oP E (lA 23 c) d fun e f=>
 oP E (xBuiltin .len #[23] 3 [false] [e]) f fun g i=>
 oP E (bN .lss 3 126 129 x8 g) i fun a j=>
 oP E (gYs a (xNil (zT a x0))) j fun k l=>
 oP E (gYs a (fA 79 k 0)) l fun m n=>
 oP E (gYs a (lA 4 m)) n fun o p=>
 oP E (xPick a o (vB false)) p fun q b=>
 xcond q
 (oP E (fA 51 x3 4) b fun r s=>
 oP E (lA 23 r) s fun t u=>
 oP E (iA 23 t x8) u fun v y=>
 oP E (lA 51 v) y fun z aa=>
 oP E (xCall (fC 32) [x0,z]) aa fun _t145_155 ab=>
 oP E (bC .add 3 137 x8 (vI 1)) ab fun ac ad=>
 next6 [ac] ad)
 (j4 [] b)
def b1e(x0 x3 w)(R:RT)(E):=
 ∀_τ:Fr,(xcut (fun _ a=>b1d x0 x3 a R E) fun j4=>
 xloop [8] [(vI 0)] w fun b c next6=>
 b4B x0 x3 (b 8) c next6 j4 R E)
def b4C(x0 x3 x7 w)(next7:NT)(j3:NT)(_R:RT)(E):=
 opK pG E (fA 51 x3 2) w fun c d=>
 oP E (lA 34 c) d fun e f=>
 oP E (xBuiltin .len #[34] 3 [false] [e]) f fun g i=>
 oP E (bN .lss 3 106 109 x7 g) i fun a j=>
 oP E (gYs a (xNil (zT a x0))) j fun k l=>
 oP E (gYs a (fA 79 k 0)) l fun m n=>
 oP E (gYs a (lA 4 m)) n fun o p=>
 oP E (xPick a o (vB false)) p fun q b=>
 xcond q
 (oP E (fA 51 x3 2) b fun r s=>
 oP E (lA 34 r) s fun t u=>
 oP E (iA 34 t x7) u fun v y=>
 oP E (lA 36 v) y fun z aa=>
 oP E (xCall (fC 55) [x0,z]) aa fun _t125_187 ab=>
 oP E (bC .add 3 117 x7 (vI 1)) ab fun ac ad=>
 next7 [ac] ad)
 (j3 [] b)
def b1f(x0 x3 w)(R:RT)(E):=
 ∀_τ:Fr,(xcut (fun _ a=>b1e x0 x3 a R E) fun j3=>
 xloop [7] [(vI 0)] w fun b c next7=>
 b4C x0 x3 (b 7) c next7 j3 R E)
def b4D(x0 x3 x6 w)(next8:NT)(j2:NT)(_R:RT)(E):=
 opK pG E (fA 51 x3 3) w fun c d=>
 oP E (lA 49 c) d fun e f=>
 oP E (xBuiltin .len #[49] 3 [false] [e]) f fun g i=>
 oP E (bN .lss 3 86 89 x6 g) i fun a j=>
 oP E (gYs a (xNil (zT a x0))) j fun k l=>
 oP E (gYs a (fA 79 k 0)) l fun m n=>
 oP E (gYs a (lA 4 m)) n fun o p=>
 oP E (xPick a o (vB false)) p fun q b=>
 xcond q
 (oP E (fA 51 x3 3) b fun r s=>
 oP E (lA 49 r) s fun t u=>
 oP E (iA 49 t x6) u fun v y=>
 oP E (lA 71 v) y fun z aa=>
 oP E (xCall (fC 54) [x0,z]) aa fun _t105_219 ab=>
 oP E (bC .add 3 97 x6 (vI 1)) ab fun ac ad=>
 next8 [ac] ad)
 (j2 [] b)
def b1g(x0 x3 x4 x5 w)(R:RT)(E):=
 ∀_τ:Fr,(oP E (fA 51 x3 1) w fun j k=>
 oP E (lA 9 j) k fun l m=>
 oP E (fA 51 x3 0) m fun n o=>
 oP E (lA 3 n) o fun p q=>
 oP E (bC .eql 3 30 p (vI 1)) q fun e r=>
 oP E (gNo e (fA 51 x3 0)) r fun s t=>
 oP E (gNo e (lA 3 s)) t fun u v=>
 oP E (gNo e (bC .eql 3 34 u (vI 2))) v fun y z=>
 oP E (xPick e (vB true) y) z fun aa ab=>
 oP E (xCall (fC 31) [x0,l,aa]) ab fun _t37_21 ac=>
 oP E (xNil x0) ac fun ad ae=>
 oP E (fA 79 ad 0) ae fun af ag=>
 oP E (lA 4 af) ag fun c ah=>
 oP E (gYs c (fA 51 x3 2)) ah fun ai aj=>
 oP E (gYs c (lA 34 ai)) aj fun ak al=>
 oP E (gYs c (xBuiltin .len #[34] 3 [false] [ak])) al fun am an=>
 oP E (gYs c (bN .eql 3 46 47 am (zT c x4))) an fun ao ap=>
 oP E (xPick c ao (vB false)) ap fun d aq=>
 oP E (gYs d (fA 51 x3 3)) aq fun ar au=>
 oP E (gYs d (lA 49 ar)) au fun av aw=>
 oP E (gYs d (xBuiltin .len #[49] 3 [false] [av])) aw fun ax ay=>
 oP E (gYs d (bN .eql 3 53 54 ax (zT d x5))) ay fun az ba=>
 oP E (xPick d az (vB false)) ba fun a bb=>
 oP E (gYs a (fA 51 x3 4)) bb fun bc bd=>
 oP E (gYs a (lA 23 bc)) bd fun be bf=>
 oP E (gYs a (xBuiltin .len #[23] 3 [false] [be])) bf fun bg bh=>
 oP E (gYs a (bC .eql 3 60 bg (vI 0))) bh fun f bi=>
 oP E (gsem (asB (zT a f)) false (fA 51 x3 0)) bi fun bj bk=>
 oP E (gsem (asB (zT a f)) false (lA 3 bj)) bk fun bl bm=>
 oP E (gsem (asB (zT a f)) false (bC .eql 3 64 bl (vI 3))) bm fun bn bo=>
 oP E (gYs a (xPick (zT a f) (vB true) bn)) bo fun g bp=>
 oP E (gsem (asB (zT a g)) false (fA 51 x3 0)) bp fun bq br=>
 oP E (gsem (asB (zT a g)) false (lA 3 bq)) br fun bs bt=>
 oP E (gsem (asB (zT a g)) false (bC .eql 3 69 bs (vI 4))) bt fun bu bv=>
 oP E (gYs a (xPick (zT a g) (vB true) bu)) bv fun bw bz=>
 oP E (xPick a bw (vB false)) bz fun b ca=>
 oP E (gYs b (fA 51 x3 5)) ca fun cb cc=>
 oP E (gYs b (lA 23 cb)) cc fun cd ce=>
 oP E (gYs b (xBuiltin .len #[23] 3 [false] [cd])) ce fun cf cg=>
 oP E (gYs b (bC .eql 3 76 cf (vI 0))) cg fun i ch=>
 oP E (gsem (asB (zT b i)) false (fA 51 x3 0)) ch fun ci cj=>
 oP E (gsem (asB (zT b i)) false (lA 3 ci)) cj fun ck cl=>
 oP E (gsem (asB (zT b i)) false (bC .eql 3 80 ck (vI 3))) cl fun cm cn=>
 oP E (gYs b (xPick (zT b i) (vB true) cm)) cn fun co cp=>
 oP E (xPick b co (vB false)) cp fun cq cr=>
 oP E (xNil x0) cr fun cs ct=>
 oP E (fA 79 cs 0) ct fun cu cv=>
 oP E (sA 4 cu cq) cv fun _ cw=>
 xcut (fun _ cx=>b1f x0 x3 cx R E) fun j2=>
 xloop [6] [(vI 0)] cw fun cy cz next8=>
 b4D x0 x3 (cy 6) cz next8 j2 R E)
def b1h(x0 _x3 x4 x5 x11 x19:Value)(w)(j1:NT)(_R:RT)(E):=
 ∀_τ:Fr,(xcond x19
 (j1 [x4,(vI 1)] w)
 (oP E (bC .eql 3 11 x11 (vI 7)) w fun b a=>
 xcond b
 (j1 [x4,x5] a)
 (oP E (xNil x0) a fun c d=>
 oP E (fA 79 c 0) d fun e f=>
 oP E (sA 4 e (vB false)) f fun _ g=>
 j1 [x4,x5] g)))
def F32(x0 x1 w)(R:RT)(E):=
 opK pG E (xV (Instr.box 51 x1)) w fun b m=>
 xcut (fun c n=>b1g x0 b (nth c 0) (nth c.tail 0) n R E) fun j1=>
 oP E (fA 51 b 0) m fun o p=>
 oP E (lA 3 o) p fun a q=>
 oP E (bC .eql 3 11 a (vI 1)) q fun r d=>
 xcond r
 (j1 [(vI 1),(vI 0)] d)
 (oP E (bC .eql 3 11 a (vI 2)) d fun s e=>
 xcond s
 (j1 [(vI 2),(vI 0)] e)
 (xcut (fun t u=>b1h x0 b (vI 0) (vI 0) a (nth t 0) u j1 R E) fun j9=>
 oP E (bC .eql 3 11 a (vI 3)) e fun f g=>
 xcond f
 (j9 [f] g)
 (oP E (bC .eql 3 11 a (vI 4)) g fun i j=>
 xcond i
 (j9 [i] j)
 (oP E (bC .eql 3 11 a (vI 5)) j fun k l=>
 xcond k
 (j9 [k] l)
 (oP E (bC .eql 3 11 a (vI 6)) l fun v y=>
 j9 [v] y)))))
def h32:Hint:=(sQ (sQ (hU [4,5] (sQ (hB (sQ (hC hN (sQ (hC hN (hU [19] (sQ (hC hN (sQ (hC hN (sQ (hC hN hN)))))) (hC hN (sQ (hC hN hN)))))))))) (sQ (sQ (hU [] (sQ (hB (hL [6] (hS (sQ (hC hN hN)) (hS (hB hN) hN))))) (hU [] (sQ (hB (hL [7] (hS (sQ (hC hN hN)) (hS (hB hN) hN))))) (hU [] (sQ (hB (hL [8] (hS (sQ (hC hN hN)) (hS (hB hN) hN))))) (sQ (hB (hL [9] (hS (sQ (hC hN hN)) (hS (hB hN) hN)))))))))))))
theorem b8E{x0 x1:Value}(h:F32 x0 x1 w R E):Cv pG 32 #[x0,x1] w R E:=okF (h:=h32) Tryz.func32 (by kernel_rfl) (by kernel_rfl) h
def F33(x0 w)(R:RT)(E):=
 opK pG E (xV (Instr.box 79 x0)) w fun a d=>
 oP E (fA 79 a 0) d fun e f=>
 oP E (lA 4 e) f fun g i=>
 oP E (xV (Op.unary .not g)) i fun j b=>
 xcond j
 (R (vI 30) b)
 (oP E (fA 79 a 1) b fun k l=>
 oP E (lA 4 k) l fun m n=>
 oP E (xV (Op.unary .not m)) n fun o c=>
 xcond o
 (R (vI 31) c)
 (R (vI 0) c))
def h33:Hint:=(sQ (hS (sQ (hC (sQ hN) hN)) (hS (sQ (hC (sQ hN) hN)) (sQ hN))))
theorem b8F{x0:Value}(h:F33 x0 w R E):Cv pG 33 #[x0] w R E:=okF (h:=h33) Tryz.func33 (by kernel_rfl) (by kernel_rfl) h
def F34(x0 w)(R:RT)(E):=
 opK pG E (xV (Instr.box 36 x0)) w fun a aq=>
 oP E (fA 36 a 0) aq fun ar au=>
 oP E (lA 3 ar) au fun e av=>
 oP E (bC .eql 3 7 e (vI 1)) av fun aw y=>
 xcond aw
 (oP E (fA 36 a 1) y fun ax ay=>
 oP E (lA 2 ax) ay fun az ba=>
 oP E (xCall (fC 16) [az]) ba fun bb bc=>
 R bb bc)
 (oP E (bC .eql 3 7 e (vI 2)) y fun bd z=>
 xcond bd
 (oP E (fA 36 a 2) z fun be bf=>
 oP E (lA 9 be) bf fun bg bh=>
 R bg bh)
 (oP E (bC .eql 3 7 e (vI 3)) z fun bi aa=>
 xcond bi
 (R (Value.string ⟨#[105,110,112,117,116]⟩) aa)
 (oP E (bC .eql 3 7 e (vI 4)) aa fun bj ab=>
 xcond bj
 (dX ab fun f=>
 qP pG (fA 36 a 2) fun g=>
 qP pG (fA 36 a 3) fun ac=>
 qL pG f (blk g) (lA 9 g) fun bk=>
 qP pG (bC .add 9 22 bk (Value.string ⟨#[91]⟩)) fun bl=>
 qL pG f (blk ac) (lA 34 ac) fun bm=>
 qP pG (iA 34 bm (vI 0)) fun ad=>
 qL pG f (blk ad) (lA 36 ad) fun bn=>
 oP E (xCall (fC 34) [bn]) f fun bo ae=>
 keepX [(blk g)] f ae (qP pG (bN .add 9 23 28 bl bo) fun bp=>
 qP pG (bC .add 9 29 bp (Value.string ⟨#[93]⟩)) fun bq=>
 R bq ae))
 (oP E (bC .eql 3 7 e (vI 5)) ab fun br af=>
 xcond br
 (dX af fun d=>
 qP pG (fA 36 a 3) fun ag=>
 qP pG (fA 36 a 3) fun i=>
 qL pG d (blk ag) (lA 34 ag) fun bs=>
 qP pG (iA 34 bs (vI 0)) fun ah=>
 qL pG d (blk ah) (lA 36 ah) fun bt=>
 qL pG d (blk i) (lA 34 i) fun bu=>
 qP pG (iA 34 bu (vI 0)) fun j=>
 qL pG d (blk j) (lA 36 j) fun bv=>
 oP E (xCall (fC 34) [bt]) d fun bw k=>
 keepX [(blk j),(blk i)] d k (opK pG E (xCall (fC 57) [bv]) k fun bz l=>
 keepX [] k l (qP pG (bC .lss 3 42 bz (vI 3)) fun ca=>
 oP E (xCall (fC 56) [bw,ca,(Value.string ⟨#[40]⟩),(Value.string ⟨#[41]⟩)]) l fun cb ai=>
 keepX [] l ai (qP pG (xBin .add 9 (.const (Value.string ⟨#[45]⟩)) (.tmp 44) (Value.string ⟨#[45]⟩) cb) fun cc=>
 R cc ai))))
 (oP E (xV (Instr.build 109 #[(0,(Value.string ⟨#[32,43,32]⟩)),(1,(Value.string ⟨#[32,45,32]⟩)),(2,(Value.string ⟨#[32,42,32]⟩)),(3,(Value.string ⟨#[32,47,32]⟩)),(4,(Value.string ⟨#[32,37,32]⟩))])) af fun cd ce=>
 oP E (xV (Instr.alloc 109 true (.tuple #[]))) ce fun aj cf=>
 oP E (sA 109 aj cd) cf fun _ cg=>
 dX cg fun b=>
 qP pG (fA 36 a 3) fun ak=>
 qP pG (fA 36 a 3) fun m=>
 qL pG b (blk ak) (lA 34 ak) fun ch=>
 qP pG (iA 34 ch (vI 0)) fun al=>
 qL pG b (blk al) (lA 36 al) fun ci=>
 qL pG b (blk m) (lA 34 m) fun cj=>
 qP pG (iA 34 cj (vI 0)) fun n=>
 qL pG b (blk n) (lA 36 n) fun ck=>
 qL pG b (blk a) (lA 36 a) fun cl=>
 oP E (xCall (fC 34) [ci]) b fun cm o=>
 keepX [(blk a),(blk n),(blk m)] b o (opK pG E (xCall (fC 57) [ck]) o fun cn p=>
 keepX [(blk a)] o p (opK pG E (xCall (fC 57) [cl]) p fun co q=>
 keepX [] p q (qP pG (bN .lss 3 56 58 cn co) fun cp=>
 oP E (xCall (fC 56) [cm,cp,(Value.string ⟨#[40]⟩),(Value.string ⟨#[41]⟩)]) q fun cq am=>
 keepX [] q am (dX am fun c=>
 qP pG (fA 36 a 3) fun an=>
 qP pG (fA 36 a 3) fun r=>
 qL pG c (blk an) (lA 34 an) fun cr=>
 qP pG (iA 34 cr (vI 1)) fun ao=>
 qL pG c (blk ao) (lA 36 ao) fun cs=>
 qL pG c (blk r) (lA 34 r) fun ct=>
 qP pG (iA 34 ct (vI 1)) fun s=>
 qL pG c (blk s) (lA 36 s) fun cu=>
 qL pG c (blk a) (lA 36 a) fun cv=>
 oP E (xCall (fC 34) [cs]) c fun cw t=>
 keepX [(blk a),(blk s),(blk r)] c t (opK pG E (xCall (fC 57) [cu]) t fun cx u=>
 keepX [(blk a)] t u (opK pG E (xCall (fC 57) [cv]) u fun cy v=>
 keepX [] u v (qP pG (bN .leq 3 70 72 cx cy) fun cz=>
 oP E (xCall (fC 56) [cw,cz,(Value.string ⟨#[40]⟩),(Value.string ⟨#[41]⟩)]) v fun da ap=>
 keepX [] v ap (opK pG E (fA 36 a 0) ap fun db dc=>
 oP E (lA 3 db) dc fun dd de=>
 oP E (bC .sub 3 77 dd (vI 6)) de fun df dg=>
 oP E (iA 109 aj df) dg fun dh di=>
 oP E (lA 9 dh) di fun dj dk=>
 oP E (bN .add 9 75 80 cq dj) dk fun dl dm=>
 oP E (bN .add 9 81 82 dl da) dm fun dn dp=>
 R dn dp)))))))))))))
def h34:Hint:=(sQ (hS (sQ (hB (sQ (hC (sQ hN) (sQ (hC (sQ hN) (sQ (hC (sQ hN) (sQ (hC (hS (.reg [(0,2097152,2),(1,4194304,2097152),(2,8388608,4194304),(0,16777216,2),(8,33554432,16777216),(16,67108864,33554432),(32,134217728,67108864),(64,268435456,134217728),(132,536870912,276824064),(256,1073741824,536870912),(1023,4,1073741824)] [82,80,82,82,66,82,18,2,82,82,82] (.early 0 (.early 3 (.load 1 (.early 2 (.load 4 (.early 5 (.load 6 (.step 7 (.early 8 (.early 9 (.early 10 .done)))))))))))) hN) (sQ (hC (hS (.reg [(0,8589934592,2),(1,17179869184,8589934592),(2,34359738368,17179869184),(4,68719476736,34359738368),(8,137438953472,68719476736),(0,274877906944,2),(32,549755813888,274877906944),(64,1099511627776,549755813888),(128,2199023255552,1099511627776),(272,4398046511104,2199023255552),(512,8796093022208,4398046511104),(1552,17592186044416,8933531975680),(2048,35184372088832,17592186044416),(8191,4,35184372088832)] [330,328,330,322,320,330,266,330,74,0,330,0,330,330] (.early 0 (.early 5 (.load 1 (.early 2 (.load 3 (.load 6 (.early 7 (.load 8 (.step 4 (.step 9 (.early 10 (.step 11 (.early 12 (.early 13 .done))))))))))))))) hN) hN)))))))))))) (sQ (hS (.reg [(0,140737488355328,2),(1,281474976710656,140737488355328),(2,562949953421312,281474976710656),(4,1125899906842624,562949953421312),(8,2251799813685248,1125899906842624),(0,4503599627370496,2),(32,9007199254740992,4503599627370496),(64,18014398509481984,9007199254740992),(128,36028797018963968,18014398509481984),(272,72057594037927936,36028797018963968),(0,144115188075855872,2),(1536,288230376151711744,144115188075855872),(2560,576460752303423488,360287970189639680),(6160,1152921504606846976,578712552117108736),(16383,16,1152921504606846976)] [1354,1352,1354,1346,1344,1354,1290,1354,1098,1024,330,0,1354,0,1354] (.early 0 (.early 5 (.load 1 (.early 2 (.load 3 (.load 6 (.early 7 (.load 8 (.load 10 (.step 4 (.step 9 (.step 11 (.early 12 (.step 13 (.early 14 .done)))))))))))))))) (hS (.reg [(0,2305843009213693952,2),(1,4611686018427387904,2305843009213693952),(2,9223372036854775808,4611686018427387904),(4,18446744073709551616,9223372036854775808),(8,36893488147419103232,18446744073709551616),(0,73786976294838206464,2),(32,147573952589676412928,73786976294838206464),(64,295147905179352825856,147573952589676412928),(128,590295810358705651712,295147905179352825856),(272,1180591620717411303424,590295810358705651712),(0,2361183241434822606848,2),(1536,4722366482869645213696,2361183241434822606848),(2560,9444732965739290427392,5902958103587056517120),(6160,18889465931478580854784,9481626453886709530624),(16383,32,18889465931478580854784)] [1354,1352,1354,1346,1344,1354,1290,1354,1098,1024,330,0,1354,0,1354] (.early 0 (.early 5 (.load 1 (.early 2 (.load 3 (.load 6 (.early 7 (.load 8 (.load 10 (.step 4 (.step 9 (.step 11 (.early 12 (.step 13 (.early 14 .done)))))))))))))))) (sQ hN))))))
theorem b8G{x0:Value}(h:F34 x0 w R E):Cv pG 34 #[x0] w R E:=okF (h:=h34) Tryz.func34 (by kernel_rfl) (by kernel_rfl) h
def b1i(x1 x3 w)(R:RT)(E):=
 ∀_τ:Fr,(dX w fun a=>
 qP pG (fA 71 x1 3) fun n=>
 qP pG (fA 71 x1 3) fun c=>
 qL pG a (blk n) (lA 49 n) fun t=>
 qP pG (iA 49 t (vI 0)) fun o=>
 qL pG a (blk o) (lA 71 o) fun u=>
 qL pG a (blk c) (lA 49 c) fun v=>
 qP pG (iA 49 v (vI 0)) fun d=>
 qL pG a (blk d) (lA 71 d) fun y=>
 qL pG a (blk x1) (lA 71 x1) fun z=>
 oP E (xCall (fC 35) [u]) a fun aa e=>
 keepX [(blk x1),(blk d),(blk c)] a e (opK pG E (xCall (fC 59) [y]) e fun ab f=>
 keepX [(blk x1)] e f (opK pG E (xCall (fC 59) [z]) f fun ac g=>
 keepX [] f g (qP pG (bN .lss 3 58 60 ab ac) fun ad=>
 oP E (xCall (fC 56) [aa,ad,(Value.string ⟨#[91]⟩),(Value.string ⟨#[93]⟩)]) g fun ae p=>
 keepX [] g p (dX p fun b=>
 qP pG (fA 71 x1 3) fun q=>
 qP pG (fA 71 x1 3) fun i=>
 qL pG b (blk q) (lA 49 q) fun af=>
 qP pG (iA 49 af (vI 1)) fun r=>
 qL pG b (blk r) (lA 71 r) fun ag=>
 qL pG b (blk i) (lA 49 i) fun ah=>
 qP pG (iA 49 ah (vI 1)) fun j=>
 qL pG b (blk j) (lA 71 j) fun ai=>
 qL pG b (blk x1) (lA 71 x1) fun aj=>
 oP E (xCall (fC 35) [ag]) b fun ak k=>
 keepX [(blk x1),(blk j),(blk i)] b k (opK pG E (xCall (fC 59) [ai]) k fun al l=>
 keepX [(blk x1)] k l (opK pG E (xCall (fC 59) [aj]) l fun am m=>
 keepX [] l m (qP pG (bN .leq 3 72 74 al am) fun an=>
 oP E (xCall (fC 56) [ak,an,(Value.string ⟨#[91]⟩),(Value.string ⟨#[93]⟩)]) m fun ao s=>
 keepX [] m s (opK pG E (bN .add 9 77 78 ae x3) s fun ap aq=>
 oP E (bN .add 9 79 80 ap ao) aq fun ar au=>
 R ar au)))))))))
def F35(x0 w)(R:RT)(E):=
 opK pG E (xV (Instr.box 71 x0)) w fun a ab=>
 oP E (fA 71 a 0) ab fun ac ad=>
 oP E (lA 3 ac) ad fun d ae=>
 oP E (bC .eql 3 7 d (vI 1)) ae fun af o=>
 xcond af
 (R (Value.string ⟨#[116,114,117,101]⟩) o)
 (oP E (bC .eql 3 7 d (vI 2)) o fun ag p=>
 xcond ag
 (R (Value.string ⟨#[102,97,108,115,101]⟩) p)
 (oP E (bC .eql 3 7 d (vI 3)) p fun ah q=>
 xcond ah
 (dX q fun b=>
 qP pG (fA 71 a 2) fun r=>
 qP pG (fA 71 a 1) fun g=>
 qP pG (fA 71 a 2) fun e=>
 qL pG b (blk r) (lA 34 r) fun ai=>
 qP pG (iA 34 ai (vI 0)) fun s=>
 qL pG b (blk s) (lA 36 s) fun aj=>
 qL pG b (blk g) (lA 3 g) fun ak=>
 qL pG b (blk e) (lA 34 e) fun al=>
 qP pG (iA 34 al (vI 1)) fun f=>
 qL pG b (blk f) (lA 36 f) fun am=>
 oP E (xCall (fC 34) [aj]) b fun an i=>
 keepX [(blk f),(blk e),(blk g)] b i (qP pG (bC .add 9 18 an (Value.string ⟨#[32]⟩)) fun ao=>
 oP E (xCall (fC 58) [ak]) i fun ap j=>
 keepX [(blk f),(blk e)] i j (qP pG (bN .add 9 19 22 ao ap) fun aq=>
 qP pG (bC .add 9 23 aq (Value.string ⟨#[32]⟩)) fun ar=>
 oP E (xCall (fC 34) [am]) j fun au t=>
 keepX [] j t (qP pG (bN .add 9 24 29 ar au) fun av=>
 R av t))))
 (oP E (bC .eql 3 7 d (vI 4)) q fun aw u=>
 xcond aw
 (dX u fun c=>
 qP pG (fA 71 a 3) fun v=>
 qP pG (fA 71 a 3) fun k=>
 qL pG c (blk v) (lA 49 v) fun ax=>
 qP pG (iA 49 ax (vI 0)) fun y=>
 qL pG c (blk y) (lA 71 y) fun ay=>
 qL pG c (blk k) (lA 49 k) fun az=>
 qP pG (iA 49 az (vI 0)) fun l=>
 qL pG c (blk l) (lA 71 l) fun ba=>
 oP E (xCall (fC 35) [ay]) c fun bb m=>
 keepX [(blk l),(blk k)] c m (opK pG E (xCall (fC 59) [ba]) m fun bc n=>
 keepX [] m n (qP pG (bC .lss 3 42 bc (vI 3)) fun bd=>
 oP E (xCall (fC 56) [bb,bd,(Value.string ⟨#[91]⟩),(Value.string ⟨#[93]⟩)]) n fun be z=>
 keepX [] n z (qP pG (xBin .add 9 (.const (Value.string ⟨#[33]⟩)) (.tmp 44) (Value.string ⟨#[33]⟩) be) fun bf=>
 R bf z))))
 (xcut (fun bg bh=>b1i a (nth bg 0) bh R E) fun j1=>
 oP E (fA 71 a 0) u fun bi bj=>
 oP E (lA 3 bi) bj fun bk bl=>
 oP E (bC .eql 3 47 bk (vI 6)) bl fun bm aa=>
 xcond bm
 (j1 [(Value.string ⟨#[32,124,124,32]⟩)] aa)
 (j1 [(Value.string ⟨#[32,38,38,32]⟩)] aa)))))
def h35:Hint:=(sQ (hS (sQ (hB (sQ (hC (sQ hN) (sQ (hC (sQ hN) (sQ (hC (hS (.reg [(0,16384,2),(1,32768,16384),(2,65536,32768),(4,131072,65536),(8,262144,131072),(16,524288,262144),(0,1048576,2),(64,2097152,1048576),(144,4194304,2097152),(288,8388608,4718592),(512,16777216,8388608),(0,33554432,2),(2048,67108864,33554432),(4096,134217728,67108864),(8192,268435456,134217728),(16640,536870912,268435456),(33792,1073741824,553648128),(131071,4,1073741824)] [20618,20616,20618,20610,20608,20618,20618,20490,20480,20618,20618,20618,16522,20618,4234,0,20618,20618] (.early 0 (.early 6 (.early 11 (.load 1 (.early 2 (.load 3 (.load 7 (.load 12 (.early 13 (.load 14 (.step 4 (.early 5 (.step 8 (.early 9 (.early 10 (.step 15 (.early 16 (.early 17 .done))))))))))))))))))) hN) (sQ (hC (hS (.reg [(0,8589934592,2),(1,17179869184,8589934592),(2,34359738368,17179869184),(4,68719476736,34359738368),(8,137438953472,68719476736),(0,274877906944,2),(32,549755813888,274877906944),(64,1099511627776,549755813888),(128,2199023255552,1099511627776),(272,4398046511104,2199023255552),(512,8796093022208,4398046511104),(1552,17592186044416,8933531975680),(2048,35184372088832,17592186044416),(8191,4,35184372088832)] [330,328,330,322,320,330,266,330,74,0,330,0,330,330] (.early 0 (.early 5 (.load 1 (.early 2 (.load 3 (.load 6 (.early 7 (.load 8 (.step 4 (.step 9 (.early 10 (.step 11 (.early 12 (.early 13 .done))))))))))))))) hN) hN)))))))))) (sQ (hU [3] (sQ (hC hN hN)) (hS (.reg [(0,562949953421312,2),(1,1125899906842624,562949953421312),(2,2251799813685248,1125899906842624),(4,4503599627370496,2251799813685248),(8,9007199254740992,4503599627370496),(0,18014398509481984,2),(32,36028797018963968,18014398509481984),(64,72057594037927936,36028797018963968),(128,144115188075855872,72057594037927936),(272,288230376151711744,144115188075855872),(0,576460752303423488,2),(1536,1152921504606846976,576460752303423488),(2560,2305843009213693952,1441151880758558720),(6160,4611686018427387904,2314850208468434944),(16383,16,4611686018427387904)] [1354,1352,1354,1346,1344,1354,1290,1354,1098,1024,330,0,1354,0,1354] (.early 0 (.early 5 (.load 1 (.early 2 (.load 3 (.load 6 (.early 7 (.load 8 (.load 10 (.step 4 (.step 9 (.step 11 (.early 12 (.step 13 (.early 14 .done)))))))))))))))) (hS (.reg [(0,9223372036854775808,2),(1,18446744073709551616,9223372036854775808),(2,36893488147419103232,18446744073709551616),(4,73786976294838206464,36893488147419103232),(8,147573952589676412928,73786976294838206464),(0,295147905179352825856,2),(32,590295810358705651712,295147905179352825856),(64,1180591620717411303424,590295810358705651712),(128,2361183241434822606848,1180591620717411303424),(272,4722366482869645213696,2361183241434822606848),(0,9444732965739290427392,2),(1536,18889465931478580854784,9444732965739290427392),(2560,37778931862957161709568,23611832414348226068480),(6160,75557863725914323419136,37926505815546838122496),(16383,32,75557863725914323419136)] [1354,1352,1354,1346,1344,1354,1290,1354,1098,1024,330,0,1354,0,1354] (.early 0 (.early 5 (.load 1 (.early 2 (.load 3 (.load 6 (.early 7 (.load 8 (.load 10 (.step 4 (.step 9 (.step 11 (.early 12 (.step 13 (.early 14 .done)))))))))))))))) (sQ hN)))))))
theorem b8H{x0:Value}(h:F35 x0 w R E):Cv pG 35 #[x0] w R E:=okF (h:=h35) Tryz.func35 (by kernel_rfl) (by kernel_rfl) h
def b1j(x3 w)(R:RT)(E):=
 ∀_τ:Fr,(oP E (lA 66 x3) w fun a b=>
 R a b)
def F36(x0 w)(R:RT)(E):=
 opK pG E (xV (Instr.build 65 #[])) w fun f g=>
 oP E (xV (Instr.box 65 f)) g fun i j=>
 oP E (xV (Instr.alloc 66 true (.tuple #[]))) j fun a k=>
 oP E (sA 66 a i) k fun _ l=>
 oP E (xV (Instr.alloc 111 true (.tuple #[]))) l fun b m=>
 oP E (xV (Instr.makeFunc (.func 60) #[] #[a,b])) m fun n o=>
 oP E (sA 111 b n) o fun _ p=>
 xcut (fun _ q=>b1j a q R E) fun j1=>
 oP E (lA 111 b) p fun r s=>
 oP E (xCall r [x0,(vI 1)]) s fun t u=>
 oP E (xV (Op.unary .not t)) u fun v c=>
 xcond v
 (j1 [] c)
 (oP E (lA 66 a) c fun y z=>
 oP E (xNil y) z fun aa ab=>
 oP E (fA 65 aa 3) ab fun ac ad=>
 oP E (lA 4 ac) ad fun ae d=>
 xcond ae
 (oP E (lA 66 a) d fun af ag=>
 oP E (xNil af) ag fun ah ai=>
 oP E (fA 65 ah 2) ai fun aj ak=>
 oP E (sA 27 aj (vI 30)) ak fun _ al=>
 j1 [] al)
 (oP E (lA 66 a) d fun am an=>
 oP E (xNil am) an fun ao ap=>
 oP E (fA 65 ao 4) ap fun aq ar=>
 oP E (lA 4 aq) ar fun au e=>
 xcond au
 (oP E (lA 66 a) e fun av aw=>
 oP E (xNil av) aw fun ax ay=>
 oP E (fA 65 ax 2) ay fun az ba=>
 oP E (sA 27 az (vI 31)) ba fun _ bb=>
 j1 [] bb)
 (j1 [] e)))
def h36:Hint:=(sQ (sQ (sQ (sQ (hU [] (sQ (hB (sQ (hC hN (sQ (hC hN (sQ (hC hN hN)))))))) (sQ hN))))))
theorem b8I{x0:Value}(h:F36 x0 w R E):Cv pG 36 #[x0] w R E:=okF (h:=h36) Tryz.func36 (by kernel_rfl) (by kernel_rfl) h
def b1k(x3 w)(R:RT)(_E:Pan):=
 ∀_τ:Fr,(R x3 w)
def b1l(x3 w)(j1:NT)(_R:RT)(E):=
 ∀_τ:Fr,(oP E (bC .sub 3 18 x3 (vI 1)) w fun a b=>
 j1 [a] b)
def b1m(x3 w)(j2:NT)(_R:RT)(E):=
 ∀_τ:Fr,(oP E (bC .sub 3 16 x3 (vI 1)) w fun a b=>
 j2 [a] b)
def b1n(x3 x4 x8 w)(j3:NT)(j2:NT)(j1:NT)(_R:RT)(E):=
 ∀_τ:Fr,(xcond x8
 (j3 [x3] w)
 (oP E (bC .eql 3 4 x4 (vI 5)) w fun b a=>
 xcond b
 (j2 [x3] a)
 (j1 [x3] a)))
def b1o(x3 x4 x5 w)(j3:NT)(j2:NT)(j1:NT)(R:RT)(E):=
 ∀_τ:Fr,(xcond x5
 (oP E (bC .sub 3 14 x3 (vI 1)) w fun e f=>
 j3 [e] f)
 (xcut (fun g i=>b1n x3 x4 (nth g 0) i j3 j2 j1 R E) fun j5=>
 oP E (bC .eql 3 4 x4 (vI 8)) w fun a b=>
 xcond a
 (j5 [a] b)
 (oP E (bC .eql 3 4 x4 (vI 9)) b fun c d=>
 xcond c
 (j5 [c] d)
 (oP E (bC .eql 3 4 x4 (vI 10)) d fun j k=>
 j5 [j] k))))
def F37(x0 w)(R:RT)(E):=
 xcut (fun c d=>b1k (nth c 0) d R E) fun j1=>
 xcut (fun e f=>b1l (nth e 0) f j1 R E) fun j2=>
 xcut (fun g i=>b1m (nth g 0) i j2 R E) fun j3=>
 xcut (fun j k=>b1o (vI 4) x0 (nth j 0) k j3 j2 j1 R E) fun j4=>
 oP E (bC .eql 3 4 x0 (vI 6)) w fun a b=>
 xcond a
 (j4 [a] b)
 (oP E (bC .eql 3 4 x0 (vI 7)) b fun l m=>
 j4 [l] m)
def h37:Hint:=(sQ (sQ (hU [3] (sQ (hB (hU [3] (hB (hU [3] (hB (hS (hB (hS (hS (hU [5] (sQ (hC hN hN)) (hC hN hN)) (hS (hU [8] (sQ (hC hN (sQ (hC hN hN)))) (hC hN hN)) (sQ (hC hN hN)))) hN)) hN)) hN)) (sQ hN)))) (sQ hN))))
theorem b8J{x0:Value}(h:F37 x0 w R E):Cv pG 37 #[x0] w R E:=okF (h:=h37) Tryz.func37 (by kernel_rfl) (by kernel_rfl) h
def F39(x0 x1 x2 w)(R:RT)(E):=
 opK pG E (xV (Instr.box 38 x0)) w fun a g=>
 oP E (xV (Instr.box 36 x1)) g fun d i=>
 dX i fun b=>
 qP pG (fA 36 d 0) fun e=>
 qP pG (xV (Instr.makeFunc (.func 63) #[] #[a,d])) fun j=>
 qL pG b (blk a) (lA 38 a) fun k=>
 qL pG b (blk e) (lA 3 e) fun l=>
 oP E (xCall (fC 37) [l]) b fun m c=>
 keepX [(blk a)] b c (qP pG (bN .lss 3 9 10 m x2) fun n=>
 oP E (xCall (fC 62) [k,n,(Value.string ⟨#[40]⟩),(Value.string ⟨#[41]⟩),j]) c fun _t13_13 f=>
 keepX [] c f (R (Value.tuple #[]) f))
def h39:Hint:=(sQ (.reg [(0,64,8),(0,128,16),(2,256,128),(4,512,256),(0,1024,4),(24,2048,1536),(0,4096,24),(105,8192,6208)] [4,5,1,1,5,5,5,0] (.early 1 (.early 4 (.early 6 (.load 0 (.load 2 (.step 3 (.early 5 (.step 7 .done))))))))))
theorem b8K{x0 x1 x2:Value}(h:F39 x0 x1 x2 w R E):Cv pG 39 #[x0,x1,x2] w R E:=okF (h:=h39) Tryz.func39 (by kernel_rfl) (by kernel_rfl) h
def F40(x0 w)(R:RT)(E):=
 opK pG E (xV (Instr.build 109 #[(0,(Value.string ⟨#[43]⟩)),(1,(Value.string ⟨#[45]⟩)),(2,(Value.string ⟨#[42]⟩)),(3,(Value.string ⟨#[47]⟩)),(4,(Value.string ⟨#[37]⟩))])) w fun a b=>
 oP E (bC .sub 3 4 x0 (vI 6)) b fun c d=>
 oP E (xV (Instr.index 109 a c)) d fun e f=>
 R e f
def h40:Hint:=(sQ (sQ hN))
theorem b8L{x0:Value}(h:F40 x0 w R E):Cv pG 40 #[x0] w R E:=okF (h:=h40) Tryz.func40 (by kernel_rfl) (by kernel_rfl) h
def b1p(x6 w)(R:RT)(_E:Pan):=
 ∀_τ:Fr,(R x6 w)
def b4E(x6 x25 x26 x27 w)(next3:NT)(j2:NT)(_R:RT)(E):=
 opK pG E (bN .lss 3 27 26 x27 x26) w fun b a=>
 xcond b
 (oP E (iA 115 x25 x27) a fun c d=>
 oP E (lA 86 c) d fun e f=>
 oP E (xBuiltin .append #[86,86] 86 [false,false] [x6,e]) f fun g i=>
 oP E (bC .add 3 27 x27 (vI 1)) i fun j k=>
 next3 [g,j] k)
 (j2 [x6] a)
def b1q(x0 x3 w)(R:RT)(E):=
 ∀_τ:Fr,(oP E (xCall (fC 64) [(nS),x3]) w fun b c=>
 xcut (fun d e=>b1p (nth d 0) e R E) fun j2=>
 oP E (xBuiltin .len #[115] 3 [false] [x0]) c fun f g=>
 xloop [6,27] [b,(vI 0)] g fun a i next3=>
 b4E (a 6) x0 f (a 27) i next3 j2 R E)
def b1r(_x0 x3 _x9 _x10 x11:Value)(w)(next4:NT)(_R:RT)(E):=
 ∀_τ:Fr,(oP E (bC .add 3 11 x11 (vI 1)) w fun a b=>
 next4 [x3,a] b)
def b4F(x0 x3 x9 x10 x11 w)(next4:NT)(j1:NT)(R:RT)(E):=
 opK pG E (bN .lss 3 11 10 x11 x10) w fun d b=>
 xcond d
 (xcut (fun e f=>b1r x0 (nth e 0) x9 x10 x11 f next4 R E) fun j5=>
 oP E (iA 115 x9 x11) b fun g i=>
 oP E (lA 86 g) i fun j k=>
 oP E (xBuiltin .len #[86] 3 [false] [j]) k fun l m=>
 oP E (bN .add 3 15 17 x3 l) m fun a n=>
 oP E (bC .lss 3 19 a (vI 0)) n fun o c=>
 xcond o
 (oP E (xV (Instr.makeInterface 9 (Value.string ⟨#[108,101,110,32,111,117,116,32,111,102,32,114,97,110,103,101]⟩))) c fun p q=>
 oP E (xV (Instr.panic p)) q fun _ r=>
 j5 [a] r)
 (j5 [a] c))
 (j1 [x3] b)
def F41(x0 w)(R:RT)(E):=
 xcut (fun b c=>b1q x0 (nth b 0) c R E) fun j1=>
 oP E (xBuiltin .len #[115] 3 [false] [x0]) w fun d e=>
 xloop [3,11] [(vI 0),(vI 0)] e fun a f next4=>
 b4F x0 (a 3) x0 d (a 11) f next4 j1 R E
def h41:Hint:=(sQ (sQ (hU [3] (sQ (hB (hL [3,11] (sQ (hS (hC hN hN) (hU [3] (hB (sQ (sQ (sQ (hC hN hN))))) hN)))))) (sQ (hU [6] (sQ (hB (hL [6,27] (sQ (hS (hC hN hN) (hS (hB (sQ hN)) hN)))))) (sQ hN))))))
theorem b8M{x0:Value}(h:F41 x0 w R E):Cv pG 41 #[x0] w R E:=okF (h:=h41) Tryz.func41 (by kernel_rfl) (by kernel_rfl) h
def b1s(x5 w)(R:RT)(_E:Pan):=
 ∀_τ:Fr,(R x5 w)
def b4G(x1 x5 x8 x9 x10 w)(next2:NT)(j1:NT)(_R:RT)(E):=
 opK pG E (bN .lss 3 10 9 x10 x9) w fun c a=>
 xcond c
 (oP E (iA 22 x8 x10) a fun d e=>
 oP E (lA 46 d) e fun f g=>
 oP E (xV (Instr.alloc 46 true (.tuple #[]))) g fun b i=>
 oP E (sA 46 b f) i fun _ j=>
 oP E (lA 46 b) j fun k l=>
 oP E (xCall x1 [k]) l fun m n=>
 oP E (xV (Instr.buildSlice 86 1 #[(0,m)])) n fun o p=>
 oP E (xBuiltin .append #[86,86] 86 [false,false] [x5,o]) p fun q r=>
 oP E (bC .add 3 10 x10 (vI 1)) r fun s t=>
 next2 [q,s] t)
 (j1 [x5] a)
def F42(x0 x1 w)(R:RT)(E):=
 xcut (fun b c=>b1s (nth b 0) c R E) fun j1=>
 oP E (xBuiltin .len #[22] 3 [false] [x0]) w fun d e=>
 xloop [5,10] [(nS),(vI 0)] e fun a f next2=>
 b4G x1 (a 5) x0 d (a 10) f next2 j1 R E
def h42:Hint:=(sQ (sQ (hU [5] (sQ (hB (hL [5,10] (sQ (hS (hC hN hN) (hS (hB (sQ hN)) hN)))))) (sQ hN))))
theorem b8N{x0 x1:Value}(h:F42 x0 x1 w R E):Cv pG 42 #[x0,x1] w R E:=okF (h:=h42) Tryz.func42 (by kernel_rfl) (by kernel_rfl) h
def F43(x0 w)(R:RT)(E):=
 opK pG E (xV (Instr.box 46 x0)) w fun a b=>
 oP E (lA 46 a) b fun c d=>
 oP E (xV (Instr.build 118 #[(0,c)])) d fun e f=>
 oP E (xV (Instr.makeInterface 118 e)) f fun g i=>
 R g i
def h43:Hint:=(sQ (sQ hN))
theorem b8O{x0:Value}(h:F43 x0 w R E):Cv pG 43 #[x0] w R E:=okF (h:=h43) Tryz.func43 (by kernel_rfl) (by kernel_rfl) h
def b1t(x5 w)(R:RT)(_E:Pan):=
 ∀_τ:Fr,(R x5 w)
def b4H(x1 x5 x8 x9 x10 w)(next2:NT)(j1:NT)(_R:RT)(E):=
 opK pG E (bN .lss 3 10 9 x10 x9) w fun c a=>
 xcond c
 (oP E (iA 23 x8 x10) a fun d e=>
 oP E (lA 51 d) e fun f g=>
 oP E (xV (Instr.alloc 51 true (.tuple #[]))) g fun b i=>
 oP E (sA 51 b f) i fun _ j=>
 oP E (lA 51 b) j fun k l=>
 oP E (xCall x1 [k]) l fun m n=>
 oP E (xV (Instr.buildSlice 86 1 #[(0,m)])) n fun o p=>
 oP E (xBuiltin .append #[86,86] 86 [false,false] [x5,o]) p fun q r=>
 oP E (bC .add 3 10 x10 (vI 1)) r fun s t=>
 next2 [q,s] t)
 (j1 [x5] a)
def F44(x0 x1 w)(R:RT)(E):=
 xcut (fun b c=>b1t (nth b 0) c R E) fun j1=>
 oP E (xBuiltin .len #[23] 3 [false] [x0]) w fun d e=>
 xloop [5,10] [(nS),(vI 0)] e fun a f next2=>
 b4H x1 (a 5) x0 d (a 10) f next2 j1 R E
def h44:Hint:=(sQ (sQ (hU [5] (sQ (hB (hL [5,10] (sQ (hS (hC hN hN) (hS (hB (sQ hN)) hN)))))) (sQ hN))))
theorem b8P{x0 x1:Value}(h:F44 x0 x1 w R E):Cv pG 44 #[x0,x1] w R E:=okF (h:=h44) Tryz.func44 (by kernel_rfl) (by kernel_rfl) h
def F45(x0 w)(R:RT)(E):=
 opK pG E (xV (Instr.box 51 x0)) w fun a b=>
 oP E (lA 51 a) b fun c d=>
 oP E (xV (Instr.build 120 #[(0,c)])) d fun e f=>
 oP E (xV (Instr.makeInterface 120 e)) f fun g i=>
 R g i
def h45:Hint:=(sQ (sQ hN))
theorem b8Q{x0:Value}(h:F45 x0 w R E):Cv pG 45 #[x0] w R E:=okF (h:=h45) Tryz.func45 (by kernel_rfl) (by kernel_rfl) h
def F47(x0 x1 w)(R:RT)(E):=
 opK pG E (xCall (fC 68) [x0]) w fun _t7_1 a=>
 oP E (xNil x0) a fun b c=>
 oP E (fA 42 b 1) c fun d e=>
 oP E (lA 40 d) e fun f g=>
 oP E (xBuiltin .append #[40,9] 40 [false,false] [f,x1]) g fun i j=>
 oP E (xNil x0) j fun k l=>
 oP E (fA 42 k 1) l fun m n=>
 oP E (sA 40 m i) n fun _ o=>
 oP E (xBuiltin .len #[9] 3 [false] [x1]) o fun p q=>
 R (Value.tuple #[p,Value.nilIface]) q
def h47:Hint:=(sQ (sQ (sQ (sQ hN))))
theorem b8R{x0 x1:Value}(h:F47 x0 x1 w R E):Cv pG 47 #[x0,x1] w R E:=okF (h:=h47) Tryz.func47 (by kernel_rfl) (by kernel_rfl) h
def F49(x0 x1 x2 x3 w)(R:RT)(E):=
 opK pG E (lA 38 x0) w fun a b=>
 oP E (lA 9 x1) b fun c d=>
 oP E (xV (Instr.buildSlice 63 2 #[(0,c),(1,(Value.string ⟨#[32]⟩))])) d fun e f=>
 oP E (xCall (fC 23) [a,e]) f fun _t7_7 g=>
 oP E (lA 38 x0) g fun i j=>
 oP E (lA 71 x2) j fun k l=>
 oP E (xCall (fC 50) [i,k]) l fun _t10_13 m=>
 oP E (lA 38 x0) m fun n o=>
 oP E (lA 9 x3) o fun p q=>
 oP E (xV (Instr.buildSlice 63 1 #[(0,p)])) q fun r s=>
 oP E (xCall (fC 23) [n,r]) s fun _t14_21 t=>
 R (Value.tuple #[]) t
def h49:Hint:=(sQ (sQ hN))
theorem b8S{x0 x1 x2 x3:Value}(h:F49 x0 x1 x2 x3 w R E):Cv pG 49 #[x0,x1,x2,x3] w R E:=okF (h:=h49) Tryz.func49 (by kernel_rfl) (by kernel_rfl) h
def b1u(x0 x3 x4 x5 w)(R:RT)(E):=
 ∀_τ:Fr,(oP E (fA 71 x3 3) w fun a b=>
 oP E (lA 49 a) b fun c d=>
 oP E (iA 49 c (vI 0)) d fun e f=>
 oP E (lA 71 e) f fun g i=>
 oP E (xCall (fC 74) [x0,g,x4]) i fun _t63_17 j=>
 oP E (xV (Instr.buildSlice 63 1 #[(0,x5)])) j fun k l=>
 oP E (xCall (fC 23) [x0,k]) l fun _t67_21 m=>
 oP E (fA 71 x3 3) m fun n o=>
 oP E (lA 49 n) o fun p q=>
 oP E (iA 49 p (vI 1)) q fun r s=>
 oP E (lA 71 r) s fun t u=>
 oP E (bC .add 3 73 x4 (vI 1)) u fun v y=>
 oP E (xCall (fC 74) [x0,t,v]) y fun _t75_33 z=>
 R (Value.tuple #[]) z)
def F50(x0 x1 w)(R:RT)(E):=
 opK pG E (xV (Instr.box 71 x1)) w fun a j=>
 oP E (fA 71 a 0) j fun k l=>
 oP E (lA 3 k) l fun m n=>
 oP E (xCall (fC 73) [m]) n fun c o=>
 xcut (fun p q=>b1u x0 a c (nth p 0) q R E) fun j1=>
 oP E (fA 71 a 0) o fun r s=>
 oP E (lA 3 r) s fun b t=>
 oP E (bC .eql 3 10 b (vI 1)) t fun u d=>
 xcond u
 (oP E (xV (Instr.buildSlice 63 1 #[(0,(Value.string ⟨#[116,114,117,101]⟩))])) d fun v y=>
 oP E (xCall (fC 23) [x0,v]) y fun _t15_45 z=>
 R (Value.tuple #[]) z)
 (oP E (bC .eql 3 10 b (vI 2)) d fun aa e=>
 xcond aa
 (oP E (xV (Instr.buildSlice 63 1 #[(0,(Value.string ⟨#[102,97,108,115,101]⟩))])) e fun ab ac=>
 oP E (xCall (fC 23) [x0,ab]) ac fun _t20_51 ad=>
 R (Value.tuple #[]) ad)
 (oP E (bC .eql 3 10 b (vI 3)) e fun ae f=>
 xcond ae
 (oP E (fA 71 a 2) f fun af ag=>
 oP E (lA 34 af) ag fun ah ai=>
 oP E (iA 34 ah (vI 0)) ai fun aj ak=>
 oP E (lA 36 aj) ak fun al am=>
 oP E (xCall (fC 19) [x0,al]) am fun _t28_63 an=>
 oP E (xV (Instr.build 132 #[(0,(Value.string ⟨#[60]⟩)),(1,(Value.string ⟨#[60,61]⟩)),(2,(Value.string ⟨#[61,61]⟩)),(3,(Value.string ⟨#[33,61]⟩)),(4,(Value.string ⟨#[62]⟩)),(5,(Value.string ⟨#[62,61]⟩))])) an fun ao ap=>
 oP E (fA 71 a 1) ap fun aq ar=>
 oP E (lA 3 aq) ar fun au av=>
 oP E (bC .sub 3 32 au (vI 1)) av fun aw ax=>
 oP E (xV (Instr.index 132 ao aw)) ax fun ay az=>
 oP E (xV (Instr.buildSlice 63 3 #[(0,(Value.string ⟨#[32]⟩)),(1,ay),(2,(Value.string ⟨#[32]⟩))])) az fun ba bb=>
 oP E (xCall (fC 23) [x0,ba]) bb fun _t36_77 bc=>
 oP E (fA 71 a 2) bc fun bd be=>
 oP E (lA 34 bd) be fun bf bg=>
 oP E (iA 34 bf (vI 1)) bg fun bh bi=>
 oP E (lA 36 bh) bi fun bj bk=>
 oP E (xCall (fC 19) [x0,bj]) bk fun _t42_87 bl=>
 R (Value.tuple #[]) bl)
 (oP E (bC .eql 3 10 b (vI 4)) f fun bm g=>
 xcond bm
 (oP E (xV (Instr.buildSlice 63 1 #[(0,(Value.string ⟨#[33]⟩))])) g fun bn bo=>
 oP E (xCall (fC 23) [x0,bn]) bo fun _t47_93 bp=>
 oP E (fA 71 a 3) bp fun bq br=>
 oP E (lA 49 bq) br fun bs bt=>
 oP E (iA 49 bs (vI 0)) bt fun bu bv=>
 oP E (lA 71 bu) bv fun bw bz=>
 oP E (xCall (fC 74) [x0,bw,c]) bz fun _t54_103 ca=>
 R (Value.tuple #[]) ca)
 (oP E (bC .eql 3 10 b (vI 6)) g fun cb i=>
 xcond cb
 (j1 [(Value.string ⟨#[32,124,124,32]⟩)] i)
 (j1 [(Value.string ⟨#[32,38,38,32]⟩)] i)))))
def h50:Hint:=(sQ (sQ (sQ (hU [5] (sQ (hB (sQ (hC (sQ hN) (sQ (hC (sQ hN) (sQ (hC (sQ (sQ (sQ hN))) (sQ (hC (sQ (sQ hN)) (sQ (hC hN hN)))))))))))) (sQ (sQ hN))))))
theorem b8T{x0 x1:Value}(h:F50 x0 x1 w R E):Cv pG 50 #[x0,x1] w R E:=okF (h:=h50) Tryz.func50 (by kernel_rfl) (by kernel_rfl) h
def F51(x0 x1 w)(R:RT)(E):=
 opK pG E (xNil x0) w fun d e=>
 oP E (fA 76 d 2) e fun f g=>
 oP E (lA 3 f) g fun i j=>
 oP E (bC .neq 3 8 i (vI 0)) j fun k a=>
 xcond k
 (R (vB false) a)
 (oP E (xNil x0) a fun l m=>
 oP E (fA 76 l 0) m fun n o=>
 oP E (lA 3 n) o fun p q=>
 oP E (bC .eql 3 13 p (vI 4096)) q fun r b=>
 xcond r
 (oP E (xNil x0) b fun s t=>
 oP E (fA 76 s 2) t fun u v=>
 oP E (sA 3 u (vI 33)) v fun _ y=>
 R (vB false) y)
 (oP E (bC .gtr 3 18 x1 (vI 64)) b fun z c=>
 xcond z
 (oP E (xNil x0) c fun aa ab=>
 oP E (fA 76 aa 2) ab fun ac ad=>
 oP E (sA 3 ac (vI 32)) ad fun _ ae=>
 R (vB false) ae)
 (oP E (xNil x0) c fun af ag=>
 oP E (fA 76 af 0) ag fun ah ai=>
 oP E (lA 3 ah) ai fun aj ak=>
 oP E (bC .add 3 26 aj (vI 1)) ak fun al am=>
 oP E (xNil x0) am fun an ao=>
 oP E (fA 76 an 0) ao fun ap aq=>
 oP E (sA 3 ap al) aq fun _ ar=>
 oP E (xNil x0) ar fun au av=>
 oP E (fA 76 au 1) av fun aw ax=>
 oP E (lA 3 aw) ax fun ay az=>
 oP E (xBuiltin .max #[3,3] 3 [false,false] [ay,x1]) az fun ba bb=>
 oP E (xNil x0) bb fun bc bd=>
 oP E (fA 76 bc 1) bd fun be bf=>
 oP E (sA 3 be ba) bf fun _ bg=>
 R (vB true) bg)))
def h51:Hint:=(sQ (hS (sQ (hC (sQ hN) hN)) (hS (sQ (hC (sQ (sQ hN)) hN)) (hS (sQ (hC (sQ (sQ hN)) hN)) (sQ (sQ (sQ hN)))))))
theorem b8U{x0 x1:Value}(h:F51 x0 x1 w R E):Cv pG 51 #[x0,x1] w R E:=okF (h:=h51) Tryz.func51 (by kernel_rfl) (by kernel_rfl) h
def b4I(x0 x2 x4 x9 w)(next4:NT)(R:RT)(E):=
 opK pG E (fA 51 x4 5) w fun c d=>
 oP E (lA 23 c) d fun e f=>
 oP E (xBuiltin .len #[23] 3 [false] [e]) f fun g i=>
 oP E (bN .lss 3 83 86 x9 g) i fun a j=>
 oP E (gYs a (xNil (zT a x0))) j fun k l=>
 oP E (gYs a (fA 76 k 2)) l fun m n=>
 oP E (gYs a (lA 3 m)) n fun o p=>
 oP E (gYs a (bC .eql 3 92 o (vI 0))) p fun q r=>
 oP E (xPick a q (vB false)) r fun s b=>
 xcond s
 (oP E (fA 51 x4 5) b fun t u=>
 oP E (lA 23 t) u fun v y=>
 oP E (iA 23 v x9) y fun z aa=>
 oP E (lA 51 z) aa fun ab ac=>
 oP E (bC .add 3 103 x2 (vI 1)) ac fun ad ae=>
 oP E (xCall (fC 52) [x0,ab,ad]) ae fun _t105_35 af=>
 oP E (bC .add 3 95 x9 (vI 1)) af fun ag ah=>
 next4 [ag] ah)
 (R (Value.tuple #[]) b)
def b1v(x0 x2 x4 w)(R:RT)(E):=
 ∀_τ:Fr,(xloop [9] [(vI 0)] w fun a b next4=>
 b4I x0 x2 x4 (a 9) b next4 R E)
def b4J(x0 x2 x4 x8 w)(next5:NT)(j3:NT)(_R:RT)(E):=
 opK pG E (fA 51 x4 4) w fun c d=>
 oP E (lA 23 c) d fun e f=>
 oP E (xBuiltin .len #[23] 3 [false] [e]) f fun g i=>
 oP E (bN .lss 3 60 63 x8 g) i fun a j=>
 oP E (gYs a (xNil (zT a x0))) j fun k l=>
 oP E (gYs a (fA 76 k 2)) l fun m n=>
 oP E (gYs a (lA 3 m)) n fun o p=>
 oP E (gYs a (bC .eql 3 69 o (vI 0))) p fun q r=>
 oP E (xPick a q (vB false)) r fun s b=>
 xcond s
 (oP E (fA 51 x4 4) b fun t u=>
 oP E (lA 23 t) u fun v y=>
 oP E (iA 23 v x8) y fun z aa=>
 oP E (lA 51 z) aa fun ab ac=>
 oP E (bC .add 3 80 x2 (vI 1)) ac fun ad ae=>
 oP E (xCall (fC 52) [x0,ab,ad]) ae fun _t82_71 af=>
 oP E (bC .add 3 72 x8 (vI 1)) af fun ag ah=>
 next5 [ag] ah)
 (j3 [] b)
def b1w(x0 x2 x4 w)(R:RT)(E):=
 ∀_τ:Fr,(xcut (fun _ a=>b1v x0 x2 x4 a R E) fun j3=>
 xloop [8] [(vI 0)] w fun b c next5=>
 b4J x0 x2 x4 (b 8) c next5 j3 R E)
def b4K(x0 x2 x4 x7 w)(next6:NT)(j2:NT)(_R:RT)(E):=
 opK pG E (fA 51 x4 2) w fun c d=>
 oP E (lA 34 c) d fun e f=>
 oP E (xBuiltin .len #[34] 3 [false] [e]) f fun g i=>
 oP E (bN .lss 3 37 40 x7 g) i fun a j=>
 oP E (gYs a (xNil (zT a x0))) j fun k l=>
 oP E (gYs a (fA 76 k 2)) l fun m n=>
 oP E (gYs a (lA 3 m)) n fun o p=>
 oP E (gYs a (bC .eql 3 46 o (vI 0))) p fun q r=>
 oP E (xPick a q (vB false)) r fun s b=>
 xcond s
 (oP E (fA 51 x4 2) b fun t u=>
 oP E (lA 34 t) u fun v y=>
 oP E (iA 34 v x7) y fun z aa=>
 oP E (lA 36 z) aa fun ab ac=>
 oP E (bC .add 3 57 x2 (vI 1)) ac fun ad ae=>
 oP E (xCall (fC 76) [x0,ab,ad]) ae fun _t59_107 af=>
 oP E (bC .add 3 49 x7 (vI 1)) af fun ag ah=>
 next6 [ag] ah)
 (j2 [] b)
def b1x(x0 x2 x4 w)(R:RT)(E):=
 ∀_τ:Fr,(xcut (fun _ a=>b1w x0 x2 x4 a R E) fun j2=>
 xloop [7] [(vI 0)] w fun b c next6=>
 b4K x0 x2 x4 (b 7) c next6 j2 R E)
def b4L(x0 x2 x4 x6 w)(next7:NT)(j1:NT)(_R:RT)(E):=
 opK pG E (fA 51 x4 3) w fun c d=>
 oP E (lA 49 c) d fun e f=>
 oP E (xBuiltin .len #[49] 3 [false] [e]) f fun g i=>
 oP E (bN .lss 3 14 17 x6 g) i fun a j=>
 oP E (gYs a (xNil (zT a x0))) j fun k l=>
 oP E (gYs a (fA 76 k 2)) l fun m n=>
 oP E (gYs a (lA 3 m)) n fun o p=>
 oP E (gYs a (bC .eql 3 23 o (vI 0))) p fun q r=>
 oP E (xPick a q (vB false)) r fun s b=>
 xcond s
 (oP E (fA 51 x4 3) b fun t u=>
 oP E (lA 49 t) u fun v y=>
 oP E (iA 49 v x6) y fun z aa=>
 oP E (lA 71 z) aa fun ab ac=>
 oP E (bC .add 3 34 x2 (vI 1)) ac fun ad ae=>
 oP E (xCall (fC 75) [x0,ab,ad]) ae fun _t36_143 af=>
 oP E (bC .add 3 26 x6 (vI 1)) af fun ag ah=>
 next7 [ag] ah)
 (j1 [] b)
def F52(x0 x1 x2 w)(R:RT)(E):=
 opK pG E (xV (Instr.box 51 x1)) w fun a c=>
 oP E (xCall (fC 51) [x0,x2]) c fun d e=>
 oP E (xV (Op.unary .not d)) e fun f b=>
 xcond f
 (R (Value.tuple #[]) b)
 (xcut (fun _ g=>b1x x0 x2 a g R E) fun j1=>
 xloop [6] [(vI 0)] b fun i j next7=>
 b4L x0 x2 a (i 6) j next7 j1 R E)
def h52:Hint:=(sQ (hS (sQ (hC hN hN)) (hU [] (sQ (hB (hL [6] (hS (sQ (hC hN hN)) (hS (hB hN) hN))))) (hU [] (sQ (hB (hL [7] (hS (sQ (hC hN hN)) (hS (hB hN) hN))))) (hU [] (sQ (hB (hL [8] (hS (sQ (hC hN hN)) (hS (hB hN) hN))))) (sQ (hB (hL [9] (hS (sQ (hC hN hN)) (hS (hB hN) hN))))))))))
theorem b8V{x0 x1 x2:Value}(h:F52 x0 x1 x2 w R E):Cv pG 52 #[x0,x1,x2] w R E:=okF (h:=h52) Tryz.func52 (by kernel_rfl) (by kernel_rfl) h
def b1y(x3 w)(R:RT)(E):=
 ∀_τ:Fr,(oP E (bC .leq 3 52 x3 (vI 32)) w fun a b=>
 R a b)
def b4M(x0 x3 x4 w)(next2:NT)(j1:NT)(R:RT)(E):=
 opK pG E (xBuiltin .len #[9] 3 [false] [x0]) w fun i j=>
 oP E (bN .lss 3 20 22 x4 i) j fun k e=>
 xcond k
 (oP E (xCall (fC 78) [x0,x4]) e fun c l=>
 oP E (xT c 0) l fun m n=>
 oP E (xT c 1) n fun o p=>
 oP E (xT c 2) p fun q r=>
 oP E (xCall (fC 79) [m]) r fun f s=>
 oP E (xV (Op.unary .not q)) s fun a t=>
 oP E (gNo a (bC .neq 3 36 (zF a f) (vI 3))) t fun b u=>
 oP E (gsem (asB (zF a b)) true (xBin .neq 3 (.tmp 39) (.const (vI 4)) (gval (asB (zF a b)) true f) (vI 4))) u fun d v=>
 oP E (gsem (asB (gval (asB (zF a b)) true d)) false (xBin .eql 3 (.tmp 42) (.const (vI 0)) (gval (asB (gval (asB (zF a b)) true d)) false x3) (vI 0))) v fun y z=>
 oP E (gsem (asB (zF a b)) true (xPick (gval (asB (zF a b)) true d) (vB true) y)) z fun aa ab=>
 oP E (gNo a (xPick (zF a b) aa (vB false))) ab fun ac ad=>
 oP E (xPick a (vB true) ac) ad fun ae g=>
 xcond ae
 (R (vB false) g)
 (oP E (bC .add 3 47 x3 (vI 1)) g fun af ag=>
 oP E (bN .add 3 49 50 x4 o) ag fun ah ai=>
 next2 [af,ah] ai))
 (j1 [x3] e)
def F53(x0 w)(R:RT)(E):=
 opK pG E (bC .eql 9 9 x0 (eS)) w fun a e=>
 oP E (gNo a (xBuiltin .len #[9] 3 [false] [(zF a x0)])) e fun f g=>
 oP E (gNo a (bC .gtr 3 13 f (vI 128))) g fun i j=>
 oP E (xPick a (vB true) i) j fun b k=>
 oP E (gNo b (xCall (fC 77) [(zF b x0)])) k fun l m=>
 oP E (xPick b (vB true) l) m fun n c=>
 xcond n
 (R (vB false) c)
 (xcut (fun o p=>b1y (nth o 0) p R E) fun j1=>
 xloop [3,4] [(vI 0),(vI 0)] c fun d q next2=>
 b4M x0 (d 3) (d 4) q next2 j1 R E)
def h53:Hint:=(sQ (hS (sQ (hC (sQ hN) hN)) (sQ (hU [3] (sQ (hB (hL [3,4] (hS (sQ (hC hN hN)) (hB (sQ (sQ (hS (sQ (hC (sQ hN) hN)) (sQ hN))))))))) (sQ hN)))))
theorem b8W{x0:Value}(h:F53 x0 w R E):Cv pG 53 #[x0] w R E:=okF (h:=h53) Tryz.func53 (by kernel_rfl) (by kernel_rfl) h
def b4N(x0 x3 x8 w)(next4:NT)(R:RT)(E):=
 opK pG E (fA 71 x3 3) w fun c d=>
 oP E (lA 49 c) d fun e f=>
 oP E (xBuiltin .len #[49] 3 [false] [e]) f fun g i=>
 oP E (bN .lss 3 82 85 x8 g) i fun a j=>
 oP E (gYs a (xNil (zT a x0))) j fun k l=>
 oP E (gYs a (fA 79 k 0)) l fun m n=>
 oP E (gYs a (lA 4 m)) n fun o p=>
 oP E (xPick a o (vB false)) p fun q b=>
 xcond q
 (oP E (fA 71 x3 3) b fun r s=>
 oP E (lA 49 r) s fun t u=>
 oP E (iA 49 t x8) u fun v y=>
 oP E (lA 71 v) y fun z aa=>
 oP E (xCall (fC 54) [x0,z]) aa fun _t101_67 ab=>
 oP E (bC .add 3 93 x8 (vI 1)) ab fun ac ad=>
 next4 [ac] ad)
 (R (Value.tuple #[]) b)
def b1z(x0 x3 w)(R:RT)(E):=
 ∀_τ:Fr,(xloop [8] [(vI 0)] w fun a b next4=>
 b4N x0 x3 (a 8) b next4 R E)
def b4O(x0 x3 x7 w)(next5:NT)(j3:NT)(_R:RT)(E):=
 opK pG E (fA 71 x3 2) w fun c d=>
 oP E (lA 34 c) d fun e f=>
 oP E (xBuiltin .len #[34] 3 [false] [e]) f fun g i=>
 oP E (bN .lss 3 62 65 x7 g) i fun a j=>
 oP E (gYs a (xNil (zT a x0))) j fun k l=>
 oP E (gYs a (fA 79 k 0)) l fun m n=>
 oP E (gYs a (lA 4 m)) n fun o p=>
 oP E (xPick a o (vB false)) p fun q b=>
 xcond q
 (oP E (fA 71 x3 2) b fun r s=>
 oP E (lA 34 r) s fun t u=>
 oP E (iA 34 t x7) u fun v y=>
 oP E (lA 36 v) y fun z aa=>
 oP E (xCall (fC 55) [x0,z]) aa fun _t81_99 ab=>
 oP E (bC .add 3 73 x7 (vI 1)) ab fun ac ad=>
 next5 [ac] ad)
 (j3 [] b)
def b1A(x0 x3 x4 x5 x6 w)(R:RT)(E):=
 ∀_τ:Fr,(oP E (xNil x0) w fun d e=>
 oP E (fA 79 d 0) e fun f g=>
 oP E (lA 4 f) g fun c i=>
 oP E (xPick c (zT c x6) (vB false)) i fun a j=>
 oP E (gYs a (fA 71 x3 2)) j fun k l=>
 oP E (gYs a (lA 34 k)) l fun m n=>
 oP E (gYs a (xBuiltin .len #[34] 3 [false] [m])) n fun o p=>
 oP E (gYs a (bN .eql 3 49 50 o (zT a x4))) p fun q r=>
 oP E (xPick a q (vB false)) r fun b s=>
 oP E (gYs b (fA 71 x3 3)) s fun t u=>
 oP E (gYs b (lA 49 t)) u fun v y=>
 oP E (gYs b (xBuiltin .len #[49] 3 [false] [v])) y fun z aa=>
 oP E (gYs b (bN .eql 3 56 57 z (zT b x5))) aa fun ab ac=>
 oP E (xPick b ab (vB false)) ac fun ad ae=>
 oP E (xNil x0) ae fun af ag=>
 oP E (fA 79 af 0) ag fun ah ai=>
 oP E (sA 4 ah ad) ai fun _ aj=>
 xcut (fun _ ak=>b1z x0 x3 ak R E) fun j3=>
 xloop [7] [(vI 0)] aj fun al am next5=>
 b4O x0 x3 (al 7) am next5 j3 R E)
def b1B(x0 x3 x4 x5 w)(R:RT)(E):=
 ∀_τ:Fr,(oP E (fA 71 x3 1) w fun c d=>
 oP E (lA 3 c) d fun e f=>
 oP E (bC .eql 3 25 e (vI 0)) f fun g i=>
 xcut (fun j k=>b1A x0 x3 x4 x5 (nth j 0) k R E) fun j2=>
 oP E (fA 71 x3 0) i fun l m=>
 oP E (lA 3 l) m fun n o=>
 oP E (bC .eql 3 28 n (vI 3)) o fun p b=>
 xcond p
 (oP E (fA 71 x3 1) b fun q r=>
 oP E (lA 3 q) r fun s t=>
 oP E (bC .geq 3 31 s (vI 1)) t fun a u=>
 oP E (gYs a (fA 71 x3 1)) u fun v y=>
 oP E (gYs a (lA 3 v)) y fun z aa=>
 oP E (gYs a (bC .leq 3 35 z (vI 6))) aa fun ab ac=>
 oP E (xPick a ab (vB false)) ac fun ad ae=>
 j2 [ad] ae)
 (j2 [g] b))
def b1C(x0 _x3 x4 x5 x21:Value)(w)(j1:NT)(_R:RT)(E):=
 ∀_τ:Fr,(xcond x21
 (j1 [x4,(vI 2)] w)
 (oP E (xNil x0) w fun a b=>
 oP E (fA 79 a 0) b fun c d=>
 oP E (sA 4 c (vB false)) d fun _ e=>
 j1 [x4,x5] e))
def b1D(x0 x3 x4 x5 x10 x14 w)(j1:NT)(R:RT)(E):=
 ∀_τ:Fr,(xcond x14
 (j1 [x4,x5] w)
 (oP E (bC .eql 3 10 x10 (vI 3)) w fun e a=>
 xcond e
 (j1 [(vI 2),x5] a)
 (oP E (bC .eql 3 10 x10 (vI 4)) a fun f b=>
 xcond f
 (j1 [x4,(vI 1)] b)
 (xcut (fun g i=>b1C x0 x3 x4 x5 (nth g 0) i j1 R E) fun j7=>
 oP E (bC .eql 3 10 x10 (vI 5)) b fun c d=>
 xcond c
 (j7 [c] d)
 (oP E (bC .eql 3 10 x10 (vI 6)) d fun j k=>
 j7 [j] k)))))
def F54(x0 x1 w)(R:RT)(E):=
 opK pG E (xV (Instr.box 71 x1)) w fun a f=>
 xcut (fun c g=>b1B x0 a (nth c 0) (nth c.tail 0) g R E) fun j1=>
 oP E (fA 71 a 0) f fun i j=>
 oP E (lA 3 i) j fun b k=>
 xcut (fun l m=>b1D x0 a (vI 0) (vI 0) b (nth l 0) m j1 R E) fun j6=>
 oP E (bC .eql 3 10 b (vI 1)) k fun d e=>
 xcond d
 (j6 [d] e)
 (oP E (bC .eql 3 10 b (vI 2)) e fun n o=>
 j6 [n] o)
def h54:Hint:=(sQ (sQ (hU [4,5] (sQ (hB (hU [14] (sQ (hC hN hN)) (hC hN (sQ (hC hN (sQ (hC hN (hU [21] (sQ (hC hN hN)) (hC hN hN)))))))))) (sQ (hU [6] (sQ (hC hN hN)) (sQ (hU [] (sQ (hB (hL [7] (hS (sQ (hC hN hN)) (hS (hB hN) hN))))) (sQ (hB (hL [8] (hS (sQ (hC hN hN)) (hS (hB hN) hN))))))))))))
theorem b8X{x0 x1:Value}(h:F54 x0 x1 w R E):Cv pG 54 #[x0,x1] w R E:=okF (h:=h54) Tryz.func54 (by kernel_rfl) (by kernel_rfl) h
def b4P(x0 x3 x5 w)(next2:NT)(R:RT)(E):=
 opK pG E (fA 36 x3 3) w fun c d=>
 oP E (lA 34 c) d fun e f=>
 oP E (xBuiltin .len #[34] 3 [false] [e]) f fun g i=>
 oP E (bN .lss 3 65 68 x5 g) i fun a j=>
 oP E (gYs a (xNil (zT a x0))) j fun k l=>
 oP E (gYs a (fA 79 k 0)) l fun m n=>
 oP E (gYs a (lA 4 m)) n fun o p=>
 oP E (xPick a o (vB false)) p fun q b=>
 xcond q
 (oP E (fA 36 x3 3) b fun r s=>
 oP E (lA 34 r) s fun t u=>
 oP E (iA 34 t x5) u fun v y=>
 oP E (lA 36 v) y fun z aa=>
 oP E (xCall (fC 55) [x0,z]) aa fun _t84_93 ab=>
 oP E (bC .add 3 76 x5 (vI 1)) ab fun ac ad=>
 next2 [ac] ad)
 (R (Value.tuple #[]) b)
def b1E(x0 x3 x4 w)(R:RT)(E):=
 ∀_τ:Fr,(oP E (fA 36 x3 2) w fun f g=>
 oP E (lA 9 f) g fun i j=>
 oP E (fA 36 x3 0) j fun k l=>
 oP E (lA 3 k) l fun m n=>
 oP E (bC .eql 3 28 m (vI 2)) n fun d o=>
 oP E (gNo d (fA 36 x3 0)) o fun p q=>
 oP E (gNo d (lA 3 p)) q fun r s=>
 oP E (gNo d (bC .eql 3 32 r (vI 4))) s fun t u=>
 oP E (xPick d (vB true) t) u fun v y=>
 oP E (xCall (fC 31) [x0,i,v]) y fun _t35_21 z=>
 oP E (xNil x0) z fun aa ab=>
 oP E (fA 79 aa 0) ab fun ac ad=>
 oP E (lA 4 ac) ad fun c ae=>
 oP E (gYs c (fA 36 x3 3)) ae fun af ag=>
 oP E (gYs c (lA 34 af)) ag fun ah ai=>
 oP E (gYs c (xBuiltin .len #[34] 3 [false] [ah])) ai fun aj ak=>
 oP E (gYs c (bN .eql 3 44 45 aj (zT c x4))) ak fun al am=>
 oP E (xPick c al (vB false)) am fun a an=>
 oP E (gYs a (fA 36 x3 1)) an fun ao ap=>
 oP E (gYs a (lA 2 ao)) ap fun aq ar=>
 oP E (gYs a (bC .eql 2 50 aq (vI 0))) ar fun b au=>
 oP E (gsem (asB (zT a b)) false (fA 36 x3 0)) au fun av aw=>
 oP E (gsem (asB (zT a b)) false (lA 3 av)) aw fun ax ay=>
 oP E (gsem (asB (zT a b)) false (bC .eql 3 54 ax (vI 1))) ay fun e az=>
 oP E (gsem (asB (gval (asB (zT a b)) false e)) true (fA 36 x3 1)) az fun ba bb=>
 oP E (gsem (asB (gval (asB (zT a b)) false e)) true (lA 2 ba)) bb fun bc bd=>
 oP E (gsem (asB (gval (asB (zT a b)) false e)) true (bC .gtr 2 58 bc (vI 0))) bd fun be bf=>
 oP E (gsem (asB (zT a b)) false (xPick (gval (asB (zT a b)) false e) be (vB false))) bf fun bg bh=>
 oP E (gYs a (xPick (zT a b) (vB true) bg)) bh fun bi bj=>
 oP E (xPick a bi (vB false)) bj fun bk bl=>
 oP E (xNil x0) bl fun bm bn=>
 oP E (fA 79 bm 0) bn fun bo bp=>
 oP E (sA 4 bo bk) bp fun _ bq=>
 xloop [5] [(vI 0)] bq fun br bs next2=>
 b4P x0 x3 (br 5) bs next2 R E)
def b1F(x0 _x3 x4 x18:Value)(w)(j1:NT)(_R:RT)(E):=
 ∀_τ:Fr,(xcond x18
 (j1 [(vI 2)] w)
 (oP E (xNil x0) w fun a b=>
 oP E (fA 79 a 0) b fun c d=>
 oP E (sA 4 c (vB false)) d fun _ e=>
 j1 [x4] e))
def b1G(x0 x3 x4 x7 x15 w)(j1:NT)(R:RT)(E):=
 ∀_τ:Fr,(xcond x15
 (j1 [(vI 1)] w)
 (xcut (fun j k=>b1F x0 x3 x4 (nth j 0) k j1 R E) fun j5=>
 oP E (bC .eql 3 7 x7 (vI 6)) w fun a b=>
 xcond a
 (j5 [a] b)
 (oP E (bC .eql 3 7 x7 (vI 7)) b fun c d=>
 xcond c
 (j5 [c] d)
 (oP E (bC .eql 3 7 x7 (vI 8)) d fun e f=>
 xcond e
 (j5 [e] f)
 (oP E (bC .eql 3 7 x7 (vI 9)) f fun g i=>
 xcond g
 (j5 [g] i)
 (oP E (bC .eql 3 7 x7 (vI 10)) i fun l m=>
 j5 [l] m))))))
def b1H(x0 x3 x4 x7 x11 w)(j1:NT)(R:RT)(E):=
 ∀_τ:Fr,(xcond x11
 (j1 [x4] w)
 (xcut (fun c d=>b1G x0 x3 x4 x7 (nth c 0) d j1 R E) fun j4=>
 oP E (bC .eql 3 7 x7 (vI 4)) w fun a b=>
 xcond a
 (j4 [a] b)
 (oP E (bC .eql 3 7 x7 (vI 5)) b fun e f=>
 j4 [e] f)))
def F55(x0 x1 w)(R:RT)(E):=
 opK pG E (xV (Instr.box 36 x1)) w fun b g=>
 xcut (fun i j=>b1E x0 b (nth i 0) j R E) fun j1=>
 oP E (fA 36 b 0) g fun k l=>
 oP E (lA 3 k) l fun a m=>
 xcut (fun n o=>b1H x0 b (vI 0) a (nth n 0) o j1 R E) fun j3=>
 oP E (bC .eql 3 7 a (vI 1)) m fun c d=>
 xcond c
 (j3 [c] d)
 (oP E (bC .eql 3 7 a (vI 2)) d fun e f=>
 xcond e
 (j3 [e] f)
 (oP E (bC .eql 3 7 a (vI 3)) f fun p q=>
 j3 [p] q))
def h55:Hint:=(sQ (sQ (hU [4] (sQ (hB (hU [11] (sQ (hC hN (sQ (hC hN hN)))) (hC hN (hU [15] (sQ (hC hN hN)) (hC hN (hU [18] (sQ (hC hN (sQ (hC hN (sQ (hC hN (sQ (hC hN hN)))))))) (hC hN hN)))))))) (sQ (sQ (sQ (hB (hL [5] (hS (sQ (hC hN hN)) (hS (hB hN) hN))))))))))
theorem b8Y{x0 x1:Value}(h:F55 x0 x1 w R E):Cv pG 55 #[x0,x1] w R E:=okF (h:=h55) Tryz.func55 (by kernel_rfl) (by kernel_rfl) h
def F56(x0 x1 x2 x3 w)(R:RT)(E):=
 xcond x1
 (oP E (bN .add 9 10 11 x2 x0) w fun a b=>
 oP E (bN .add 9 12 13 a x3) b fun c d=>
 R c d)
 (R x0 w)
def h56:Hint:=(sQ (hS (sQ (hC (sQ hN) hN)) (sQ hN)))
theorem b8Z{x0 x1 x2 x3:Value}(h:F56 x0 x1 x2 x3 w R E):Cv pG 56 #[x0,x1,x2,x3] w R E:=okF (h:=h56) Tryz.func56 (by kernel_rfl) (by kernel_rfl) h
def b1I(x4 x8 w)(R:RT)(E):=
 ∀_τ:Fr,(xcond x8
 (R (vI 2) w)
 (oP E (bC .eql 3 4 x4 (vI 5)) w fun b a=>
 xcond b
 (R (vI 3) a)
 (R (vI 4) a)))
def b1J(x4 x5 w)(R:RT)(E):=
 ∀_τ:Fr,(xcond x5
 (R (vI 1) w)
 (xcut (fun e f=>b1I x4 (nth e 0) f R E) fun j2=>
 oP E (bC .eql 3 4 x4 (vI 8)) w fun a b=>
 xcond a
 (j2 [a] b)
 (oP E (bC .eql 3 4 x4 (vI 9)) b fun c d=>
 xcond c
 (j2 [c] d)
 (oP E (bC .eql 3 4 x4 (vI 10)) d fun g i=>
 j2 [g] i))))
def F57(x0 w)(R:RT)(E):=
 opK pG E (xV (Instr.box 36 x0)) w fun d e=>
 oP E (fA 36 d 0) e fun f g=>
 oP E (lA 3 f) g fun a i=>
 xcut (fun j k=>b1J a (nth j 0) k R E) fun j1=>
 oP E (bC .eql 3 4 a (vI 6)) i fun b c=>
 xcond b
 (j1 [b] c)
 (oP E (bC .eql 3 4 a (vI 7)) c fun l m=>
 j1 [l] m)
def h57:Hint:=(sQ (hS (sQ (hB (hU [5] (sQ (hC hN hN)) (hC (sQ hN) (hU [8] (sQ (hC hN (sQ (hC hN hN)))) (hC (sQ hN) (sQ (hC (sQ hN) hN)))))))) (sQ hN)))
theorem b9a{x0:Value}(h:F57 x0 w R E):Cv pG 57 #[x0] w R E:=okF (h:=h57) Tryz.func57 (by kernel_rfl) (by kernel_rfl) h
def F58(x0 w)(R:RT)(E):=
 opK pG E (xV (Instr.build 132 #[(0,(Value.string ⟨#[60]⟩)),(1,(Value.string ⟨#[60,61]⟩)),(2,(Value.string ⟨#[61,61]⟩)),(3,(Value.string ⟨#[33,61]⟩)),(4,(Value.string ⟨#[62]⟩)),(5,(Value.string ⟨#[62,61]⟩))])) w fun b c=>
 oP E (xV (Instr.alloc 132 true (.tuple #[]))) c fun a d=>
 oP E (sA 132 a b) d fun _ e=>
 oP E (bC .sub 3 5 x0 (vI 1)) e fun f g=>
 oP E (iA 132 a f) g fun i j=>
 oP E (lA 9 i) j fun k l=>
 R k l
def h58:Hint:=(sQ (sQ (sQ hN)))
theorem b9b{x0:Value}(h:F58 x0 w R E):Cv pG 58 #[x0] w R E:=okF (h:=h58) Tryz.func58 (by kernel_rfl) (by kernel_rfl) h
def F59(x0 w)(R:RT)(E):=
 opK pG E (xV (Instr.box 71 x0)) w fun d e=>
 oP E (fA 71 d 0) e fun f g=>
 oP E (lA 3 f) g fun a i=>
 oP E (bC .eql 3 4 a (vI 6)) i fun j b=>
 xcond j
 (R (vI 1) b)
 (oP E (bC .eql 3 4 a (vI 5)) b fun k c=>
 xcond k
 (R (vI 2) c)
 (R (vI 3) c))
def h59:Hint:=(sQ (hS (sQ (hB (sQ (hC (sQ hN) (sQ (hC (sQ hN) hN)))))) (sQ hN)))
theorem b9c{x0:Value}(h:F59 x0 w R E):Cv pG 59 #[x0] w R E:=okF (h:=h59) Tryz.func59 (by kernel_rfl) (by kernel_rfl) h
def b1K(w)(R:RT)(_E:Pan):=
 ∀_τ:Fr,(R (vB true) w)
def b4Q(x1 x2 x3 x9 x10 x11 w)(next2:NT)(j1:NT)(R:RT)(E):=
 opK pG E (bN .lss 3 11 10 x11 x10) w fun i f=>
 xcond i
 (oP E (iA 86 x9 x11) f fun j k=>
 oP E (lA 92 j) k fun g l=>
 dX l fun c=>
 qL pG c (blk x2) (lA 66 x2) fun m=>
 oP E (xCall (fC 61) [m,g,x1]) c fun n b=>
 keepX [] c b (qP pG (xV (Op.unary .not n)) fun a=>
 qP pG (gNo a (bC .add 3 24 (zF a x1) (vI 1))) fun o=>
 qL pG b (blk x3) (gNo a (lA 111 x3)) fun p=>
 oP E (gNo a (xInvoke (zF a g) "gnomon/tree.parts" [])) b fun q d =>
 keepX [(blk x3)] b d (opK pG E (gNo a (xCall p [q,o])) d fun r e=>
 keepX [] d e (qP pG (gNo a (xV (Op.unary .not r))) fun s=>
 qP pG (xPick a (vB true) s) fun t=>
 xcond t
 (R (vB false) e)
 (oP E (bC .add 3 11 x11 (vI 1)) e fun u v=>
 next2 [u] v)))))
 (j1 [] f)
def F60(x0 x1 x2 x3 w)(R:RT)(E):=
 xcut (fun _ a=>b1K a R E) fun j1=>
 oP E (xBuiltin .len #[86] 3 [false] [x0]) w fun b c=>
 xloop [11] [(vI 0)] c fun d e next2=>
 b4Q x1 x2 x3 x0 b (d 11) e next2 j1 R E
def h60:Hint:=(sQ (hU [] (sQ (hB (hL [11] (sQ (hS (hC hN hN) (hS (hB (sQ (hS (.reg [(0,32768,4),(0,65536,256),(0,131072,2),(7,262144,229376),(8,524288,262144),(24,1048576,524288),(32,2097152,1048584),(32,4194304,1048832),(160,8388608,5242880),(32,16777216,1048578),(544,33554432,17825792),(1376,67108864,45088768),(2080,134217728,68157440),(4128,268435456,135266304)] [64,65,65,0,65,65,1,65,64,65,65,0,65,65] (.early 1 (.early 2 (.load 0 (.step 3 (.early 4 (.early 5 (.early 7 (.early 9 (.early 10 (.load 6 (.step 8 (.step 11 (.early 12 (.early 13 .done))))))))))))))) (hC (sQ hN) hN)))) hN)))))) (sQ hN)))
theorem b9d{x0 x1 x2 x3:Value}(h:F60 x0 x1 x2 x3 w R E):Cv pG 60 #[x0,x1,x2,x3] w R E:=okF (h:=h60) Tryz.func60 (by kernel_rfl) (by kernel_rfl) h
def b1L(w)(R:RT)(_E:Pan):=
 ∀_τ:Fr,(R (vB true) w)
def F61(x0 x1 x2 w)(R:RT)(E):=
 opK pG E (xNil x0) w fun j k=>
 oP E (fA 65 j 0) k fun l m=>
 oP E (lA 3 l) m fun n o=>
 oP E (bC .add 3 12 n (vI 1)) o fun p q=>
 oP E (xNil x0) q fun r s=>
 oP E (fA 65 r 0) s fun t u=>
 oP E (sA 3 t p) u fun _ v=>
 oP E (xNil x0) v fun y z=>
 oP E (fA 65 y 0) z fun aa ab=>
 oP E (lA 3 aa) ab fun ac ad=>
 oP E (bC .gtr 3 19 ac (vI 4096)) ad fun ae d=>
 xcond ae
 (oP E (xNil x0) d fun af ag=>
 oP E (fA 65 af 2) ag fun ah ai=>
 oP E (sA 27 ah (vI 33)) ai fun _ aj=>
 R (vB false) aj)
 (oP E (bC .gtr 3 24 x2 (vI 64)) d fun ak e=>
 xcond ak
 (oP E (xNil x0) e fun al am=>
 oP E (fA 65 al 2) am fun an ao=>
 oP E (sA 27 an (vI 32)) ao fun _ ap=>
 R (vB false) ap)
 (oP E (xNil x0) e fun aq ar=>
 oP E (fA 65 aq 1) ar fun au av=>
 oP E (lA 3 au) av fun aw ax=>
 oP E (xBuiltin .max #[3,3] 3 [false,false] [aw,x2]) ax fun ay az=>
 oP E (xNil x0) az fun ba bb=>
 oP E (fA 65 ba 1) bb fun bc bd=>
 oP E (sA 3 bc ay) bd fun _ be=>
 oP E (xNil x0) be fun bf bg=>
 oP E (fA 65 bf 3) bg fun bh bi=>
 oP E (lA 4 bh) bi fun a bj=>
 oP E (gNo a (xInvoke (zF a x1) "gnomon/tree.form" [])) bj fun bk bl =>
 oP E (gNo a (xV (Op.unary .not bk))) bl fun bm bn=>
 oP E (xPick a (vB true) bm) bn fun bo bp=>
 oP E (xNil x0) bp fun bq br=>
 oP E (fA 65 bq 3) br fun bs bt=>
 oP E (sA 4 bs bo) bt fun _ bu=>
 xcut (fun _ bv=>b1L bv R E) fun j1=>
 oP E (xCall (fC 80) [x1]) bu fun f bw=>
 oP E (xT f 0) bw fun c bz=>
 oP E (xT f 1) bz fun ca g=>
 xcond ca
 (oP E (xNil x0) g fun cb cc=>
 oP E (fA 65 cb 4) cc fun cd ce=>
 oP E (lA 4 cd) ce fun b cf=>
 oP E (gNo b (xCall (fC 81) [(zF b c)])) cf fun cg ch=>
 oP E (gNo b (xV (Op.unary .not cg))) ch fun ci cj=>
 oP E (xPick b (vB true) ci) cj fun ck cl=>
 oP E (xNil x0) cl fun cm cn=>
 oP E (fA 65 cm 4) cn fun co cp=>
 oP E (sA 4 co ck) cp fun _ cq=>
 oP E (xNil x0) cq fun cr cs=>
 oP E (fA 65 cr 5) cs fun ct cu=>
 oP E (lA 63 ct) cu fun cv cw=>
 oP E (xCall (fC 82) [cv,c]) cw fun cx cy=>
 oP E (xV (Op.unary .not cx)) cy fun cz i=>
 xcond cz
 (oP E (xNil x0) i fun da db=>
 oP E (fA 65 da 5) db fun dc dd=>
 oP E (lA 63 dc) dd fun de df=>
 oP E (xV (Instr.buildSlice 63 1 #[(0,c)])) df fun dg dh=>
 oP E (xBuiltin .append #[63,63] 63 [false,false] [de,dg]) dh fun di dj=>
 oP E (xNil x0) dj fun dk dl=>
 oP E (fA 65 dk 5) dl fun dm dn=>
 oP E (sA 63 dm di) dn fun _ dp=>
 j1 [] dp)
 (j1 [] i))
 (j1 [] g)))
def h61:Hint:=(sQ (hS (sQ (sQ (hC (sQ (sQ hN)) hN))) (hS (sQ (hC (sQ (sQ hN)) hN)) (sQ (sQ (hU [] (sQ (sQ (hC (sQ (sQ (hC hN hN))) hN))) (sQ hN)))))))
theorem b9e{x0 x1 x2:Value}(h:F61 x0 x1 x2 w R E):Cv pG 61 #[x0,x1,x2] w R E:=okF (h:=h61) Tryz.func61 (by kernel_rfl) (by kernel_rfl) h
def b1M(x0 x1 x3 x4 w)(R:RT)(E):=
 ∀_τ:Fr,(oP E (xCall x4 []) w fun _t16_1 a=>
 xcond x1
 (oP E (xV (Instr.buildSlice 63 1 #[(0,x3)])) a fun b c=>
 oP E (xCall (fC 23) [x0,b]) c fun _t21_5 d=>
 R (Value.tuple #[]) d)
 (R (Value.tuple #[]) a))
def F62(x0 x1 x2 x3 x4 w)(R:RT)(E):=
 xcut (fun _ a=>b1M x0 x1 x3 x4 a R E) fun j1=>
 xcond x1
 (oP E (xV (Instr.buildSlice 63 1 #[(0,x2)])) w fun b c=>
 oP E (xCall (fC 23) [x0,b]) c fun _t14_11 d=>
 j1 [] d)
 (j1 [] w)
def h62:Hint:=(hU [] (sQ (hC hN hN)) (sQ (sQ (hC hN hN))))
theorem b9f{x0 x1 x2 x3 x4:Value}(h:F62 x0 x1 x2 x3 x4 w R E):Cv pG 62 #[x0,x1,x2,x3,x4] w R E:=okF (h:=h62) Tryz.func62 (by kernel_rfl) (by kernel_rfl) h
def F63(x0 x1 w)(R:RT)(E):=
 opK pG E (lA 38 x0) w fun a b=>
 oP E (lA 36 x1) b fun c d=>
 oP E (xCall (fC 19) [a,c]) d fun _t4_5 e=>
 R (Value.tuple #[]) e
def h63:Hint:=hN
theorem b9g{x0 x1:Value}(h:F63 x0 x1 w R E):Cv pG 63 #[x0,x1] w R E:=okF (h:=h63) Tryz.func63 (by kernel_rfl) (by kernel_rfl) h
def b1N(x0 w)(R:RT)(_E:Pan):=
 ∀_τ:Fr,(R x0 w)
def b4R(x0 x1 w)(R:RT)(E):=
 ∀_τ:Fr,(xcut (fun c d=>b1N (nth c 0) d R E) fun j2=>
 oP E (xBuiltin .cap #[86] 3 [false] [x0]) w fun e f=>
 oP E (xBuiltin .len #[86] 3 [false] [x0]) f fun g i=>
 oP E (bN .sub 3 10 12 e g) i fun j k=>
 oP E (bN .sub 3 8 13 x1 j) k fun a l=>
 oP E (bC .gtr 3 15 a (vI 0)) l fun m b=>
 xcond m
 (oP E (xBuiltin .cap #[86] 3 [false] [x0]) b fun n o=>
 oP E (xV (Instr.sliceAt 86 x0 none (some n) none)) o fun p q=>
 oP E (xBuiltin .append #[86,3] 86 [false,false] [p,a]) q fun r s=>
 oP E (xBuiltin .len #[86] 3 [false] [x0]) s fun t u=>
 oP E (xV (Instr.sliceAt 86 r none (some t) none)) u fun v y=>
 j2 [v] y)
 (j2 [x0] b))
def F64(x0 x1 w)(R:RT)(E):=
 xcut (fun _ b=>b4R x0 x1 b R E) fun j1=>
 oP E (bC .lss 3 5 x1 (vI 0)) w fun c a=>
 xcond c
 (oP E (xV (Instr.makeInterface 9 (Value.string ⟨#[99,97,110,110,111,116,32,98,101,32,110,101,103,97,116,105,118,101]⟩))) a fun d e=>
 oP E (xV (Instr.panic d)) e fun _ f=>
 j1 [] f)
 (j1 [] a)
def h64:Hint:=(sQ (hU [] (sQ (hC hN hN)) (hU [0] (sQ (sQ (hC hN hN))) (sQ hN))))
theorem b9h{x0 x1:Value}(h:F64 x0 x1 w R E):Cv pG 64 #[x0,x1] w R E:=okF (h:=h64) Tryz.func64 (by kernel_rfl) (by kernel_rfl) h
def F68(x0 w)(R:RT)(E):=
 opK pG E (xNil x0) w fun b c=>
 oP E (fA 42 b 0) c fun d e=>
 oP E (lA 39 d) e fun f g=>
 oP E (bC .eql 39 5 f (Value.pointer none)) g fun i a=>
 xcond i
 (oP E (xV (convert 39 145 x0)) a fun j k=>
 oP E (xCall (fC 87) [j]) k fun l m=>
 oP E (xV (convert 145 39 l)) m fun n o=>
 oP E (xNil x0) o fun p q=>
 oP E (fA 42 p 0) q fun r s=>
 oP E (sA 39 r n) s fun _ t=>
 R (Value.tuple #[]) t)
 (oP E (xNil x0) a fun u v=>
 oP E (fA 42 u 0) v fun y z=>
 oP E (lA 39 y) z fun aa ab=>
 oP E (bN .neq 39 17 18 aa x0) ab fun ac ad=>
 xcond ac
 (False)
 (R (Value.tuple #[]) ad))
def h68:Hint:=(sQ (hC hN (sQ (hC hN hN))))
theorem b9i{x0:Value}(h:F68 x0 w R E):Cv pG 68 #[x0] w R E:=okF (h:=h68) Tryz.func68 (by kernel_rfl) (by kernel_rfl) h
def b1O(x3 w)(R:RT)(_E:Pan):=
 ∀_τ:Fr,(R x3 w)
def b1P(x3 w)(j1:NT)(_R:RT)(E):=
 ∀_τ:Fr,(oP E (bC .sub 3 11 x3 (vI 1)) w fun a b=>
 j1 [a] b)
def F73(x0 w)(R:RT)(E):=
 xcut (fun c d=>b1O (nth c 0) d R E) fun j1=>
 xcut (fun e f=>b1P (nth e 0) f j1 R E) fun j2=>
 oP E (bC .eql 3 4 x0 (vI 6)) w fun g a=>
 xcond g
 (oP E (bC .sub 3 9 (vI 3) (vI 1)) a fun i j=>
 j2 [i] j)
 (oP E (bC .eql 3 4 x0 (vI 5)) a fun k b=>
 xcond k
 (j2 [(vI 3)] b)
 (j1 [(vI 3)] b))
def h73:Hint:=(sQ (sQ (hU [3] (sQ (hB (hU [3] (hB (hS (hB (hS (hS (sQ (hC hN hN)) (sQ (hC hN hN))) hN)) hN)) (sQ hN)))) (sQ hN))))
theorem b9j{x0:Value}(h:F73 x0 w R E):Cv pG 73 #[x0] w R E:=okF (h:=h73) Tryz.func73 (by kernel_rfl) (by kernel_rfl) h
def F74(x0 x1 x2 w)(R:RT)(E):=
 opK pG E (xV (Instr.box 38 x0)) w fun a g=>
 oP E (xV (Instr.box 71 x1)) g fun d i=>
 dX i fun b=>
 qP pG (fA 71 d 0) fun e=>
 qP pG (xV (Instr.makeFunc (.func 93) #[] #[a,d])) fun j=>
 qL pG b (blk a) (lA 38 a) fun k=>
 qL pG b (blk e) (lA 3 e) fun l=>
 oP E (xCall (fC 73) [l]) b fun m c=>
 keepX [(blk a)] b c (qP pG (bN .lss 3 9 10 m x2) fun n=>
 oP E (xCall (fC 62) [k,n,(Value.string ⟨#[91]⟩),(Value.string ⟨#[93]⟩),j]) c fun _t13_13 f=>
 keepX [] c f (R (Value.tuple #[]) f))
def h74:Hint:=(sQ (.reg [(0,64,8),(0,128,16),(2,256,128),(4,512,256),(0,1024,4),(24,2048,1536),(0,4096,24),(105,8192,6208)] [4,5,1,1,5,5,5,0] (.early 1 (.early 4 (.early 6 (.load 0 (.load 2 (.step 3 (.early 5 (.step 7 .done))))))))))
theorem b9k{x0 x1 x2:Value}(h:F74 x0 x1 x2 w R E):Cv pG 74 #[x0,x1,x2] w R E:=okF (h:=h74) Tryz.func74 (by kernel_rfl) (by kernel_rfl) h
end Go.Proofs.YtnhdnncbjddmjaaGreatDoor
