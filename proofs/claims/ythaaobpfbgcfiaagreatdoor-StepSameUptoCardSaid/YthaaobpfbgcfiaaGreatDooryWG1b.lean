/- The second reading of some of the program's functions, printed by gen2.py off the code; each is held against the code by the kernel. -/
import Derived.KernelRfl
import Derived.Test.YthaaobpfbgcfiaaGreatDooryWGz
namespace Go.Proofs.YthaaobpfbgcfiaaGreatDoor
open Go.RowKit
set_option maxRecDepth 100000
variable {w:World}{R:RT}{E:Pan}
def F54(x0 x1 x2 x3 x4 w)(R:RT)(E):=
 opK pG E (xV (Instr.box 125 x2)) w fun e j=>
 oP E (lA 125 e) j fun k l=>
 oP E (xCall (fC 91) [x0,k]) l fun f m=>
 oP E (xT f 0) m fun n o=>
 oP E (xT f 1) o fun p q=>
 oP E (xV (Instr.alloc 47 true (.tuple #[]))) q fun a r=>
 oP E (sA 47 a n) r fun _ s=>
 oP E (xV (Op.unary .not p)) s fun t g=>
 xcond t
 (oP E (lA 125 e) g fun u v=>
 oP E (xCall (fC 92) [x0,u,x1,x3,x4,(vI 0)]) v fun _t26_19 y=>
 R (Value.tuple #[]) y)
 (oP E (xCall (fC 55) [x3,x4,(vI 2)]) g fun z aa=>
 oP E (xV (Instr.alloc 49 true (.tuple #[]))) aa fun b ab=>
 oP E (sA 49 b z) ab fun _ ac=>
 dX ac fun c=>
 qP pG (fA 49 b 3) fun ad=>
 qL pG c (blk a) (lA 47 a) fun ae=>
 oP E (sA 3 ad x1) c fun _ d=>
 keepX [(blk a)] c d (qP pG (fA 49 b 6) fun af=>
 oP E (sA 47 af ae) d fun _ i=>
 keepX [] d i (opK pG E (lA 49 b) i fun ag ah=>
 oP E (xCall (fC 57) [x0,ag]) ah fun _t36_37 ai=>
 R (Value.tuple #[]) ai)))
def h54:Hint:=(sQ (sQ (hS (sQ (hC (sQ hN) hN)) (sQ (hS (.reg [(0,1073741824,2),(0,2147483648,1024),(1,4294967296,4096),(5,0,5368709120),(15,8589934592,4096),(31,0,10737418240)] [2,0,2,2,2,0] (.early 0 (.early 2 (.load 1 (.step 3 (.early 4 (.step 5 .done))))))) hN)))))
theorem d0G{x0 x1 x2 x3 x4:Value}(h:F54 x0 x1 x2 x3 x4 w R E):Cv pG 54 #[x0,x1,x2,x3,x4] w R E:=okF (h:=h54) Tryz.func54 (by kernel_rfl) (by kernel_rfl) h
def F55(x0 x1 x2 w)(R:RT)(E):=
 opK pG E (xV (Instr.alloc 49 true (.tuple #[]))) w fun a c=>
 oP E (xCall (fC 65) []) c fun d e=>
 oP E (xCall (fC 65) []) e fun f g=>
 oP E (xV (Instr.build 49 #[(0,x0),(1,x1),(2,x2),(3,(vI (-1))),(4,(vI (-1))),(6,d),(7,f)])) g fun i j=>
 oP E (sA 49 a i) j fun _ b=>
 xcell pG 49 a b fun k=>
 R k b
def h55:Hint:=(sQ (sQ hN))
theorem d0H{x0 x1 x2:Value}(h:F55 x0 x1 x2 w R E):Cv pG 55 #[x0,x1,x2] w R E:=okF (h:=h55) Tryz.func55 (by kernel_rfl) (by kernel_rfl) h
def F56(x0 x1 x2 x3 w)(R:RT)(E):=
 opK pG E (xV (Instr.alloc 47 true (.tuple #[]))) w fun a n=>
 oP E (xV (Instr.alloc 47 true (.tuple #[]))) n fun b o=>
 oP E (iA 101 x1 (vI 0)) o fun p q=>
 oP E (lA 125 p) q fun r s=>
 oP E (xCall (fC 93) [x0,r,x2,x3]) s fun k t=>
 oP E (xT k 0) t fun u v=>
 oP E (xT k 1) v fun y z=>
 oP E (sA 47 a u) z fun _ aa=>
 dX aa fun c=>
 qP pG (iA 101 x1 (vI 1)) fun f=>
 qL pG c (blk f) (lA 125 f) fun ab=>
 qL pG c (blk a) (lA 47 a) fun ac=>
 oP E (xCall (fC 94) [x0,ac,x3]) c fun ad g=>
 keepX [(blk f)] c g (opK pG E (xCall (fC 93) [x0,ab,y,ad]) g fun l i=>
 keepX [] g i (qP pG (xT l 0) fun ae=>
 qP pG (xT l 1) fun af=>
 oP E (sA 47 b ae) i fun _ m=>
 keepX [] i m (dX m fun d=>
 qL pG d (blk a) (lA 47 a) fun ag=>
 qL pG d (blk b) (lA 47 b) fun ah=>
 oP E (sA 47 a ag) d fun _ j=>
 keepX [(blk b)] d j (opK pG E (sA 47 b ah) j fun _ e=>
 keepX [] j e (xcell pG 47 a e fun ai=>
 xcell pG 47 b e fun aj=>
 R (Value.tuple #[ai,aj,af]) e)))))
def h56:Hint:=(sQ (sQ (hS (.reg [(0,4194304,1),(0,8388608,2),(2,16777216,8388608),(4,33554432,16777216),(0,67108864,1024),(0,134217728,1),(0,268435456,256),(0,536870912,8),(224,1073741824,939524096),(281,2147483648,1178599424),(512,2097152,2147483648),(1024,4294967296,2097152),(1024,8589934592,2097152),(4095,0,4294967808),(16383,1024,8589934592)] [72,72,72,64,72,72,8,72,8,0,72,72,72,0,72] (.early 0 (.early 1 (.early 2 (.early 4 (.early 5 (.early 7 (.load 3 (.load 6 (.step 8 (.step 9 (.early 10 (.early 11 (.early 12 (.step 13 (.early 14 .done)))))))))))))))) (hS (.reg [(0,17179869184,256),(0,34359738368,512),(0,68719476736,1024),(1,0,17179869440),(11,0,34359738880),(31,1024,68719476736)] [2,1,3,2,0,3] (.early 2 (.load 0 (.load 1 (.step 3 (.step 4 (.early 5 .done))))))) hN))))
theorem d0I{x0 x1 x2 x3:Value}(h:F56 x0 x1 x2 x3 w R E):Cv pG 56 #[x0,x1,x2,x3] w R E:=okF (h:=h56) Tryz.func56 (by kernel_rfl) (by kernel_rfl) h
def F57(x0 x1 w)(R:RT)(E):=
 opK pG E (xV (Instr.box 49 x1)) w fun e g=>
 dX g fun a=>
 qP pG (xNil x0) fun i=>
 qP pG (fA 70 i 0) fun j=>
 qP pG (fA 39 j 5) fun b=>
 qL pG a (blk b) (lA 37 b) fun k=>
 qL pG a (blk e) (lA 49 e) fun l=>
 oP E (xV (Instr.buildSlice 37 1 #[(0,l)])) a fun m c=>
 keepX [(blk b)] a c (opK pG E (xBuiltin .append #[37,37] 37 [false,false] [k,m]) c fun n d=>
 keepX [] c d (qP pG (xNil x0) fun o=>
 qP pG (fA 70 o 0) fun p=>
 qP pG (fA 39 p 5) fun q=>
 oP E (sA 37 q n) d fun _ f=>
 keepX [] d f (R (Value.tuple #[]) f)))
def h57:Hint:=(sQ (.reg [(0,16,1),(0,32,1),(2,64,32),(4,128,64),(8,256,128),(16,512,256),(0,1024,8),(64,2048,1024),(160,4096,2560),(511,8192,16),(1023,16384,8192),(1535,32768,16384),(2559,0,36864)] [96,96,96,96,96,64,32,32,0,96,96,96,0] (.early 0 (.early 1 (.early 2 (.early 3 (.early 4 (.load 5 (.load 6 (.step 7 (.step 8 (.early 9 (.early 10 (.early 11 (.step 12 .done)))))))))))))))
theorem d0J{x0 x1:Value}(h:F57 x0 x1 w R E):Cv pG 57 #[x0,x1] w R E:=okF (h:=h57) Tryz.func57 (by kernel_rfl) (by kernel_rfl) h
def F58(x0 x1 x2 w)(R:RT)(E):=
 opK pG E (xBuiltin .len #[23] 3 [false] [x1]) w fun b c=>
 oP E (bC .eql 3 8 b (vI 0)) c fun d a=>
 xcond d
 (R x2 a)
 (oP E (xCall (fC 14) [x0]) a fun e f=>
 R e f)
def h58:Hint:=(sQ (hS (sQ (hC (sQ hN) hN)) (sQ hN)))
theorem d0K{x0 x1 x2:Value}(h:F58 x0 x1 x2 w R E):Cv pG 58 #[x0,x1,x2] w R E:=okF (h:=h58) Tryz.func58 (by kernel_rfl) (by kernel_rfl) h
def F59(x0 x1 x2 x3 x4 w)(R:RT)(E):=
 opK pG E (xV (Instr.box 122 x1)) w fun a t=>
 oP E (fA 122 a 0) t fun u v=>
 oP E (lA 3 u) v fun c y=>
 oP E (bC .eql 3 17 c (vI 1)) y fun z k=>
 xcond z
 (oP E (xCall (fC 55) [x2,x3,(vI 1)]) k fun aa ab=>
 oP E (xCall (fC 57) [x0,aa]) ab fun _t55_11 ac=>
 R (Value.tuple #[]) ac)
 (oP E (bC .eql 3 17 c (vI 2)) k fun ad l=>
 xcond ad
 (oP E (xCall (fC 55) [x2,x4,(vI 1)]) l fun ae af=>
 oP E (xCall (fC 57) [x0,ae]) af fun _t62_17 ag=>
 R (Value.tuple #[]) ag)
 (oP E (bC .eql 3 17 c (vI 4)) l fun ah m=>
 xcond ah
 (oP E (fA 122 a 3) m fun ai aj=>
 oP E (lA 102 ai) aj fun ak al=>
 oP E (iA 102 ak (vI 0)) al fun am an=>
 oP E (lA 122 am) an fun ao ap=>
 oP E (xCall (fC 59) [x0,ao,x2,x4,x3]) ap fun _t73_29 aq=>
 R (Value.tuple #[]) aq)
 (oP E (bC .eql 3 17 c (vI 5)) m fun ar n=>
 xcond ar
 (oP E (xCall (fC 14) [x0]) n fun o au=>
 oP E (fA 122 a 3) au fun av aw=>
 oP E (lA 102 av) aw fun ax ay=>
 oP E (iA 102 ax (vI 0)) ay fun az ba=>
 oP E (lA 122 az) ba fun bb bc=>
 oP E (xCall (fC 59) [x0,bb,x2,o,x4]) bc fun _t86_43 bd=>
 oP E (fA 122 a 3) bd fun be bf=>
 oP E (lA 102 be) bf fun bg bh=>
 oP E (iA 102 bg (vI 1)) bh fun bi bj=>
 oP E (lA 122 bi) bj fun bk bl=>
 oP E (xCall (fC 59) [x0,bk,o,x3,x4]) bl fun _t95_53 bm=>
 R (Value.tuple #[]) bm)
 (oP E (bC .eql 3 17 c (vI 6)) n fun bn p=>
 xcond bn
 (oP E (xCall (fC 14) [x0]) p fun q bo=>
 oP E (fA 122 a 3) bo fun bp bq=>
 oP E (lA 102 bp) bq fun br bs=>
 oP E (iA 102 br (vI 0)) bs fun bt bu=>
 oP E (lA 122 bt) bu fun bv bw=>
 oP E (xCall (fC 59) [x0,bv,x2,x3,q]) bw fun _t108_67 bz=>
 oP E (fA 122 a 3) bz fun ca cb=>
 oP E (lA 102 ca) cb fun cc cd=>
 oP E (iA 102 cc (vI 1)) cd fun ce cf=>
 oP E (lA 122 ce) cf fun cg ch=>
 oP E (xCall (fC 59) [x0,cg,q,x3,x4]) ch fun _t117_77 ci=>
 R (Value.tuple #[]) ci)
 (oP E (fA 122 a 2) p fun cj ck=>
 oP E (lA 101 cj) ck fun cl cm=>
 oP E (xCall (fC 56) [x0,cl,x2,(vI 0)]) cm fun g cn=>
 oP E (xT g 0) cn fun co cp=>
 oP E (xT g 1) cp fun cq cr=>
 oP E (xT g 2) cr fun cs ct=>
 oP E (xV (Instr.alloc 47 true (.tuple #[]))) ct fun f cu=>
 oP E (xV (Instr.alloc 47 true (.tuple #[]))) cu fun d cv=>
 oP E (sA 47 f co) cv fun _ cw=>
 oP E (sA 47 d cq) cw fun _ cx=>
 oP E (xCall (fC 55) [cs,x3,(vI 12)]) cx fun cy cz=>
 oP E (xV (Instr.alloc 49 true (.tuple #[]))) cz fun b da=>
 oP E (sA 49 b cy) da fun _ db=>
 dX db fun e=>
 qP pG (fA 122 a 1) fun r=>
 qL pG e (blk r) (lA 3 r) fun dc=>
 qP pG (fA 49 b 5) fun dd=>
 qL pG e (blk f) (lA 47 f) fun de=>
 qL pG e (blk d) (lA 47 d) fun df=>
 oP E (sA 3 dd dc) e fun _ i=>
 keepX [(blk d),(blk f)] e i (qP pG (fA 49 b 6) fun dg=>
 oP E (sA 47 dg de) i fun _ j=>
 keepX [(blk d)] i j (qP pG (fA 49 b 7) fun dh=>
 oP E (sA 47 dh df) j fun _ s=>
 keepX [] j s (opK pG E (lA 49 b) s fun di dj=>
 oP E (xCall (fC 57) [x0,di]) dj fun _t39_121 dk=>
 oP E (fA 122 a 1) dk fun dl dm=>
 oP E (lA 3 dl) dm fun dn dp=>
 oP E (xCall (fC 66) [dn]) dp fun dq dr=>
 oP E (fA 49 b 1) dr fun ds dt=>
 oP E (sA 3 ds x4) dt fun _ du=>
 oP E (fA 49 b 5) du fun dv dw=>
 oP E (sA 3 dv dq) dw fun _ dx=>
 oP E (lA 49 b) dx fun dy dz=>
 oP E (xCall (fC 57) [x0,dy]) dz fun _t48_139 ea=>
 R (Value.tuple #[]) ea))))))))
def h59:Hint:=(sQ (sQ (hB (sQ (hC hN (sQ (hC hN (sQ (hC hN (sQ (hC (sQ (sQ hN)) (sQ (hC (sQ (sQ hN)) (sQ (sQ (hS (.reg [(0,1073741824,64),(1,2147483648,1073741824),(0,4294967296,4096),(0,8589934592,8192),(3,17179869184,32768),(19,0,19327352832),(55,34359738368,32768),(119,0,38654705664),(255,68719476736,32768),(511,0,77309411328)] [14,12,10,6,14,12,14,8,14,0] (.early 0 (.load 1 (.early 4 (.load 2 (.load 3 (.step 5 (.early 6 (.step 7 (.early 8 (.step 9 .done))))))))))) (sQ (sQ hN))))))))))))))))))
theorem d0L{x0 x1 x2 x3 x4:Value}(h:F59 x0 x1 x2 x3 x4 w R E):Cv pG 59 #[x0,x1,x2,x3,x4] w R E:=okF (h:=h59) Tryz.func59 (by kernel_rfl) (by kernel_rfl) h
def c3o(x2 x3 w)(R:RT)(E):=
 ∀_τ:Fr,(oP E (lA 139 x3) w fun b c=>
 oP E (sA 139 x2 b) c fun _ a=>
 xcell pG 139 x2 a fun d=>
 R d a)
def c3p(x2 x3 x5 x11 w)(j1:NT)(R:RT)(E):=
 ∀_τ:Fr,(xcond x11
 (oP E (fA 139 x3 0) w fun g i=>
 oP E (sA 4 g (vB true)) i fun _ j=>
 oP E (fA 139 x3 4) j fun k l=>
 oP E (sA 4 k (vB true)) l fun _ m=>
 j1 [] m)
 (oP E (bC .eql 3 5 x5 (vI 9)) w fun n a=>
 xcond n
 (oP E (xV (Instr.build 139 #[(0,(vB true))])) a fun o p=>
 oP E (sA 139 x2 o) p fun _ b=>
 xcell pG 139 x2 b fun q=>
 R q b)
 (oP E (bC .eql 3 5 x5 (vI 10)) a fun r c=>
 xcond r
 (oP E (fA 139 x3 0) c fun s t=>
 oP E (sA 4 s (vB true)) t fun _ u=>
 oP E (fA 139 x3 1) u fun v y=>
 oP E (sA 4 v (vB true)) y fun _ z=>
 j1 [] z)
 (oP E (bC .eql 3 5 x5 (vI 11)) c fun aa d=>
 xcond aa
 (oP E (fA 139 x3 1) d fun ab ac=>
 oP E (sA 4 ab (vB true)) ac fun _ ad=>
 oP E (fA 139 x3 4) ad fun ae af=>
 oP E (sA 4 ae (vB true)) af fun _ ag=>
 j1 [] ag)
 (oP E (bC .eql 3 5 x5 (vI 12)) d fun ah e=>
 xcond ah
 (oP E (fA 139 x3 2) e fun ai aj=>
 oP E (sA 4 ai (vB true)) aj fun _ ak=>
 oP E (fA 139 x3 4) ak fun al am=>
 oP E (sA 4 al (vB true)) am fun _ an=>
 j1 [] an)
 (oP E (xV (Instr.build 139 #[])) e fun ao ap=>
 oP E (sA 139 x2 ao) ap fun _ f=>
 xcell pG 139 x2 f fun aq=>
 R aq f))))))
def c3q(x2 x3 x5 x7 w)(j1:NT)(R:RT)(E):=
 ∀_τ:Fr,(xcond x7
 (oP E (fA 139 x3 0) w fun j k=>
 oP E (sA 4 j (vB true)) k fun _ l=>
 j1 [] l)
 (xcut (fun m n=>c3p x2 x3 x5 (nth m 0) n j1 R E) fun j3=>
 oP E (bC .eql 3 5 x5 (vI 4)) w fun a b=>
 xcond a
 (j3 [a] b)
 (oP E (bC .eql 3 5 x5 (vI 5)) b fun c d=>
 xcond c
 (j3 [c] d)
 (oP E (bC .eql 3 5 x5 (vI 6)) d fun e f=>
 xcond e
 (j3 [e] f)
 (oP E (bC .eql 3 5 x5 (vI 7)) f fun g i=>
 xcond g
 (j3 [g] i)
 (oP E (bC .eql 3 5 x5 (vI 8)) i fun o p=>
 j3 [o] p))))))
def F60(x0 w)(R:RT)(E):=
 opK pG E (xV (Instr.alloc 139 true (.tuple #[]))) w fun b e=>
 oP E (xV (Instr.build 139 #[(3,(vB true))])) e fun f g=>
 oP E (xV (Instr.alloc 139 true (.tuple #[]))) g fun a i=>
 oP E (sA 139 a f) i fun _ j=>
 xcut (fun _ k=>c3o b a k R E) fun j1=>
 xcut (fun l m=>c3q b a x0 (nth l 0) m j1 R E) fun j2=>
 oP E (bC .eql 3 5 x0 (vI 2)) j fun c d=>
 xcond c
 (j2 [c] d)
 (oP E (bC .eql 3 5 x0 (vI 3)) d fun n o=>
 j2 [n] o)
def h60:Hint:=(sQ (sQ (hU [] (sQ (hB (hU [7] (sQ (hC hN hN)) (hC hN (hU [11] (sQ (hC hN (sQ (hC hN (sQ (hC hN (sQ (hC hN hN)))))))) (hC hN (sQ (hC (sQ hN) (sQ (hC hN (sQ (hC hN (sQ (hC hN (sQ hN))))))))))))))) (sQ hN))))
theorem d0M{x0:Value}(h:F60 x0 w R E):Cv pG 60 #[x0] w R E:=okF (h:=h60) Tryz.func60 (by kernel_rfl) (by kernel_rfl) h
def F61(x0 x1 x2 w)(R:RT)(_E:Pan):=
 xcond x0
 (R x1 w)
 (R x2 w)
def h61:Hint:=(sQ (hS (sQ (hC (sQ hN) hN)) (sQ hN)))
theorem d0N{x0 x1 x2:Value}(h:F61 x0 x1 x2 w R E):Cv pG 61 #[x0,x1,x2] w R E:=okF (h:=h61) Tryz.func61 (by kernel_rfl) (by kernel_rfl) h
def F62(x0 x1 w)(R:RT)(E):=
 opK pG E (xV (Instr.box 107 x0)) w fun b c=>
 oP E (bC .geq 3 5 x1 (vI 0)) c fun a d=>
 oP E (gYs a (fA 107 b 0)) d fun e f=>
 oP E (gYs a (fA 39 e 0)) f fun g i=>
 oP E (gYs a (lA 36 g)) i fun j k=>
 oP E (gYs a (xBuiltin .len #[36] 3 [false] [j])) k fun l m=>
 oP E (gYs a (fA 107 b 0)) m fun n o=>
 oP E (gYs a (fA 39 n 1)) o fun p q=>
 oP E (gYs a (lA 3 p)) q fun r s=>
 oP E (gYs a (bN .add 3 12 15 l r)) s fun t u=>
 oP E (gYs a (bN .lss 3 8 16 (gval (asB a) true x1) t)) u fun v y=>
 oP E (xPick a v (vB false)) y fun z aa=>
 R z aa
def h62:Hint:=(sQ (sQ hN))
theorem d0O{x0 x1:Value}(h:F62 x0 x1 w R E):Cv pG 62 #[x0,x1] w R E:=okF (h:=h62) Tryz.func62 (by kernel_rfl) (by kernel_rfl) h
def F63(x0 x1 w)(R:RT)(E):=
 opK pG E (xV (Instr.box 107 x0)) w fun b c=>
 oP E (bC .geq 3 5 x1 (vI 0)) c fun a d=>
 oP E (gYs a (fA 107 b 0)) d fun e f=>
 oP E (gYs a (fA 39 e 2)) f fun g i=>
 oP E (gYs a (lA 22 g)) i fun j k=>
 oP E (gYs a (xBuiltin .len #[22] 3 [false] [j])) k fun l m=>
 oP E (gYs a (bN .lss 3 8 12 (gval (asB a) true x1) l)) m fun n o=>
 oP E (xPick a n (vB false)) o fun p q=>
 R p q
def h63:Hint:=(sQ (sQ hN))
theorem d0P{x0 x1:Value}(h:F63 x0 x1 w R E):Cv pG 63 #[x0,x1] w R E:=okF (h:=h63) Tryz.func63 (by kernel_rfl) (by kernel_rfl) h
def F64(x0 x1 w)(R:RT)(E):=
 opK pG E (xV (Instr.box 107 x0)) w fun d e=>
 oP E (xV (Instr.box 47 x1)) e fun c f=>
 oP E (fA 47 c 0) f fun g i=>
 oP E (lA 3 g) i fun j k=>
 oP E (bC .eql 3 6 j (vI (-1))) k fun a l=>
 oP E (gNo a (lA 107 d)) l fun m n=>
 oP E (gNo a (fA 47 c 0)) n fun o p=>
 oP E (gNo a (lA 3 o)) p fun q r=>
 oP E (gNo a (xCall (fC 62) [m,q])) r fun b s=>
 oP E (gsem (asB (gval (asB a) false b)) true (fA 47 c 1)) s fun t u=>
 oP E (gsem (asB (gval (asB a) false b)) true (lA 2 t)) u fun v y=>
 oP E (gsem (asB (gval (asB a) false b)) true (bC .eql 2 15 v (vI 0))) y fun z aa=>
 oP E (gNo a (xPick (gval (asB a) false b) z (vB false))) aa fun ab ac=>
 oP E (xPick a (vB true) ab) ac fun ad ae=>
 R ad ae
def h64:Hint:=(sQ (sQ hN))
theorem d0Q{x0 x1:Value}(h:F64 x0 x1 w R E):Cv pG 64 #[x0,x1] w R E:=okF (h:=h64) Tryz.func64 (by kernel_rfl) (by kernel_rfl) h
def F65(w)(R:RT)(E):=
 opK pG E (xV (Instr.alloc 47 true (.tuple #[]))) w fun a c=>
 oP E (xV (Instr.build 47 #[(0,(vI (-1)))])) c fun d e=>
 oP E (sA 47 a d) e fun _ b=>
 xcell pG 47 a b fun f=>
 R f b
def h65:Hint:=(sQ (sQ hN))
theorem d0R(h:F65  w R E):Cv pG 65 #[] w R E:=okF (h:=h65) Tryz.func65 (by kernel_rfl) (by kernel_rfl) h
def F66(x0 w)(R:RT)(E):=
 opK pG E (bC .lss 3 3 x0 (vI 1)) w fun a c=>
 oP E (gNo a (bC .gtr 3 6 (gval (asB a) false x0) (vI 6))) c fun d e=>
 oP E (xPick a (vB true) d) e fun f b=>
 xcond f
 (R (vI 0) b)
 (oP E (xV (Instr.build 176 #[(0,(vI 0)),(1,(vI 6)),(2,(vI 5)),(3,(vI 4)),(4,(vI 3)),(5,(vI 2)),(6,(vI 1))])) b fun g i=>
 oP E (xV (Instr.index 176 g x0)) i fun j k=>
 R j k)
def h66:Hint:=(sQ (hS (sQ (hC (sQ hN) hN)) (sQ hN)))
theorem d0S{x0:Value}(h:F66 x0 w R E):Cv pG 66 #[x0] w R E:=okF (h:=h66) Tryz.func66 (by kernel_rfl) (by kernel_rfl) h
def b0j(x8 w)(R:RT)(_E:Pan):=
 ∀_τ:Fr,(R x8 w)
def F67(x0 x1 x2 w)(R:RT)(E):=
 opK pG E (xV (Instr.box 49 x1)) w fun c p=>
 dX p fun a=>
 qP pG (fA 49 c 6) fun g=>
 qP pG (fA 49 c 7) fun d=>
 qL pG a (blk g) (lA 47 g) fun q=>
 qL pG a (blk d) (lA 47 d) fun r=>
 oP E (xCall (fC 45) [x0,q]) a fun s e=>
 keepX [(blk d)] a e (opK pG E (xCall (fC 45) [x0,r]) e fun t f=>
 keepX [] e f (opK pG E (xCall x2 [s,t]) f fun i j=>
 keepX [] f j (qP pG (xT i 0) fun u=>
 qP pG (xT i 1) fun k=>
 xcut (fun _ v=>b0j k v R E) fun j1=>
 oP E (bC .eql 3 22 k (vI 0)) j fun y l=>
 xcond y
 (dX l fun b=>
 qP pG (xNil x0) fun z=>
 qP pG (fA 78 z 3) fun m=>
 qP pG (fA 49 c 3) fun n=>
 qL pG b (blk m) (lA 26 m) fun aa=>
 qL pG b (blk n) (lA 3 n) fun ab=>
 qP pG (iA 26 aa ab) fun ac=>
 oP E (sA 2 ac u) b fun _ o=>
 keepX [] b o (j1 [] o))
 (j1 [] l))))
def h67:Hint:=(sQ (hS (.reg [(0,1024,4),(0,2048,1),(0,4096,16),(4,8192,4096),(10,16384,10240),(0,32768,1),(0,65536,16),(64,131072,65536),(176,262144,163840),(273,524288,279552),(512,512,524288),(1024,1048576,512),(1024,2097152,512),(4095,128,1048576),(16383,256,2097152)] [136,136,136,128,128,136,136,8,0,0,136,136,136,136,136] (.early 0 (.early 1 (.early 2 (.early 5 (.early 6 (.load 3 (.load 7 (.step 4 (.step 8 (.step 9 (.early 10 (.early 11 (.early 12 (.early 13 (.early 14 .done)))))))))))))))) (hU [] (sQ (hC (.reg [(0,16777216,1),(1,33554432,16777216),(2,67108864,33554432),(4,134217728,67108864),(0,268435456,16),(16,536870912,268435456),(0,1073741824,128),(127,2147483648,671088640),(255,0,3221225472)] [40,40,40,32,40,8,40,40,0] (.early 0 (.early 1 (.early 2 (.early 4 (.early 6 (.load 3 (.load 5 (.early 7 (.step 8 .done)))))))))) hN)) (sQ hN))))
theorem b1G{x0 x1 x2:Value}(h:F67 x0 x1 x2 w R E):Cv pG 67 #[x0,x1,x2] w R E:=okF (h:=h67) Tryz.func67 (by kernel_rfl) (by kernel_rfl) h
def F68(x0 _x1:Value)(w)(R:RT)(E):=
 opK pG E (xCall (fC 69) [x0]) w fun a b=>
 oP E (xT a 0) b fun c d=>
 oP E (xT a 1) d fun e f=>
 R (Value.tuple #[c,e]) f
def h68:Hint:=(sQ (sQ hN))
theorem d0T{x0 x1:Value}(h:F68 x0 x1 w R E):Cv pG 68 #[x0,x1] w R E:=okF (h:=h68) Tryz.func68 (by kernel_rfl) (by kernel_rfl) h
def F69(x0 w)(R:RT)(E):=
 opK pG E (xCall (fC 71) [(vI 0),x0]) w fun a b=>
 oP E (xT a 0) b fun c d=>
 oP E (xT a 1) d fun e f=>
 R (Value.tuple #[c,e]) f
def h69:Hint:=(sQ (sQ hN))
theorem d0U{x0:Value}(h:F69 x0 w R E):Cv pG 69 #[x0] w R E:=okF (h:=h69) Tryz.func69 (by kernel_rfl) (by kernel_rfl) h
def F70(x0 x1 w)(R:RT)(E):=
 opK pG E (bN .add 2 7 8 x0 x1) w fun b d=>
 oP E (bC .lss 2 10 x0 (vI 0)) d fun e f=>
 oP E (bC .lss 2 12 x1 (vI 0)) f fun g i=>
 oP E (bN .eql 4 11 13 e g) i fun a j=>
 oP E (gYs a (bC .lss 2 16 (gval (asB a) true b) (vI 0))) j fun k l=>
 oP E (gYs a (bC .lss 2 18 (gval (asB a) true x0) (vI 0))) l fun m n=>
 oP E (gYs a (bN .neq 4 17 19 k m)) n fun o p=>
 oP E (xPick a o (vB false)) p fun q c=>
 xcond q
 (R (Value.tuple #[(vI 0),(vI 1)]) c)
 (R (Value.tuple #[b,(vI 0)]) c)
def h70:Hint:=(sQ (sQ (hS (sQ (hC (sQ hN) hN)) (sQ hN))))
theorem d0V{x0 x1:Value}(h:F70 x0 x1 w R E):Cv pG 70 #[x0,x1] w R E:=okF (h:=h70) Tryz.func70 (by kernel_rfl) (by kernel_rfl) h
def F71(x0 x1 w)(R:RT)(E):=
 opK pG E (bN .sub 2 7 8 x0 x1) w fun b d=>
 oP E (bC .lss 2 10 x0 (vI 0)) d fun e f=>
 oP E (bC .lss 2 12 x1 (vI 0)) f fun g i=>
 oP E (bN .neq 4 11 13 e g) i fun a j=>
 oP E (gYs a (bC .lss 2 16 (gval (asB a) true b) (vI 0))) j fun k l=>
 oP E (gYs a (bC .lss 2 18 (gval (asB a) true x0) (vI 0))) l fun m n=>
 oP E (gYs a (bN .neq 4 17 19 k m)) n fun o p=>
 oP E (xPick a o (vB false)) p fun q c=>
 xcond q
 (R (Value.tuple #[(vI 0),(vI 1)]) c)
 (R (Value.tuple #[b,(vI 0)]) c)
def h71:Hint:=(sQ (sQ (hS (sQ (hC (sQ hN) hN)) (sQ hN))))
theorem d0W{x0 x1:Value}(h:F71 x0 x1 w R E):Cv pG 71 #[x0,x1] w R E:=okF (h:=h71) Tryz.func71 (by kernel_rfl) (by kernel_rfl) h
def c3r(x0 x1 x6 x7 x8 w)(R:RT)(E):=
 ∀_τ:Fr,(oP E (bC .neq 177 24 x6 (Value.int .u64 0)) w fun a c=>
 oP E (gNo a (bN .gtr 177 27 28 (gval (asB a) false x7) (gval (asB a) false x8))) c fun d e=>
 oP E (xPick a (vB true) d) e fun f b=>
 xcond f
 (R (Value.tuple #[(vI 0),(vI 1)]) b)
 (oP E (bN .mul 2 31 32 x0 x1) b fun g i=>
 R (Value.tuple #[g,(vI 0)]) i))
def F72(x0 x1 w)(R:RT)(E):=
 opK pG E (xCall (fC 96) [x0]) w fun c d=>
 oP E (xCall (fC 96) [x1]) d fun e f=>
 oP E (xCall (fC 95) [c,e]) f fun a g=>
 oP E (xT a 0) g fun i j=>
 oP E (xT a 1) j fun k l=>
 xcut (fun m n=>c3r x0 x1 i k (nth m 0) n R E) fun j1=>
 oP E (bC .lss 2 17 x0 (vI 0)) l fun o p=>
 oP E (bC .lss 2 19 x1 (vI 0)) p fun q r=>
 oP E (bN .neq 4 18 20 o q) r fun s b=>
 xcond s
 (oP E (bC .add 177 22 (Value.int .u64 9223372036854775807) (Value.int .u64 1)) b fun t u=>
 j1 [t] u)
 (j1 [(Value.int .u64 9223372036854775807)] b)
def h72:Hint:=(sQ (sQ (sQ (hU [8] (sQ (hC hN hN)) (hS (sQ (hC (sQ hN) hN)) (sQ hN))))))
theorem d0X{x0 x1:Value}(h:F72 x0 x1 w R E):Cv pG 72 #[x0,x1] w R E:=okF (h:=h72) Tryz.func72 (by kernel_rfl) (by kernel_rfl) h
def F73(x0 x1 w)(R:RT)(E):=
 opK pG E (xCall (fC 97) [x0,x1]) w fun a c=>
 oP E (bC .neq 3 10 a (vI 0)) c fun d b=>
 xcond d
 (R (Value.tuple #[(vI 0),a]) b)
 (oP E (bN .quo 2 13 14 x0 x1) b fun e f=>
 R (Value.tuple #[e,(vI 0)]) f)
def h73:Hint:=(sQ (hS (sQ (sQ (hC (sQ hN) hN))) (sQ hN)))
theorem d0Y{x0 x1:Value}(h:F73 x0 x1 w R E):Cv pG 73 #[x0,x1] w R E:=okF (h:=h73) Tryz.func73 (by kernel_rfl) (by kernel_rfl) h
def F74(x0 x1 w)(R:RT)(E):=
 opK pG E (xCall (fC 97) [x0,x1]) w fun a c=>
 oP E (bC .neq 3 10 a (vI 0)) c fun d b=>
 xcond d
 (R (Value.tuple #[(vI 0),a]) b)
 (oP E (bN .rem 2 13 14 x0 x1) b fun e f=>
 R (Value.tuple #[e,(vI 0)]) f)
def h74:Hint:=(sQ (hS (sQ (sQ (hC (sQ hN) hN))) (sQ hN)))
theorem d0Z{x0 x1:Value}(h:F74 x0 x1 w R E):Cv pG 74 #[x0,x1] w R E:=okF (h:=h74) Tryz.func74 (by kernel_rfl) (by kernel_rfl) h
def F75(x0 x1 w)(R:RT)(E):=
 opK pG E (xV (Instr.box 49 x1)) w fun g m=>
 dX m fun a=>
 qP pG (fA 49 g 6) fun i=>
 qP pG (xNil x0) fun n=>
 qP pG (fA 78 n 4) fun c=>
 qP pG (fA 49 g 4) fun d=>
 qL pG a (blk i) (lA 47 i) fun o=>
 qL pG a (blk c) (lA 30 c) fun p=>
 qL pG a (blk d) (lA 3 d) fun q=>
 qP pG (iA 30 p q) fun e=>
 qL pG a (blk e) (lA 26 e) fun j=>
 oP E (xCall (fC 45) [x0,o]) a fun f k=>
 keepX [(blk e),(blk d),(blk c)] a k (opK pG E (bC .lss 2 19 f (vI 0)) k fun b r=>
 oP E (gNo b (xBuiltin .len #[26] 3 [false] [(gval (asB b) false j)])) r fun s t=>
 oP E (gNo b (bN .geq 2 22 24 (gval (asB b) false f) s)) t fun u v=>
 oP E (xPick b (vB true) u) v fun y l=>
 xcond y
 (R (Value.pointer none) l)
 (oP E (iA 26 j f) l fun z aa=>
 R z aa))
def h75:Hint:=(sQ (hS (.reg [(0,128,1),(0,256,8),(2,512,256),(5,1024,640),(0,2048,1),(16,4096,2048),(32,8192,4096),(64,16384,8192),(0,32768,8),(256,65536,32768),(640,131072,81920),(1024,262144,131072),(15,32,1024),(8191,64,262144)] [2692,2692,2688,2688,2692,2692,2692,2564,2692,2180,2692,644,2692,2692] (.early 0 (.early 1 (.early 4 (.early 5 (.early 6 (.early 8 (.load 2 (.load 7 (.load 9 (.early 10 (.load 11 (.step 3 (.early 12 (.early 13 .done))))))))))))))) (hS (sQ (hC (sQ hN) hN)) (sQ hN))))
theorem c3s{x0 x1:Value}(h:F75 x0 x1 w R E):Cv pG 75 #[x0,x1] w R E:=okF (h:=h75) Tryz.func75 (by kernel_rfl) (by kernel_rfl) h
def F76(w)(R:RT)(E):=
 opK pG E (xV (Instr.alloc 151 true (.tuple #[]))) w fun a c=>
 oP E (xV (Instr.build 151 #[(0,(fC 98)),(1,(fC 99)),(2,(fC 100)),(3,(fC 101)),(4,(fC 102)),(5,(fC 103)),(6,(fC 104))])) c fun d e=>
 oP E (sA 151 a d) e fun _ b=>
 xcell pG 151 a b fun f=>
 R f b
def h76:Hint:=(sQ (sQ hN))
theorem d1a(h:F76  w R E):Cv pG 76 #[] w R E:=okF (h:=h76) Tryz.func76 (by kernel_rfl) (by kernel_rfl) h
def c3t(x3 w)(R:RT)(E):=
 ∀_τ:Fr,(oP E (lA 117 x3) w fun a b=>
 R a b)
def F77(x0 w)(R:RT)(E):=
 opK pG E (xV (Instr.build 116 #[])) w fun f g=>
 oP E (xV (Instr.box 116 f)) g fun i j=>
 oP E (xV (Instr.alloc 117 true (.tuple #[]))) j fun a k=>
 oP E (sA 117 a i) k fun _ l=>
 oP E (xV (Instr.alloc 182 true (.tuple #[]))) l fun b m=>
 oP E (xV (Instr.makeFunc (.func 105) #[] #[a,b])) m fun n o=>
 oP E (sA 182 b n) o fun _ p=>
 xcut (fun _ q=>c3t a q R E) fun j1=>
 oP E (lA 182 b) p fun r s=>
 oP E (xCall r [x0,(vI 1)]) s fun t u=>
 oP E (xV (Op.unary .not t)) u fun v c=>
 xcond v
 (j1 [] c)
 (oP E (lA 117 a) c fun y z=>
 oP E (xNil y) z fun aa ab=>
 oP E (fA 116 aa 3) ab fun ac ad=>
 oP E (lA 4 ac) ad fun ae d=>
 xcond ae
 (oP E (lA 117 a) d fun af ag=>
 oP E (xNil af) ag fun ah ai=>
 oP E (fA 116 ah 2) ai fun aj ak=>
 oP E (sA 33 aj (vI 30)) ak fun _ al=>
 j1 [] al)
 (oP E (lA 117 a) d fun am an=>
 oP E (xNil am) an fun ao ap=>
 oP E (fA 116 ao 4) ap fun aq ar=>
 oP E (lA 4 aq) ar fun au e=>
 xcond au
 (oP E (lA 117 a) e fun av aw=>
 oP E (xNil av) aw fun ax ay=>
 oP E (fA 116 ax 2) ay fun az ba=>
 oP E (sA 33 az (vI 31)) ba fun _ bb=>
 j1 [] bb)
 (j1 [] e)))
def h77:Hint:=(sQ (sQ (sQ (sQ (hU [] (sQ (hB (sQ (hC hN (sQ (hC hN (sQ (hC hN hN)))))))) (sQ hN))))))
theorem d1b{x0:Value}(h:F77 x0 w R E):Cv pG 77 #[x0] w R E:=okF (h:=h77) Tryz.func77 (by kernel_rfl) (by kernel_rfl) h
def c3u(x6 w)(R:RT)(_E:Pan):=
 ∀_τ:Fr,(R x6 w)
def d1c(x6 x25 x26 x27 w)(next3:NT)(j2:NT)(_R:RT)(E):=
 opK pG E (bN .lss 3 27 26 x27 x26) w fun b a=>
 xcond b
 (oP E (iA 185 x25 x27) a fun c d=>
 oP E (lA 154 c) d fun e f=>
 oP E (xBuiltin .append #[154,154] 154 [false,false] [x6,e]) f fun g i=>
 oP E (bC .add 3 27 x27 (vI 1)) i fun j k=>
 next3 [g,j] k)
 (j2 [x6] a)
def c3v(x0 x3 w)(R:RT)(E):=
 ∀_τ:Fr,(oP E (xCall (fC 107) [(nS),x3]) w fun b c=>
 xcut (fun d e=>c3u (nth d 0) e R E) fun j2=>
 oP E (xBuiltin .len #[185] 3 [false] [x0]) c fun f g=>
 xloop [6,27] [b,(vI 0)] g fun a i next3=>
 d1c (a 6) x0 f (a 27) i next3 j2 R E)
def c3w(_x0 x3 _x9 _x10 x11:Value)(w)(next4:NT)(_R:RT)(E):=
 ∀_τ:Fr,(oP E (bC .add 3 11 x11 (vI 1)) w fun a b=>
 next4 [x3,a] b)
def d1d(x0 x3 x9 x10 x11 w)(next4:NT)(j1:NT)(R:RT)(E):=
 opK pG E (bN .lss 3 11 10 x11 x10) w fun d b=>
 xcond d
 (xcut (fun e f=>c3w x0 (nth e 0) x9 x10 x11 f next4 R E) fun j5=>
 oP E (iA 185 x9 x11) b fun g i=>
 oP E (lA 154 g) i fun j k=>
 oP E (xBuiltin .len #[154] 3 [false] [j]) k fun l m=>
 oP E (bN .add 3 15 17 x3 l) m fun a n=>
 oP E (bC .lss 3 19 a (vI 0)) n fun o c=>
 xcond o
 (oP E (xV (Instr.makeInterface 9 (Value.string ⟨#[108,101,110,32,111,117,116,32,111,102,32,114,97,110,103,101]⟩))) c fun p q=>
 oP E (xV (Instr.panic p)) q fun _ r=>
 j5 [a] r)
 (j5 [a] c))
 (j1 [x3] b)
def F78(x0 w)(R:RT)(E):=
 xcut (fun b c=>c3v x0 (nth b 0) c R E) fun j1=>
 oP E (xBuiltin .len #[185] 3 [false] [x0]) w fun d e=>
 xloop [3,11] [(vI 0),(vI 0)] e fun a f next4=>
 d1d x0 (a 3) x0 d (a 11) f next4 j1 R E
def h78:Hint:=(sQ (sQ (hU [3] (sQ (hB (hL [3,11] (sQ (hS (hC hN hN) (hU [3] (hB (sQ (sQ (sQ (hC hN hN))))) hN)))))) (sQ (hU [6] (sQ (hB (hL [6,27] (sQ (hS (hC hN hN) (hS (hB (sQ hN)) hN)))))) (sQ hN))))))
theorem d1e{x0:Value}(h:F78 x0 w R E):Cv pG 78 #[x0] w R E:=okF (h:=h78) Tryz.func78 (by kernel_rfl) (by kernel_rfl) h
def c3x(x5 w)(R:RT)(_E:Pan):=
 ∀_τ:Fr,(R x5 w)
def d1f(x1 x5 x8 x9 x10 w)(next2:NT)(j1:NT)(_R:RT)(E):=
 opK pG E (bN .lss 3 10 9 x10 x9) w fun c a=>
 xcond c
 (oP E (iA 22 x8 x10) a fun d e=>
 oP E (lA 58 d) e fun f g=>
 oP E (xV (Instr.alloc 58 true (.tuple #[]))) g fun b i=>
 oP E (sA 58 b f) i fun _ j=>
 oP E (lA 58 b) j fun k l=>
 oP E (xCall x1 [k]) l fun m n=>
 oP E (xV (Instr.buildSlice 154 1 #[(0,m)])) n fun o p=>
 oP E (xBuiltin .append #[154,154] 154 [false,false] [x5,o]) p fun q r=>
 oP E (bC .add 3 10 x10 (vI 1)) r fun s t=>
 next2 [q,s] t)
 (j1 [x5] a)
def F79(x0 x1 w)(R:RT)(E):=
 xcut (fun b c=>c3x (nth b 0) c R E) fun j1=>
 oP E (xBuiltin .len #[22] 3 [false] [x0]) w fun d e=>
 xloop [5,10] [(nS),(vI 0)] e fun a f next2=>
 d1f x1 (a 5) x0 d (a 10) f next2 j1 R E
def h79:Hint:=(sQ (sQ (hU [5] (sQ (hB (hL [5,10] (sQ (hS (hC hN hN) (hS (hB (sQ hN)) hN)))))) (sQ hN))))
theorem d1g{x0 x1:Value}(h:F79 x0 x1 w R E):Cv pG 79 #[x0,x1] w R E:=okF (h:=h79) Tryz.func79 (by kernel_rfl) (by kernel_rfl) h
def F80(x0 w)(R:RT)(E):=
 opK pG E (xV (Instr.box 58 x0)) w fun a b=>
 oP E (lA 58 a) b fun c d=>
 oP E (xV (Instr.build 188 #[(0,c)])) d fun e f=>
 oP E (xV (Instr.makeInterface 188 e)) f fun g i=>
 R g i
def h80:Hint:=(sQ (sQ hN))
theorem d1h{x0:Value}(h:F80 x0 w R E):Cv pG 80 #[x0] w R E:=okF (h:=h80) Tryz.func80 (by kernel_rfl) (by kernel_rfl) h
def c3y(x5 w)(R:RT)(_E:Pan):=
 ∀_τ:Fr,(R x5 w)
def d1i(x1 x5 x8 x9 x10 w)(next2:NT)(j1:NT)(_R:RT)(E):=
 opK pG E (bN .lss 3 10 9 x10 x9) w fun c a=>
 xcond c
 (oP E (iA 23 x8 x10) a fun d e=>
 oP E (lA 104 d) e fun f g=>
 oP E (xV (Instr.alloc 104 true (.tuple #[]))) g fun b i=>
 oP E (sA 104 b f) i fun _ j=>
 oP E (lA 104 b) j fun k l=>
 oP E (xCall x1 [k]) l fun m n=>
 oP E (xV (Instr.buildSlice 154 1 #[(0,m)])) n fun o p=>
 oP E (xBuiltin .append #[154,154] 154 [false,false] [x5,o]) p fun q r=>
 oP E (bC .add 3 10 x10 (vI 1)) r fun s t=>
 next2 [q,s] t)
 (j1 [x5] a)
def F81(x0 x1 w)(R:RT)(E):=
 xcut (fun b c=>c3y (nth b 0) c R E) fun j1=>
 oP E (xBuiltin .len #[23] 3 [false] [x0]) w fun d e=>
 xloop [5,10] [(nS),(vI 0)] e fun a f next2=>
 d1i x1 (a 5) x0 d (a 10) f next2 j1 R E
def h81:Hint:=(sQ (sQ (hU [5] (sQ (hB (hL [5,10] (sQ (hS (hC hN hN) (hS (hB (sQ hN)) hN)))))) (sQ hN))))
theorem d1j{x0 x1:Value}(h:F81 x0 x1 w R E):Cv pG 81 #[x0,x1] w R E:=okF (h:=h81) Tryz.func81 (by kernel_rfl) (by kernel_rfl) h
def F82(x0 w)(R:RT)(E):=
 opK pG E (xV (Instr.box 104 x0)) w fun a b=>
 oP E (lA 104 a) b fun c d=>
 oP E (xV (Instr.build 190 #[(0,c)])) d fun e f=>
 oP E (xV (Instr.makeInterface 190 e)) f fun g i=>
 R g i
def h82:Hint:=(sQ (sQ hN))
theorem d1k{x0:Value}(h:F82 x0 w R E):Cv pG 82 #[x0] w R E:=okF (h:=h82) Tryz.func82 (by kernel_rfl) (by kernel_rfl) h
def F83(x0 x1 w)(R:RT)(E):=
 opK pG E (xV (Instr.box 125 x1)) w fun b j=>
 oP E (fA 125 b 0) j fun k l=>
 oP E (lA 3 k) l fun m n=>
 oP E (bC .eql 3 7 m (vI 2)) n fun o c=>
 xcond o
 (dX c fun a=>
 qP pG (xNil x0) fun p=>
 qP pG (fA 56 p 4) fun d=>
 qP pG (fA 125 b 2) fun e=>
 qL pG a (blk d) (lA 53 d) fun f=>
 qL pG a (blk e) (lA 9 e) fun q=>
 qL pG a (blk f) (xV (Instr.lookup 53 f q false)) fun r=>
 qP pG (xNil r) fun g=>
 qL pG a (blk g) (lA 2 g) fun s=>
 R (Value.tuple #[s,(vB true)]) a)
 (oP E (lA 125 b) c fun t u=>
 oP E (xCall (fC 108) [t]) u fun i v=>
 oP E (xT i 0) v fun y z=>
 oP E (xT i 1) z fun aa ab=>
 R (Value.tuple #[y,aa]) ab)
def h83:Hint:=(sQ (hS (sQ (hC (hS (.reg [(0,512,1),(1,1024,512),(2,2048,1024),(4,4096,2048),(0,8192,8),(16,16384,8192),(40,32768,20480),(64,65536,32768),(128,131072,65536),(511,16,131072),(1023,32,0)] [360,360,360,352,360,328,296,360,104,360,360] (.early 0 (.early 1 (.early 2 (.early 4 (.load 3 (.load 5 (.load 6 (.early 7 (.load 8 (.early 9 (.early 10 .done)))))))))))) hN) hN)) (sQ hN)))
theorem d1l{x0 x1:Value}(h:F83 x0 x1 w R E):Cv pG 83 #[x0,x1] w R E:=okF (h:=h83) Tryz.func83 (by kernel_rfl) (by kernel_rfl) h
def c3z(x0 w)(R:RT)(E):=
 ∀_τ:Fr,(oP E (xNil x0) w fun a b=>
 oP E (fA 56 a 0) b fun c d=>
 oP E (lA 3 c) d fun e f=>
 oP E (bC .sub 3 12 e (vI 1)) f fun g i=>
 oP E (xNil x0) i fun j k=>
 oP E (fA 56 j 0) k fun l m=>
 oP E (sA 3 l g) m fun _ n=>
 oP E (xNil x0) n fun o p=>
 oP E (fA 56 o 1) p fun q r=>
 oP E (lA 3 q) r fun s t=>
 oP E (bC .add 3 19 s (vI 1)) t fun u v=>
 oP E (xNil x0) v fun y z=>
 oP E (fA 56 y 1) z fun aa ab=>
 oP E (sA 3 aa u) ab fun _ ac=>
 R (Value.tuple #[]) ac)
def F84(x0 w)(R:RT)(E):=
 xcut (fun _ b=>c3z x0 b R E) fun j1=>
 oP E (xNil x0) w fun c d=>
 oP E (fA 56 c 0) d fun e f=>
 oP E (lA 3 e) f fun g i=>
 oP E (bC .eql 3 5 g (vI 0)) i fun j a=>
 xcond j
 (oP E (xCall (fC 88) [x0,(vI 1),(vI 0)]) a fun _t8_39 k=>
 j1 [] k)
 (j1 [] a)
def h84:Hint:=(hU [] (sQ (hC hN hN)) (sQ hN))
theorem d1m{x0:Value}(h:F84 x0 w R E):Cv pG 84 #[x0] w R E:=okF (h:=h84) Tryz.func84 (by kernel_rfl) (by kernel_rfl) h
def b8L(x0 x3 x7 w)(R:RT)(E):=
 ∀_τ:Fr,(oP E (fA 125 x3 0) w fun ay az=>
 oP E (lA 3 ay) az fun o ba=>
 oP E (bC .eql 3 33 o (vI 3)) ba fun bb p=>
 xcond bb
 (oP E (xCall (fC 109) [x0]) p fun bc bd=>
 R bc bd)
 (oP E (bC .eql 3 33 o (vI 4)) p fun be q=>
 xcond be
 (dX q fun b=>
 qP pG (fA 125 x3 2) fun r=>
 qP pG (iA 26 x7 (vI 0)) fun s=>
 qL pG b (blk r) (lA 9 r) fun bf=>
 qL pG b (blk s) (lA 2 s) fun bg=>
 oP E (xCall (fC 86) [x0,bf,bg]) b fun bh i=>
 keepX [] b i (qP pG (xNil bh) fun t=>
 qL pG i (blk t) (lA 2 t) fun bi=>
 R bi i))
 (oP E (xCall (fC 84) [x0]) q fun _t50_30 bj=>
 oP E (fA 125 x3 0) bj fun bk bl=>
 oP E (lA 3 bk) bl fun a bm=>
 oP E (bC .eql 3 52 a (vI 5)) bm fun bn u=>
 xcond bn
 (oP E (iA 26 x7 (vI 0)) u fun bo bp=>
 oP E (lA 2 bo) bp fun bq br=>
 oP E (xCall (fC 69) [bq]) br fun v bs=>
 oP E (xT v 0) bs fun bt bu=>
 oP E (xT v 1) bu fun bv bw=>
 oP E (xCall (fC 110) [x0,bt,bv]) bw fun bz ca=>
 R bz ca)
 (oP E (bC .eql 3 52 a (vI 6)) u fun cb y=>
 xcond cb
 (dX y fun c=>
 qP pG (iA 26 x7 (vI 0)) fun z=>
 qP pG (iA 26 x7 (vI 1)) fun aa=>
 qL pG c (blk z) (lA 2 z) fun cc=>
 qL pG c (blk aa) (lA 2 aa) fun cd=>
 oP E (xCall (fC 70) [cc,cd]) c fun ab j=>
 keepX [] c j (qP pG (xT ab 0) fun ce=>
 qP pG (xT ab 1) fun cf=>
 oP E (xCall (fC 110) [x0,ce,cf]) j fun cg ac=>
 keepX [] j ac (R cg ac)))
 (oP E (bC .eql 3 52 a (vI 7)) y fun ch ad=>
 xcond ch
 (dX ad fun d=>
 qP pG (iA 26 x7 (vI 0)) fun ae=>
 qP pG (iA 26 x7 (vI 1)) fun af=>
 qL pG d (blk ae) (lA 2 ae) fun ci=>
 qL pG d (blk af) (lA 2 af) fun cj=>
 oP E (xCall (fC 71) [ci,cj]) d fun ag k=>
 keepX [] d k (qP pG (xT ag 0) fun ck=>
 qP pG (xT ag 1) fun cl=>
 oP E (xCall (fC 110) [x0,ck,cl]) k fun cm ah=>
 keepX [] k ah (R cm ah)))
 (oP E (bC .eql 3 52 a (vI 8)) ad fun cn ai=>
 xcond cn
 (dX ai fun e=>
 qP pG (iA 26 x7 (vI 0)) fun aj=>
 qP pG (iA 26 x7 (vI 1)) fun ak=>
 qL pG e (blk aj) (lA 2 aj) fun co=>
 qL pG e (blk ak) (lA 2 ak) fun cp=>
 oP E (xCall (fC 72) [co,cp]) e fun al l=>
 keepX [] e l (qP pG (xT al 0) fun cq=>
 qP pG (xT al 1) fun cr=>
 oP E (xCall (fC 110) [x0,cq,cr]) l fun cs am=>
 keepX [] l am (R cs am)))
 (oP E (bC .eql 3 52 a (vI 9)) ai fun ct an=>
 xcond ct
 (dX an fun f=>
 qP pG (iA 26 x7 (vI 0)) fun ao=>
 qP pG (iA 26 x7 (vI 1)) fun ap=>
 qL pG f (blk ao) (lA 2 ao) fun cu=>
 qL pG f (blk ap) (lA 2 ap) fun cv=>
 oP E (xCall (fC 73) [cu,cv]) f fun aq m=>
 keepX [] f m (qP pG (xT aq 0) fun cw=>
 qP pG (xT aq 1) fun cx=>
 oP E (xCall (fC 110) [x0,cw,cx]) m fun cy ar=>
 keepX [] m ar (R cy ar)))
 (dX an fun g=>
 qP pG (iA 26 x7 (vI 0)) fun au=>
 qP pG (iA 26 x7 (vI 1)) fun av=>
 qL pG g (blk au) (lA 2 au) fun cz=>
 qL pG g (blk av) (lA 2 av) fun da=>
 oP E (xCall (fC 74) [cz,da]) g fun aw n=>
 keepX [] g n (qP pG (xT aw 0) fun db=>
 qP pG (xT aw 1) fun dc=>
 oP E (xCall (fC 110) [x0,db,dc]) n fun dd ax=>
 keepX [] n ax (R dd ax))))))))))
def c3A(x0 _x3 x7 x19 x20 x21:Value)(w)(next2:NT)(j1:NT)(_R:RT)(E):=
 opK pG E (bN .lss 3 21 20 x21 x20) w fun c a=>
 xcond c
 (oP E (iA 101 x19 x21) a fun d e=>
 oP E (lA 125 d) e fun f g=>
 oP E (xV (Instr.alloc 125 true (.tuple #[]))) g fun b i=>
 oP E (sA 125 b f) i fun _ j=>
 oP E (lA 125 b) j fun k l=>
 oP E (xCall (fC 85) [x0,k]) l fun m n=>
 oP E (xV (Instr.buildSlice 26 1 #[(0,m)])) n fun o p=>
 oP E (xBuiltin .append #[26,26] 26 [false,false] [x7,o]) p fun q r=>
 oP E (bC .add 3 21 x21 (vI 1)) r fun s t=>
 next2 [q,s] t)
 (j1 [x7] a)
def F85(x0 x1 w)(R:RT)(E):=
 opK pG E (xV (Instr.box 125 x1)) w fun a f=>
 oP E (lA 125 a) f fun g i=>
 oP E (xCall (fC 83) [x0,g]) i fun b j=>
 oP E (xT b 0) j fun k l=>
 oP E (xT b 1) l fun m c=>
 xcond m
 (R k c)
 (xcut (fun n o=>b8L x0 a (nth n 0) o R E) fun j1=>
 oP E (fA 125 a 3) c fun p q=>
 oP E (lA 101 p) q fun d r=>
 oP E (xBuiltin .len #[101] 3 [false] [d]) r fun s t=>
 xloop [7,21] [(nS),(vI 0)] t fun e u next2=>
 c3A x0 a (e 7) d s (e 21) u next2 j1 R E)
def h85:Hint:=(sQ (hS (sQ (sQ (hC (sQ hN) hN))) (sQ (hU [7] (sQ (hB (hL [7,21] (sQ (hS (hC hN hN) (hS (hB (sQ hN)) hN)))))) (hS (sQ (hB (sQ (hC (sQ hN) (sQ (hC (hS (.reg [(0,1099511627776,1),(0,2199023255552,8),(2,4398046511104,2199023255552),(0,8796093022208,128),(8,17592186044416,8796093022208),(16,35184372088832,17592186044416),(37,70368744177664,40681930227712),(64,140737488355328,70368744177664),(128,281474976710656,140737488355328),(511,16,281474976710656)] [292,292,288,292,292,260,0,292,36,292] (.early 0 (.early 1 (.early 3 (.early 4 (.load 2 (.load 5 (.step 6 (.early 7 (.load 8 (.early 9 .done))))))))))) hN) hN)))))) (sQ (hS (sQ (hB (sQ (hC (sQ hN) (sQ (hC (hS (.reg [(0,36893488147419103232,1),(0,73786976294838206464,128),(2,147573952589676412928,73786976294838206464),(4,295147905179352825856,147573952589676412928),(0,590295810358705651712,128),(16,1180591620717411303424,590295810358705651712),(32,2361183241434822606848,1180591620717411303424),(72,4722366482869645213696,2656331146614175432704),(128,9444732965739290427392,4722366482869645213696),(128,18889465931478580854784,4722366482869645213696),(897,37778931862957161709568,28371092385365290385408),(2047,16,37778931862957161709568)] [72,72,72,64,72,72,8,0,72,72,0,72] (.early 0 (.early 1 (.early 2 (.early 4 (.early 5 (.load 3 (.load 6 (.step 7 (.early 8 (.early 9 (.step 10 (.early 11 .done))))))))))))) hN) (sQ (hC (hS (.reg [(0,302231454903657293676544,1),(0,604462909807314587353088,128),(2,1208925819614629174706176,604462909807314587353088),(4,2417851639229258349412352,1208925819614629174706176),(0,4835703278458516698824704,128),(16,9671406556917033397649408,4835703278458516698824704),(32,19342813113834066795298816,9671406556917033397649408),(72,38685626227668133590597632,21760664753063325144711168),(128,77371252455336267181195264,38685626227668133590597632),(128,154742504910672534362390528,38685626227668133590597632),(897,309485009821345068724781056,232415988820912458837262336),(2047,16,309485009821345068724781056)] [72,72,72,64,72,72,8,0,72,72,0,72] (.early 0 (.early 1 (.early 2 (.early 4 (.early 5 (.load 3 (.load 6 (.step 7 (.early 8 (.early 9 (.step 10 (.early 11 .done))))))))))))) hN) (sQ (hC (hS (.reg [(0,2475880078570760549798248448,1),(0,4951760157141521099596496896,128),(2,9903520314283042199192993792,4951760157141521099596496896),(4,19807040628566084398385987584,9903520314283042199192993792),(0,39614081257132168796771975168,128),(16,79228162514264337593543950336,39614081257132168796771975168),(32,158456325028528675187087900672,79228162514264337593543950336),(72,316912650057057350374175801344,178263365657094759585473888256),(128,633825300114114700748351602688,316912650057057350374175801344),(128,1267650600228229401496703205376,316912650057057350374175801344),(897,2535301200456458802993406410752,1903951780420914862794853056512),(2047,16,2535301200456458802993406410752)] [72,72,72,64,72,72,8,0,72,72,0,72] (.early 0 (.early 1 (.early 2 (.early 4 (.early 5 (.load 3 (.load 6 (.step 7 (.early 8 (.early 9 (.step 10 (.early 11 .done))))))))))))) hN) (sQ (hC (hS (.reg [(0,20282409603651670423947251286016,1),(0,40564819207303340847894502572032,128),(2,81129638414606681695789005144064,40564819207303340847894502572032),(4,162259276829213363391578010288128,81129638414606681695789005144064),(0,324518553658426726783156020576256,128),(16,649037107316853453566312041152512,324518553658426726783156020576256),(32,1298074214633706907132624082305024,649037107316853453566312041152512),(72,2596148429267413814265248164610048,1460333491462920270524202092593152),(128,5192296858534827628530496329220096,2596148429267413814265248164610048),(128,10384593717069655257060992658440192,2596148429267413814265248164610048),(897,20769187434139310514121985316880384,15597172985208134556015436238946304),(2047,16,20769187434139310514121985316880384)] [72,72,72,64,72,72,8,0,72,72,0,72] (.early 0 (.early 1 (.early 2 (.early 4 (.early 5 (.load 3 (.load 6 (.step 7 (.early 8 (.early 9 (.step 10 (.early 11 .done))))))))))))) hN) hN)))))))))))) (hS (.reg [(0,41538374868278621028243970633760768,1),(0,83076749736557242056487941267521536,128),(2,166153499473114484112975882535043072,83076749736557242056487941267521536),(4,332306998946228968225951765070086144,166153499473114484112975882535043072),(0,664613997892457936451903530140172288,128),(16,1329227995784915872903807060280344576,664613997892457936451903530140172288),(32,2658455991569831745807614120560689152,1329227995784915872903807060280344576),(72,5316911983139663491615228241121378304,2990762990516060714033565885630775296),(128,10633823966279326983230456482242756608,5316911983139663491615228241121378304),(128,21267647932558653966460912964485513216,5316911983139663491615228241121378304),(897,42535295865117307932921825928971026432,31943010273706259570719613417362030592),(2047,16,42535295865117307932921825928971026432)] [72,72,72,64,72,72,8,0,72,72,0,72] (.early 0 (.early 1 (.early 2 (.early 4 (.early 5 (.load 3 (.load 6 (.step 7 (.early 8 (.early 9 (.step 10 (.early 11 .done))))))))))))) hN))))))))
theorem d1n{x0 x1:Value}(h:F85 x0 x1 w R E):Cv pG 85 #[x0,x1] w R E:=okF (h:=h85) Tryz.func85 (by kernel_rfl) (by kernel_rfl) h
def c3B(x2 x7 w)(R:RT)(E):=
 ∀_τ:Fr,(oP E (iA 26 x7 x2) w fun a b=>
 R a b)
def F86(x0 x1 x2 w)(R:RT)(E):=
 opK pG E (xCall (fC 84) [x0]) w fun _t9_1 d=>
 oP E (xNil x0) d fun e f=>
 oP E (fA 56 e 5) f fun g i=>
 oP E (lA 54 g) i fun j k=>
 oP E (xV (Instr.lookup 54 j x1 false)) k fun b l=>
 xcut (fun _ m=>c3B x2 b m R E) fun j1=>
 oP E (bC .lss 2 16 x2 (vI 0)) l fun a n=>
 oP E (gNo a (xBuiltin .len #[26] 3 [false] [(gval (asB a) false b)])) n fun o p=>
 oP E (gNo a (bN .geq 2 19 21 (gval (asB a) false x2) o)) p fun q r=>
 oP E (xPick a (vB true) q) r fun s c=>
 xcond s
 (oP E (xCall (fC 89) [x0,(vI 3)]) c fun _t25_23 t=>
 j1 [] t)
 (j1 [] c)
def h86:Hint:=(sQ (sQ (sQ (hU [] (sQ (hC hN hN)) (sQ hN)))))
theorem d1o{x0 x1 x2:Value}(h:F86 x0 x1 x2 w R E):Cv pG 86 #[x0,x1,x2] w R E:=okF (h:=h86) Tryz.func86 (by kernel_rfl) (by kernel_rfl) h
def F87(x0 x1 w)(R:RT)(E):=
 opK pG E (xV (Instr.box 122 x1)) w fun a j=>
 oP E (fA 122 a 0) j fun k l=>
 oP E (lA 3 k) l fun d m=>
 oP E (bC .eql 3 8 d (vI 4)) m fun n e=>
 xcond n
 (oP E (fA 122 a 3) e fun o p=>
 oP E (lA 102 o) p fun q r=>
 oP E (iA 102 q (vI 0)) r fun s t=>
 oP E (lA 122 s) t fun u v=>
 oP E (xCall (fC 87) [x0,u]) v fun y z=>
 oP E (xV (Op.unary .not y)) z fun aa ab=>
 R aa ab)
 (oP E (bC .eql 3 8 d (vI 5)) e fun ac f=>
 xcond ac
 (oP E (fA 122 a 3) f fun ad ae=>
 oP E (lA 102 ad) ae fun af ag=>
 oP E (iA 102 af (vI 0)) ag fun ah ai=>
 oP E (lA 122 ah) ai fun aj ak=>
 oP E (xCall (fC 87) [x0,aj]) ak fun b al=>
 oP E (gYs b (fA 122 a 3)) al fun am an=>
 oP E (gYs b (lA 102 am)) an fun ao ap=>
 oP E (gYs b (iA 102 ao (vI 1))) ap fun aq ar=>
 oP E (gYs b (lA 122 aq)) ar fun au av=>
 oP E (gYs b (xCall (fC 87) [(gval (asB b) true x0),au])) av fun aw ax=>
 oP E (xPick b aw (vB false)) ax fun ay az=>
 R ay az)
 (oP E (bC .eql 3 8 d (vI 6)) f fun ba g=>
 xcond ba
 (oP E (fA 122 a 3) g fun bb bc=>
 oP E (lA 102 bb) bc fun bd be=>
 oP E (iA 102 bd (vI 0)) be fun bf bg=>
 oP E (lA 122 bf) bg fun bh bi=>
 oP E (xCall (fC 87) [x0,bh]) bi fun c bj=>
 oP E (gNo c (fA 122 a 3)) bj fun bk bl=>
 oP E (gNo c (lA 102 bk)) bl fun bm bn=>
 oP E (gNo c (iA 102 bm (vI 1))) bn fun bo bp=>
 oP E (gNo c (lA 122 bo)) bp fun bq br=>
 oP E (gNo c (xCall (fC 87) [(gval (asB c) false x0),bq])) br fun bs bt=>
 oP E (xPick c (vB true) bs) bt fun bu bv=>
 R bu bv)
 (oP E (bC .eql 3 8 d (vI 3)) g fun bw i=>
 xcond bw
 (oP E (fA 122 a 2) i fun bz ca=>
 oP E (lA 101 bz) ca fun cb cc=>
 oP E (iA 101 cb (vI 0)) cc fun cd ce=>
 oP E (lA 125 cd) ce fun cf cg=>
 oP E (xCall (fC 85) [x0,cf]) cg fun ch ci=>
 oP E (fA 122 a 2) ci fun cj ck=>
 oP E (lA 101 cj) ck fun cl cm=>
 oP E (iA 101 cl (vI 1)) cm fun cn co=>
 oP E (lA 125 cn) co fun cp cq=>
 oP E (xCall (fC 85) [x0,cp]) cq fun cr cs=>
 oP E (xCall (fC 84) [x0]) cs fun _t65_91 ct=>
 oP E (fA 122 a 1) ct fun cu cv=>
 oP E (lA 3 cu) cv fun cw cx=>
 oP E (xCall (fC 44) [cw,ch,cr]) cx fun cy cz=>
 R cy cz)
 (oP E (xCall (fC 84) [x0]) i fun _t72_99 da=>
 oP E (fA 122 a 0) da fun db dc=>
 oP E (lA 3 db) dc fun dd de=>
 oP E (bC .eql 3 74 dd (vI 1)) de fun df dg=>
 R df dg))))
def h87:Hint:=(sQ (hS (sQ (hB (sQ (hC (sQ hN) (sQ (hC (sQ hN) (sQ (hC (sQ hN) (sQ (hC (sQ (sQ (sQ (sQ hN)))) hN)))))))))) (sQ (sQ hN))))
theorem d1p{x0 x1:Value}(h:F87 x0 x1 w R E):Cv pG 87 #[x0,x1] w R E:=okF (h:=h87) Tryz.func87 (by kernel_rfl) (by kernel_rfl) h
def F88(_x0 x1 x2:Value)(w)(R:RT)(E):=
 opK pG E (xV (Instr.build 61 #[(0,x1),(1,x2)])) w fun a b=>
 oP E (xV (Instr.makeInterface 61 a)) b fun c d=>
 oP E (xV (Instr.panic c)) d fun _ e=>
 R (Value.tuple #[]) e
def h88:Hint:=hN
theorem d1q{x0 x1 x2:Value}(h:F88 x0 x1 x2 w R E):Cv pG 88 #[x0,x1,x2] w R E:=okF (h:=h88) Tryz.func88 (by kernel_rfl) (by kernel_rfl) h
def F89(x0 x1 w)(R:RT)(E):=
 opK pG E (bC .neq 3 4 x1 (vI 0)) w fun b a=>
 xcond b
 (oP E (xCall (fC 88) [x0,(vI 3),x1]) a fun _t8_3 c=>
 R (Value.tuple #[]) c)
 (R (Value.tuple #[]) a)
def h89:Hint:=(sQ (hC hN hN))
theorem d1r{x0 x1:Value}(h:F89 x0 x1 w R E):Cv pG 89 #[x0,x1] w R E:=okF (h:=h89) Tryz.func89 (by kernel_rfl) (by kernel_rfl) h
def c3C(w)(R:RT)(_E:Pan):=
 ∀_τ:Fr,(R (vI (-1)) w)
def c3D(x0 x1 x7 x8 w)(next2:NT)(j1:NT)(R:RT)(E):=
 opK pG E (bN .lss 3 8 7 x8 x7) w fun c a=>
 xcond c
 (oP E (iA 22 x0 x8) a fun d e=>
 oP E (lA 58 d) e fun f g=>
 oP E (xCall x1 [f]) g fun i b=>
 xcond i
 (R x8 b)
 (oP E (bC .add 3 8 x8 (vI 1)) b fun j k=>
 next2 [j] k))
 (j1 [] a)
def F90(x0 x1 w)(R:RT)(E):=
 xcut (fun _ a=>c3C a R E) fun j1=>
 oP E (xBuiltin .len #[22] 3 [false] [x0]) w fun b c=>
 xloop [8] [(vI 0)] c fun d e next2=>
 c3D x0 x1 b (d 8) e next2 j1 R E
def h90:Hint:=(sQ (hU [] (sQ (hB (hL [8] (sQ (hS (hC hN hN) (hS (hB (sQ (sQ (hC (sQ hN) hN)))) hN)))))) (sQ hN)))
theorem d1s{x0 x1:Value}(h:F90 x0 x1 w R E):Cv pG 90 #[x0,x1] w R E:=okF (h:=h90) Tryz.func90 (by kernel_rfl) (by kernel_rfl) h
def F91(x0 x1 w)(R:RT)(E):=
 opK pG E (xV (Instr.box 125 x1)) w fun b p=>
 oP E (xV (Instr.alloc 47 true (.tuple #[]))) p fun a q=>
 oP E (fA 125 b 0) q fun r s=>
 oP E (lA 3 r) s fun t u=>
 oP E (bC .eql 3 8 t (vI 1)) u fun v f=>
 xcond v
 (oP E (fA 125 b 1) f fun y z=>
 oP E (lA 2 y) z fun aa ab=>
 oP E (xV (Instr.build 47 #[(0,(vI (-1))),(1,aa)])) ab fun ac ad=>
 oP E (sA 47 a ac) ad fun _ g=>
 xcell pG 47 a g fun ae=>
 R (Value.tuple #[ae,(vB true)]) g)
 (oP E (fA 125 b 0) f fun af ag=>
 oP E (lA 3 af) ag fun ah ai=>
 oP E (bC .eql 3 15 ah (vI 5)) ai fun c aj=>
 oP E (gYs c (fA 125 b 3)) aj fun ak al=>
 oP E (gYs c (lA 101 ak)) al fun am an=>
 oP E (gYs c (iA 101 am (vI 0))) an fun ao ap=>
 oP E (gYs c (fA 125 ao 0)) ap fun aq ar=>
 oP E (gYs c (lA 3 aq)) ar fun au av=>
 oP E (gYs c (bC .eql 3 22 au (vI 1))) av fun aw ax=>
 oP E (xPick c aw (vB false)) ax fun ay i=>
 xcond ay
 (oP E (fA 125 b 3) i fun az ba=>
 oP E (lA 101 az) ba fun bb bc=>
 oP E (iA 101 bb (vI 0)) bc fun bd be=>
 oP E (fA 125 bd 1) be fun bf bg=>
 oP E (lA 2 bf) bg fun bh bi=>
 oP E (xV (Op.unary .neg bh)) bi fun bj bk=>
 oP E (xV (Instr.build 47 #[(0,(vI (-1))),(1,bj)])) bk fun bl bm=>
 oP E (sA 47 a bl) bm fun _ j=>
 xcell pG 47 a j fun bn=>
 R (Value.tuple #[bn,(vB true)]) j)
 (oP E (fA 125 b 0) i fun bo bp=>
 oP E (lA 3 bo) bp fun bq br=>
 oP E (bC .eql 3 34 bq (vI 2)) br fun bs k=>
 xcond bs
 (dX k fun d=>
 qP pG (xNil x0) fun bt=>
 qP pG (fA 70 bt 1) fun l=>
 qP pG (fA 125 b 2) fun m=>
 qL pG d (blk l) (lA 68 l) fun n=>
 qL pG d (blk m) (lA 9 m) fun bu=>
 qL pG d (blk n) (xV (Instr.lookup 68 n bu false)) fun bv=>
 qP pG (xV (Instr.build 47 #[(0,bv)])) fun bw=>
 oP E (sA 47 a bw) d fun _ e=>
 keepX [] d e (xcell pG 47 a e fun bz=>
 R (Value.tuple #[bz,(vB true)]) e))
 (oP E (xCall (fC 65) []) k fun ca cb=>
 oP E (sA 47 a ca) cb fun _ o=>
 xcell pG 47 a o fun cc=>
 R (Value.tuple #[cc,(vB false)]) o)))
def h91:Hint:=(sQ (hS (hB (sQ (hC (sQ hN) (sQ (hC (sQ hN) (sQ (hC (hS (.reg [(0,68719476736,1),(1,137438953472,68719476736),(2,274877906944,137438953472),(4,549755813888,274877906944),(0,1099511627776,8),(16,2199023255552,1099511627776),(40,4398046511104,2748779069440),(64,8796093022208,4398046511104),(255,0,8796093022224),(511,32,0)] [104,104,104,96,104,72,40,104,0,104] (.early 0 (.early 1 (.early 2 (.early 4 (.load 3 (.load 5 (.load 6 (.early 7 (.step 8 (.early 9 .done))))))))))) hN) hN))))))) (sQ hN)))
theorem d1t{x0 x1:Value}(h:F91 x0 x1 w R E):Cv pG 91 #[x0,x1] w R E:=okF (h:=h91) Tryz.func91 (by kernel_rfl) (by kernel_rfl) h
def c3E(x0 x12 w)(R:RT)(E):=
 ∀_τ:Fr,(oP E (lA 49 x12) w fun a b=>
 oP E (xCall (fC 57) [x0,a]) b fun _t67_21 c=>
 R (Value.tuple #[]) c)
def c3F(x0 x7 x12 w)(R:RT)(E):=
 ∀_τ:Fr,(xcut (fun _ g=>c3E x0 x12 g R E) fun j2=>
 oP E (fA 125 x7 0) w fun i j=>
 oP E (lA 3 i) j fun k l=>
 oP E (bC .eql 3 55 k (vI 4)) l fun m b=>
 xcond m
 (dX b fun a=>
 qP pG (xNil x0) fun n=>
 qP pG (fA 70 n 2) fun c=>
 qP pG (fA 125 x7 2) fun d=>
 qL pG a (blk c) (lA 68 c) fun e=>
 qL pG a (blk d) (lA 9 d) fun o=>
 qL pG a (blk e) (xV (Instr.lookup 68 e o false)) fun p=>
 qP pG (fA 49 x12 4) fun q=>
 oP E (sA 3 q p) a fun _ f=>
 keepX [] a f (j2 [] f))
 (j2 [] b))
def F92(x0 x1 x2 x3 x4 x5 w)(R:RT)(E):=
 opK pG E (xV (Instr.box 125 x1)) w fun b i=>
 oP E (fA 125 b 0) i fun j k=>
 oP E (lA 3 j) k fun l m=>
 oP E (xCall (fC 111) [l]) m fun n o=>
 oP E (xCall (fC 55) [x3,x4,n]) o fun p q=>
 oP E (xV (Instr.alloc 49 true (.tuple #[]))) q fun a r=>
 oP E (sA 49 a p) r fun _ s=>
 oP E (fA 49 a 3) s fun t u=>
 oP E (sA 3 t x2) u fun _ v=>
 xcut (fun _ y=>c3F x0 b a y R E) fun j1=>
 oP E (fA 125 b 3) v fun z aa=>
 oP E (lA 101 z) aa fun ab ac=>
 oP E (xBuiltin .len #[101] 3 [false] [ab]) ac fun d ad=>
 oP E (bC .eql 3 23 d (vI 1)) ad fun ae e=>
 xcond ae
 (oP E (fA 125 b 3) e fun af ag=>
 oP E (lA 101 af) ag fun ah ai=>
 oP E (iA 101 ah (vI 0)) ai fun aj ak=>
 oP E (lA 125 aj) ak fun al am=>
 oP E (xCall (fC 93) [x0,al,x3,x5]) am fun f an=>
 oP E (xT f 0) an fun ao ap=>
 oP E (xT f 1) ap fun aq ar=>
 oP E (fA 49 a 6) ar fun au av=>
 oP E (sA 47 au ao) av fun _ aw=>
 oP E (fA 49 a 0) aw fun ax ay=>
 oP E (sA 3 ax aq) ay fun _ az=>
 j1 [] az)
 (oP E (bC .eql 3 23 d (vI 2)) e fun ba g=>
 xcond ba
 (oP E (fA 125 b 3) g fun bb bc=>
 oP E (lA 101 bb) bc fun bd be=>
 oP E (xCall (fC 56) [x0,bd,x3,x5]) be fun c bf=>
 oP E (xT c 0) bf fun bg bh=>
 oP E (xT c 1) bh fun bi bj=>
 oP E (xT c 2) bj fun bk bl=>
 oP E (fA 49 a 6) bl fun bm bn=>
 oP E (sA 47 bm bg) bn fun _ bo=>
 oP E (fA 49 a 7) bo fun bp bq=>
 oP E (sA 47 bp bi) bq fun _ br=>
 oP E (fA 49 a 0) br fun bs bt=>
 oP E (sA 3 bs bk) bt fun _ bu=>
 j1 [] bu)
 (j1 [] g))
def h92:Hint:=(sQ (sQ (sQ (hU [] (sQ (hB (sQ (hC hN (sQ (hC hN hN)))))) (hU [] (sQ (hC (.reg [(0,144115188075855872,1),(1,288230376151711744,144115188075855872),(2,576460752303423488,288230376151711744),(4,1152921504606846976,576460752303423488),(0,2305843009213693952,128),(16,4611686018427387904,2305843009213693952),(40,9223372036854775808,5764607523034234880),(127,18446744073709551616,4096),(255,0,27670116110564327424)] [104,104,104,96,104,72,40,104,0] (.early 0 (.early 1 (.early 2 (.early 4 (.load 3 (.load 5 (.load 6 (.early 7 (.step 8 .done)))))))))) hN)) hN)))))
theorem d1u{x0 x1 x2 x3 x4 x5:Value}(h:F92 x0 x1 x2 x3 x4 x5 w R E):Cv pG 92 #[x0,x1,x2,x3,x4,x5] w R E:=okF (h:=h92) Tryz.func92 (by kernel_rfl) (by kernel_rfl) h
def F93(x0 x1 x2 x3 w)(R:RT)(E):=
 opK pG E (xV (Instr.box 125 x1)) w fun c k=>
 oP E (xV (Instr.alloc 47 true (.tuple #[]))) k fun a l=>
 oP E (lA 125 c) l fun m n=>
 oP E (xCall (fC 91) [x0,m]) n fun d o=>
 oP E (xT d 0) o fun p q=>
 oP E (xT d 1) q fun r s=>
 oP E (xV (Instr.alloc 47 true (.tuple #[]))) s fun e t=>
 oP E (sA 47 e p) t fun _ f=>
 xcond r
 (oP E (lA 47 e) f fun u v=>
 oP E (sA 47 a u) v fun _ g=>
 xcell pG 47 a g fun y=>
 R (Value.tuple #[y,x2]) g)
 (oP E (xCall (fC 14) [x0]) f fun i z=>
 oP E (xCall (fC 112) [x0,x3]) z fun aa ab=>
 oP E (xV (Instr.build 47 #[(0,aa)])) ab fun ac ad=>
 oP E (xV (Instr.alloc 47 true (.tuple #[]))) ad fun b ae=>
 oP E (sA 47 b ac) ae fun _ af=>
 oP E (lA 125 c) af fun ag ah=>
 oP E (fA 47 b 0) ah fun ai aj=>
 oP E (lA 3 ai) aj fun ak al=>
 oP E (xCall (fC 92) [x0,ag,ak,x2,i,x3]) al fun _t36_38 am=>
 oP E (lA 47 b) am fun an ao=>
 oP E (sA 47 a an) ao fun _ j=>
 xcell pG 47 a j fun ap=>
 R (Value.tuple #[ap,i]) j)
def h93:Hint:=(sQ (hS (sQ (sQ (hC (sQ hN) hN))) (sQ (sQ (sQ (sQ hN))))))
theorem d1v{x0 x1 x2 x3:Value}(h:F93 x0 x1 x2 x3 w R E):Cv pG 93 #[x0,x1,x2,x3] w R E:=okF (h:=h93) Tryz.func93 (by kernel_rfl) (by kernel_rfl) h
def F94(x0 x1 x2 w)(R:RT)(E):=
 opK pG E (xV (Instr.box 47 x1)) w fun d e=>
 dX e fun a=>
 qP pG (fA 47 d 0) fun b=>
 qP pG (xNil x0) fun f=>
 qP pG (fA 70 f 0) fun g=>
 qP pG (fA 39 g 0) fun c=>
 qL pG a (blk b) (lA 3 b) fun i=>
 qL pG a (blk c) (lA 36 c) fun j=>
 qP pG (xBuiltin .len #[36] 3 [false] [j]) fun k=>
 qP pG (bN .geq 3 8 14 i k) fun l=>
 xcond l
 (oP E (bC .add 3 16 x2 (vI 1)) a fun m n=>
 R m n)
 (R x2 a)
def h94:Hint:=(sQ (hS (hS (.reg [(0,128,16),(1,256,128),(0,512,1),(4,1024,512),(8,2048,1024),(16,4096,2048),(32,8192,4096),(64,16384,8192),(130,32768,16640)] [66,64,66,66,66,66,2,66,66] (.early 0 (.early 2 (.early 3 (.early 4 (.early 5 (.load 1 (.load 6 (.early 7 (.early 8 .done)))))))))) (hC (sQ hN) hN)) (sQ hN)))
theorem d1w{x0 x1 x2:Value}(h:F94 x0 x1 x2 w R E):Cv pG 94 #[x0,x1,x2] w R E:=okF (h:=h94) Tryz.func94 (by kernel_rfl) (by kernel_rfl) h
def F95(x0 x1 w)(R:RT)(E):=
 opK pG E (bC .and 177 14 x0 (Value.int .u64 4294967295)) w fun a f=>
 oP E (bC .shr 177 16 x0 (Value.int .u64 32)) f fun b g=>
 oP E (bC .and 177 18 x1 (Value.int .u64 4294967295)) g fun c i=>
 oP E (bC .shr 177 20 x1 (Value.int .u64 32)) i fun d j=>
 oP E (bN .mul 177 22 23 a c) j fun k l=>
 oP E (bN .mul 177 25 26 b c) l fun m n=>
 oP E (bC .shr 177 28 k (Value.int .u64 32)) n fun o p=>
 oP E (bN .add 177 27 29 m o) p fun e q=>
 oP E (bC .and 177 31 e (Value.int .u64 4294967295)) q fun r s=>
 oP E (bC .shr 177 33 e (Value.int .u64 32)) s fun t u=>
 oP E (bN .mul 177 36 37 a d) u fun v y=>
 oP E (bN .add 177 35 38 r v) y fun z aa=>
 oP E (bN .mul 177 40 41 b d) aa fun ab ac=>
 oP E (bN .add 177 42 43 ab t) ac fun ad ae=>
 oP E (bC .shr 177 45 z (Value.int .u64 32)) ae fun af ag=>
 oP E (bN .add 177 44 46 ad af) ag fun ah ai=>
 oP E (bN .mul 177 48 49 x0 x1) ai fun aj ak=>
 R (Value.tuple #[ah,aj]) ak
def h95:Hint:=(sQ (sQ (sQ (sQ (sQ (sQ (sQ (sQ (sQ (sQ (sQ (sQ hN))))))))))))
theorem d1x{x0 x1:Value}(h:F95 x0 x1 w R E):Cv pG 95 #[x0,x1] w R E:=okF (h:=h95) Tryz.func95 (by kernel_rfl) (by kernel_rfl) h
def F96(x0 w)(R:RT)(E):=
 opK pG E (bC .lss 2 3 x0 (vI 0)) w fun b a=>
 xcond b
 (oP E (xV (convert 2 177 x0)) a fun c d=>
 oP E (xV (Op.unary .neg c)) d fun e f=>
 R e f)
 (oP E (xV (convert 2 177 x0)) a fun g i=>
 R g i)
def h96:Hint:=(sQ (hS (sQ (hC (sQ hN) hN)) (sQ hN)))
theorem d1y{x0:Value}(h:F96 x0 w R E):Cv pG 96 #[x0] w R E:=okF (h:=h96) Tryz.func96 (by kernel_rfl) (by kernel_rfl) h
def F97(x0 x1 w)(R:RT)(E):=
 opK pG E (bC .eql 2 6 x1 (vI 0)) w fun d b=>
 xcond d
 (R (vI 2) b)
 (oP E (bC .eql 2 9 x0 (vI (-9223372036854775808))) b fun a e=>
 oP E (gYs a (bC .eql 2 12 (gval (asB a) true x1) (vI (-1)))) e fun f g=>
 oP E (xPick a f (vB false)) g fun i c=>
 xcond i
 (R (vI 1) c)
 (R (vI 0) c))
def h97:Hint:=(sQ (hS (hB (sQ (hC (sQ hN) (sQ (hC (sQ hN) hN))))) (sQ hN)))
theorem d1z{x0 x1:Value}(h:F97 x0 x1 w R E):Cv pG 97 #[x0,x1] w R E:=okF (h:=h97) Tryz.func97 (by kernel_rfl) (by kernel_rfl) h
def F99(x0 x1 w)(R:RT)(E):=
 opK pG E (bN .lss 2 5 6 x0 x1) w fun a b=>
 R a b
def h99:Hint:=(sQ (sQ hN))
theorem d1A{x0 x1:Value}(h:F99 x0 x1 w R E):Cv pG 99 #[x0,x1] w R E:=okF (h:=h99) Tryz.func99 (by kernel_rfl) (by kernel_rfl) h
def d3A(x0 x1 w)(R:RT)(E):=
 opK pG E (bN .leq 2 5 6 x0 x1) w fun a b=>
 R a b
def d3B:Hint:=(sQ (sQ hN))
theorem c7q{x0 x1:Value}(h:d3A x0 x1 w R E):Cv pG 100 #[x0,x1] w R E:=okF (h:=d3B) Tryz.func100 (by kernel_rfl) (by kernel_rfl) h
def d3C(x0 x1 w)(R:RT)(E):=
 opK pG E (bN .eql 2 5 6 x0 x1) w fun a b=>
 R a b
def d3D:Hint:=(sQ (sQ hN))
theorem c7r{x0 x1:Value}(h:d3C x0 x1 w R E):Cv pG 101 #[x0,x1] w R E:=okF (h:=d3D) Tryz.func101 (by kernel_rfl) (by kernel_rfl) h
def d3E(x0 x1 w)(R:RT)(E):=
 opK pG E (bN .neq 2 5 6 x0 x1) w fun a b=>
 R a b
def d3F:Hint:=(sQ (sQ hN))
theorem c7s{x0 x1:Value}(h:d3E x0 x1 w R E):Cv pG 102 #[x0,x1] w R E:=okF (h:=d3F) Tryz.func102 (by kernel_rfl) (by kernel_rfl) h
def d3G(x0 x1 w)(R:RT)(E):=
 opK pG E (bN .gtr 2 5 6 x0 x1) w fun a b=>
 R a b
def d3H:Hint:=(sQ (sQ hN))
theorem c7t{x0 x1:Value}(h:d3G x0 x1 w R E):Cv pG 103 #[x0,x1] w R E:=okF (h:=d3H) Tryz.func103 (by kernel_rfl) (by kernel_rfl) h
def d3I(x0 x1 w)(R:RT)(E):=
 opK pG E (bN .geq 2 5 6 x0 x1) w fun a b=>
 R a b
def d3J:Hint:=(sQ (sQ hN))
theorem c7u{x0 x1:Value}(h:d3I x0 x1 w R E):Cv pG 104 #[x0,x1] w R E:=okF (h:=d3J) Tryz.func104 (by kernel_rfl) (by kernel_rfl) h
def c0q(w)(R:RT)(_E:Pan):=
 ∀_τ:Fr,(R (vB true) w)
def c7v(x1 x2 x3 x9 x10 x11 w)(next2:NT)(j1:NT)(R:RT)(E):=
 opK pG E (bN .lss 3 11 10 x11 x10) w fun i f=>
 xcond i
 (oP E (iA 154 x9 x11) f fun j k=>
 oP E (lA 157 j) k fun g l=>
 dX l fun c=>
 qL pG c (blk x2) (lA 117 x2) fun m=>
 oP E (xCall (fC 106) [m,g,x1]) c fun n b=>
 keepX [] c b (qP pG (xV (Op.unary .not n)) fun a=>
 qP pG (gNo a (bC .add 3 24 (gval (asB a) false x1) (vI 1))) fun o=>
 qL pG b (blk x3) (gNo a (lA 182 x3)) fun p=>
 oP E (gNo a (xInvoke (gval (asB a) false g) "gnomon/tree.parts" [])) b fun q d =>
 keepX [(blk x3)] b d (opK pG E (gNo a (xCall p [q,o])) d fun r e=>
 keepX [] d e (qP pG (gNo a (xV (Op.unary .not r))) fun s=>
 qP pG (xPick a (vB true) s) fun t=>
 xcond t
 (R (vB false) e)
 (oP E (bC .add 3 11 x11 (vI 1)) e fun u v=>
 next2 [u] v)))))
 (j1 [] f)
def d3K(x0 x1 x2 x3 w)(R:RT)(E):=
 xcut (fun _ a=>c0q a R E) fun j1=>
 oP E (xBuiltin .len #[154] 3 [false] [x0]) w fun b c=>
 xloop [11] [(vI 0)] c fun d e next2=>
 c7v x1 x2 x3 x0 b (d 11) e next2 j1 R E
def d3L:Hint:=(sQ (hU [] (sQ (hB (hL [11] (sQ (hS (hC hN hN) (hS (hB (sQ (hS (.reg [(0,32768,4),(0,65536,256),(0,131072,2),(7,262144,229376),(8,524288,262144),(24,1048576,524288),(32,2097152,1048584),(32,4194304,1048832),(160,8388608,5242880),(32,16777216,1048578),(544,33554432,17825792),(1376,67108864,45088768),(2080,134217728,68157440),(4128,268435456,135266304)] [64,65,65,0,65,65,1,65,64,65,65,0,65,65] (.early 1 (.early 2 (.load 0 (.step 3 (.early 4 (.early 5 (.early 7 (.early 9 (.early 10 (.load 6 (.step 8 (.step 11 (.early 12 (.early 13 .done))))))))))))))) (hC (sQ hN) hN)))) hN)))))) (sQ hN)))
theorem c7w{x0 x1 x2 x3:Value}(h:d3K x0 x1 x2 x3 w R E):Cv pG 105 #[x0,x1,x2,x3] w R E:=okF (h:=d3L) Tryz.func105 (by kernel_rfl) (by kernel_rfl) h
def c0r(w)(R:RT)(_E:Pan):=
 ∀_τ:Fr,(R (vB true) w)
def d3M(x0 x1 x2 w)(R:RT)(E):=
 opK pG E (xNil x0) w fun j k=>
 oP E (fA 116 j 0) k fun l m=>
 oP E (lA 3 l) m fun n o=>
 oP E (bC .add 3 12 n (vI 1)) o fun p q=>
 oP E (xNil x0) q fun r s=>
 oP E (fA 116 r 0) s fun t u=>
 oP E (sA 3 t p) u fun _ v=>
 oP E (xNil x0) v fun y z=>
 oP E (fA 116 y 0) z fun aa ab=>
 oP E (lA 3 aa) ab fun ac ad=>
 oP E (bC .gtr 3 19 ac (vI 4096)) ad fun ae d=>
 xcond ae
 (oP E (xNil x0) d fun af ag=>
 oP E (fA 116 af 2) ag fun ah ai=>
 oP E (sA 33 ah (vI 33)) ai fun _ aj=>
 R (vB false) aj)
 (oP E (bC .gtr 3 24 x2 (vI 64)) d fun ak e=>
 xcond ak
 (oP E (xNil x0) e fun al am=>
 oP E (fA 116 al 2) am fun an ao=>
 oP E (sA 33 an (vI 32)) ao fun _ ap=>
 R (vB false) ap)
 (oP E (xNil x0) e fun aq ar=>
 oP E (fA 116 aq 1) ar fun au av=>
 oP E (lA 3 au) av fun aw ax=>
 oP E (xBuiltin .max #[3,3] 3 [false,false] [aw,x2]) ax fun ay az=>
 oP E (xNil x0) az fun ba bb=>
 oP E (fA 116 ba 1) bb fun bc bd=>
 oP E (sA 3 bc ay) bd fun _ be=>
 oP E (xNil x0) be fun bf bg=>
 oP E (fA 116 bf 3) bg fun bh bi=>
 oP E (lA 4 bh) bi fun a bj=>
 oP E (gNo a (xInvoke (gval (asB a) false x1) "gnomon/tree.form" [])) bj fun bk bl =>
 oP E (gNo a (xV (Op.unary .not bk))) bl fun bm bn=>
 oP E (xPick a (vB true) bm) bn fun bo bp=>
 oP E (xNil x0) bp fun bq br=>
 oP E (fA 116 bq 3) br fun bs bt=>
 oP E (sA 4 bs bo) bt fun _ bu=>
 xcut (fun _ bv=>c0r bv R E) fun j1=>
 oP E (xCall (fC 113) [x1]) bu fun f bw=>
 oP E (xT f 0) bw fun c bz=>
 oP E (xT f 1) bz fun ca g=>
 xcond ca
 (oP E (xNil x0) g fun cb cc=>
 oP E (fA 116 cb 4) cc fun cd ce=>
 oP E (lA 4 cd) ce fun b cf=>
 oP E (gNo b (xCall (fC 114) [(gval (asB b) false c)])) cf fun cg ch=>
 oP E (gNo b (xV (Op.unary .not cg))) ch fun ci cj=>
 oP E (xPick b (vB true) ci) cj fun ck cl=>
 oP E (xNil x0) cl fun cm cn=>
 oP E (fA 116 cm 4) cn fun co cp=>
 oP E (sA 4 co ck) cp fun _ cq=>
 oP E (xNil x0) cq fun cr cs=>
 oP E (fA 116 cr 5) cs fun ct cu=>
 oP E (lA 36 ct) cu fun cv cw=>
 oP E (xCall (fC 115) [cv,c]) cw fun cx cy=>
 oP E (xV (Op.unary .not cx)) cy fun cz i=>
 xcond cz
 (oP E (xNil x0) i fun da db=>
 oP E (fA 116 da 5) db fun dc dd=>
 oP E (lA 36 dc) dd fun de df=>
 oP E (xV (Instr.buildSlice 36 1 #[(0,c)])) df fun dg dh=>
 oP E (xBuiltin .append #[36,36] 36 [false,false] [de,dg]) dh fun di dj=>
 oP E (xNil x0) dj fun dk dl=>
 oP E (fA 116 dk 5) dl fun dm dn=>
 oP E (sA 36 dm di) dn fun _ dp=>
 j1 [] dp)
 (j1 [] i))
 (j1 [] g)))
def d3N:Hint:=(sQ (hS (sQ (sQ (hC (sQ (sQ hN)) hN))) (hS (sQ (hC (sQ (sQ hN)) hN)) (sQ (sQ (hU [] (sQ (sQ (hC (sQ (sQ (hC hN hN))) hN))) (sQ hN)))))))
theorem c7x{x0 x1 x2:Value}(h:d3M x0 x1 x2 w R E):Cv pG 106 #[x0,x1,x2] w R E:=okF (h:=d3N) Tryz.func106 (by kernel_rfl) (by kernel_rfl) h
def b6P(x0 w)(R:RT)(_E:Pan):=
 ∀_τ:Fr,(R x0 w)
def c0s(x0 x1 w)(R:RT)(E):=
 ∀_τ:Fr,(xcut (fun c d=>b6P (nth c 0) d R E) fun j2=>
 oP E (xBuiltin .cap #[154] 3 [false] [x0]) w fun e f=>
 oP E (xBuiltin .len #[154] 3 [false] [x0]) f fun g i=>
 oP E (bN .sub 3 10 12 e g) i fun j k=>
 oP E (bN .sub 3 8 13 x1 j) k fun a l=>
 oP E (bC .gtr 3 15 a (vI 0)) l fun m b=>
 xcond m
 (oP E (xBuiltin .cap #[154] 3 [false] [x0]) b fun n o=>
 oP E (xV (Instr.sliceAt 154 x0 none (some n) none)) o fun p q=>
 oP E (xBuiltin .append #[154,3] 154 [false,false] [p,a]) q fun r s=>
 oP E (xBuiltin .len #[154] 3 [false] [x0]) s fun t u=>
 oP E (xV (Instr.sliceAt 154 r none (some t) none)) u fun v y=>
 j2 [v] y)
 (j2 [x0] b))
def d1B(x0 x1 w)(R:RT)(E):=
 xcut (fun _ b=>c0s x0 x1 b R E) fun j1=>
 oP E (bC .lss 3 5 x1 (vI 0)) w fun c a=>
 xcond c
 (oP E (xV (Instr.makeInterface 9 (Value.string ⟨#[99,97,110,110,111,116,32,98,101,32,110,101,103,97,116,105,118,101]⟩))) a fun d e=>
 oP E (xV (Instr.panic d)) e fun _ f=>
 j1 [] f)
 (j1 [] a)
def d3O:Hint:=(sQ (hU [] (sQ (hC hN hN)) (hU [0] (sQ (sQ (hC hN hN))) (sQ hN))))
theorem c7y{x0 x1:Value}(h:d1B x0 x1 w R E):Cv pG 107 #[x0,x1] w R E:=okF (h:=d3O) Tryz.func107 (by kernel_rfl) (by kernel_rfl) h
def d3P(x0 w)(R:RT)(E):=
 opK pG E (xV (Instr.box 125 x0)) w fun b e=>
 oP E (fA 125 b 0) e fun f g=>
 oP E (lA 3 f) g fun i j=>
 oP E (bC .eql 3 6 i (vI 1)) j fun k c=>
 xcond k
 (oP E (fA 125 b 1) c fun l m=>
 oP E (lA 2 l) m fun n o=>
 R (Value.tuple #[n,(vB true)]) o)
 (oP E (fA 125 b 0) c fun p q=>
 oP E (lA 3 p) q fun r s=>
 oP E (bC .eql 3 12 r (vI 5)) s fun a t=>
 oP E (gYs a (fA 125 b 3)) t fun u v=>
 oP E (gYs a (lA 101 u)) v fun y z=>
 oP E (gYs a (iA 101 y (vI 0))) z fun aa ab=>
 oP E (gYs a (fA 125 aa 0)) ab fun ac ad=>
 oP E (gYs a (lA 3 ac)) ad fun ae af=>
 oP E (gYs a (bC .eql 3 19 ae (vI 1))) af fun ag ah=>
 oP E (xPick a ag (vB false)) ah fun ai d=>
 xcond ai
 (oP E (fA 125 b 3) d fun aj ak=>
 oP E (lA 101 aj) ak fun al am=>
 oP E (iA 101 al (vI 0)) am fun an ao=>
 oP E (fA 125 an 1) ao fun ap aq=>
 oP E (lA 2 ap) aq fun ar au=>
 oP E (xV (Op.unary .neg ar)) au fun av aw=>
 R (Value.tuple #[av,(vB true)]) aw)
 (R (Value.tuple #[(vI 0),(vB false)]) d))
def d3Q:Hint:=(sQ (hS (hB (sQ (hC (sQ hN) (sQ (hC (sQ hN) hN))))) (sQ hN)))
theorem c7z{x0:Value}(h:d3P x0 w R E):Cv pG 108 #[x0] w R E:=okF (h:=d3Q) Tryz.func108 (by kernel_rfl) (by kernel_rfl) h
def c0t(x0 w)(R:RT)(E):=
 ∀_τ:Fr,(oP E (xCall (fC 84) [x0]) w fun _t13_1 b=>
 oP E (xNil x0) b fun c d=>
 oP E (fA 56 c 2) d fun e f=>
 oP E (lA 26 e) f fun g i=>
 oP E (iA 26 g (vI 0)) i fun j k=>
 oP E (lA 2 j) k fun a l=>
 oP E (xNil x0) l fun m n=>
 oP E (fA 56 m 2) n fun o p=>
 oP E (lA 26 o) p fun q r=>
 oP E (xV (Instr.sliceAt 26 q (some (vI 1)) none none)) r fun s t=>
 oP E (xNil x0) t fun u v=>
 oP E (fA 56 u 2) v fun y z=>
 oP E (sA 26 y s) z fun _ aa=>
 oP E (xNil x0) aa fun ab ac=>
 oP E (fA 56 ab 3) ac fun ad ae=>
 oP E (lA 29 ad) ae fun af ag=>
 oP E (xV (Instr.build 87 #[(0,(vB true)),(1,a)])) ag fun ah ai=>
 oP E (xV (Instr.buildSlice 29 1 #[(0,ah)])) ai fun aj ak=>
 oP E (xBuiltin .append #[29,29] 29 [false,false] [af,aj]) ak fun al am=>
 oP E (xNil x0) am fun an ao=>
 oP E (fA 56 an 3) ao fun ap aq=>
 oP E (sA 29 ap al) aq fun _ ar=>
 R a ar)
def d1C(x0 w)(R:RT)(E):=
 xcut (fun _ b=>c0t x0 b R E) fun j1=>
 oP E (xNil x0) w fun c d=>
 oP E (fA 56 c 2) d fun e f=>
 oP E (lA 26 e) f fun g i=>
 oP E (xBuiltin .len #[26] 3 [false] [g]) i fun j k=>
 oP E (bC .eql 3 8 j (vI 0)) k fun l a=>
 xcond l
 (oP E (xCall (fC 88) [x0,(vI 2),(vI 0)]) a fun _t11_57 m=>
 j1 [] m)
 (j1 [] a)
def d3R:Hint:=(sQ (hU [] (sQ (hC hN hN)) (sQ (sQ (sQ (sQ (sQ hN)))))))
theorem c7A{x0:Value}(h:d1C x0 w R E):Cv pG 109 #[x0] w R E:=okF (h:=d3R) Tryz.func109 (by kernel_rfl) (by kernel_rfl) h
def d1D(x0 x1 x2 w)(R:RT)(E):=
 opK pG E (xCall (fC 89) [x0,x2]) w fun _t9_1 a=>
 R x1 a
def d3S:Hint:=(sQ (sQ (sQ hN)))
theorem c7B{x0 x1 x2:Value}(h:d1D x0 x1 x2 w R E):Cv pG 110 #[x0,x1,x2] w R E:=okF (h:=d3S) Tryz.func110 (by kernel_rfl) (by kernel_rfl) h
def d3T(x0 w)(R:RT)(E):=
 opK pG E (xV (Instr.build 198 #[(5,(vI 3)),(6,(vI 4)),(7,(vI 5)),(8,(vI 6)),(9,(vI 7)),(10,(vI 8)),(3,(vI 9)),(4,(vI 10))])) w fun a b=>
 oP E (xV (Instr.index 198 a x0)) b fun c d=>
 R c d
def d3U:Hint:=(sQ (sQ hN))
theorem c7C{x0:Value}(h:d3T x0 w R E):Cv pG 111 #[x0] w R E:=okF (h:=d3U) Tryz.func111 (by kernel_rfl) (by kernel_rfl) h
def d3V(x0 x1 w)(R:RT)(E):=
 opK pG E (xNil x0) w fun a b=>
 oP E (fA 70 a 0) b fun c d=>
 oP E (fA 39 c 1) d fun e f=>
 oP E (lA 3 e) f fun g i=>
 oP E (bC .add 3 11 x1 (vI 1)) i fun j k=>
 oP E (xBuiltin .max #[3,3] 3 [false,false] [g,j]) k fun l m=>
 oP E (xNil x0) m fun n o=>
 oP E (fA 70 n 0) o fun p q=>
 oP E (fA 39 p 1) q fun r s=>
 oP E (sA 3 r l) s fun _ t=>
 oP E (xNil x0) t fun u v=>
 oP E (fA 70 u 0) v fun y z=>
 oP E (fA 39 y 0) z fun aa ab=>
 oP E (lA 36 aa) ab fun ac ad=>
 oP E (xBuiltin .len #[36] 3 [false] [ac]) ad fun ae af=>
 oP E (bN .add 3 22 23 ae x1) af fun ag ah=>
 R ag ah
def d3W:Hint:=(sQ (sQ (sQ hN)))
theorem c7D{x0 x1:Value}(h:d3V x0 x1 w R E):Cv pG 112 #[x0,x1] w R E:=okF (h:=d3W) Tryz.func112 (by kernel_rfl) (by kernel_rfl) h
def d3X(x0 w)(R:RT)(E):=
 opK pG E (xV (Instr.typeAssert x0 157 188 true)) w fun g u=>
 oP E (xT g 1) u fun v y=>
 oP E (xT g 0) y fun z i=>
 xcond v
 (oP E (xV (Instr.alloc 188 true (.tuple #[]))) i fun j aa=>
 oP E (sA 188 j z) aa fun _ ab=>
 oP E (fA 188 j 0) ab fun ac ad=>
 oP E (fA 58 ac 0) ad fun ae af=>
 oP E (lA 9 ae) af fun ag ah=>
 R (Value.tuple #[ag,(vB true)]) ah)
 (oP E (xV (Instr.typeAssert x0 157 190 true)) i fun k ai=>
 oP E (xT k 1) ai fun aj ak=>
 oP E (xT k 0) ak fun al l=>
 xcond aj
 (oP E (xV (Instr.alloc 190 true (.tuple #[]))) l fun c am=>
 oP E (sA 190 c al) am fun _ an=>
 dX an fun d=>
 qP pG (fA 190 c 0) fun ao=>
 qP pG (fA 104 ao 1) fun m=>
 qP pG (fA 190 c 0) fun ap=>
 qP pG (fA 104 ap 0) fun n=>
 qL pG d (blk m) (lA 9 m) fun aq=>
 qL pG d (blk n) (lA 3 n) fun ar=>
 qP pG (bC .eql 3 22 ar (vI 1)) fun a=>
 qP pG (gNo a (fA 190 c 0)) fun au=>
 qP pG (gNo a (fA 104 au 0)) fun o=>
 qL pG d (blk o) (gNo a (lA 3 o)) fun av=>
 qP pG (gNo a (bC .eql 3 27 av (vI 2))) fun aw=>
 qP pG (xPick a (vB true) aw) fun ax=>
 R (Value.tuple #[aq,ax]) d)
 (oP E (xV (Instr.typeAssert x0 157 200 true)) l fun p ay=>
 oP E (xT p 1) ay fun az ba=>
 oP E (xT p 0) ba fun bb q=>
 xcond az
 (oP E (xV (Instr.alloc 200 true (.tuple #[]))) q fun e bc=>
 oP E (sA 200 e bb) bc fun _ bd=>
 dX bd fun f=>
 qP pG (fA 200 e 0) fun be=>
 qP pG (fA 125 be 2) fun r=>
 qP pG (fA 200 e 0) fun bf=>
 qP pG (fA 125 bf 0) fun s=>
 qL pG f (blk r) (lA 9 r) fun bg=>
 qL pG f (blk s) (lA 3 s) fun bh=>
 qP pG (bC .eql 3 38 bh (vI 2)) fun b=>
 qP pG (gNo b (fA 200 e 0)) fun bi=>
 qP pG (gNo b (fA 125 bi 0)) fun t=>
 qL pG f (blk t) (gNo b (lA 3 t)) fun bj=>
 qP pG (gNo b (bC .eql 3 43 bj (vI 4))) fun bk=>
 qP pG (xPick b (vB true) bk) fun bl=>
 R (Value.tuple #[bg,bl]) f)
 (R (Value.tuple #[(eS),(vB false)]) q)))
def d3Y:Hint:=(sQ (hS (sQ (hB (sQ (hC (sQ (sQ hN)) (sQ (hC (sQ (hS (.reg [(0,131072,32),(1,262144,131072),(2,524288,262144),(0,1048576,32),(8,2097152,1048576),(16,4194304,2097152),(32,8388608,4194304),(64,16777216,8388608),(128,33554432,16777248),(384,67108864,50331648),(640,134217728,83886080),(1152,268435456,150994944),(2176,536870912,285212672),(135,4,524288),(16383,8,536870912)] [1060,1060,1056,1060,1060,1028,1060,1060,1060,1060,36,1060,1060,1060,1060] (.early 0 (.early 1 (.early 3 (.early 4 (.load 2 (.load 5 (.early 6 (.early 7 (.early 8 (.early 9 (.early 13 (.load 10 (.early 11 (.early 12 (.early 14 .done)))))))))))))))) hN)) (sQ (hC (sQ (hS (.reg [(0,8589934592,64),(1,17179869184,8589934592),(2,34359738368,17179869184),(0,68719476736,64),(8,137438953472,68719476736),(16,274877906944,137438953472),(32,549755813888,274877906944),(64,1099511627776,549755813888),(128,2199023255552,1099511627840),(384,4398046511104,3298534883328),(640,8796093022208,5497558138880),(1152,17592186044416,9895604649984),(2176,35184372088832,18691697672192),(135,4,34359738368),(16383,8,35184372088832)] [1060,1060,1056,1060,1060,1028,1060,1060,1060,1060,36,1060,1060,1060,1060] (.early 0 (.early 1 (.early 3 (.early 4 (.load 2 (.load 5 (.early 6 (.early 7 (.early 8 (.early 9 (.early 13 (.load 10 (.early 11 (.early 12 (.early 14 .done)))))))))))))))) hN)) hN)))))))) (sQ hN)))
theorem c7E{x0:Value}(h:d3X x0 w R E):Cv pG 113 #[x0] w R E:=okF (h:=d3Y) Tryz.func113 (by kernel_rfl) (by kernel_rfl) h
def c0u(w)(R:RT)(_E:Pan):=
 ∀_τ:Fr,(R (vB true) w)
def c7F(x21 w)(next2:NT)(j1:NT)(R:RT)(E):=
 opK pG E (xV (Instr.next x21 true 0)) w fun c g=>
 oP E (xT c 0) g fun i d=>
 xcond i
 (oP E (xT c 1) d fun j k=>
 oP E (xT c 2) k fun e l=>
 oP E (xCall (fC 119) [e]) l fun m n=>
 oP E (xV (Op.unary .not m)) n fun a o=>
 oP E (gNo a (bC .eql 3 30 (gval (asB a) false j) (vI 0))) o fun b p=>
 oP E (gsem (asB (gval (asB a) false b)) true (xCall (fC 120) [(gval (asB (gval (asB a) false b)) true e)])) p fun q r=>
 oP E (gsem (asB (gval (asB a) false b)) true (bC .neq 3 34 q (vI 3))) r fun s t=>
 oP E (gNo a (xPick (gval (asB a) false b) s (vB false))) t fun u v=>
 oP E (xPick a (vB true) u) v fun y f=>
 xcond y
 (R (vB false) f)
 (next2 [] f))
 (j1 [] d)
def d3Z(x0 w)(R:RT)(E):=
 opK pG E (bC .eql 9 5 x0 (eS)) w fun a e=>
 oP E (gNo a (xCall (fC 116) [(gval (asB a) false x0)])) e fun f g=>
 oP E (gNo a (xV (Op.unary .not f))) g fun i j=>
 oP E (xPick a (vB true) i) j fun b k=>
 oP E (gNo b (xCall (fC 117) [(gval (asB b) false x0)])) k fun l m=>
 oP E (xPick b (vB true) l) m fun c n=>
 oP E (gNo c (xCall (fC 118) [(gval (asB c) false x0)])) n fun o p=>
 oP E (xPick c (vB true) o) p fun q d=>
 xcond q
 (R (vB false) d)
 (xcut (fun _ r=>c0u r R E) fun j1=>
 oP E (xV (Instr.range 9 x0)) d fun s t=>
 xloop [] [] t fun _ u next2=>
 c7F s u next2 j1 R E)
def d4a:Hint:=(sQ (hS (sQ (hC (sQ hN) hN)) (hU [] (sQ (hB (hL [] (sQ (hS (hC hN hN) (hB (sQ (sQ (hC (sQ hN) hN))))))))) (sQ hN))))
theorem c7G{x0:Value}(h:d3Z x0 w R E):Cv pG 114 #[x0] w R E:=okF (h:=d4a) Tryz.func114 (by kernel_rfl) (by kernel_rfl) h
def d4b(x0 x1 w)(R:RT)(E):=
 opK pG E (xCall (fC 121) [x0,x1]) w fun a b=>
 oP E (bC .geq 3 7 a (vI 0)) b fun c d=>
 R c d
def d4c:Hint:=(sQ (sQ hN))
theorem c7H{x0 x1:Value}(h:d4b x0 x1 w R E):Cv pG 115 #[x0,x1] w R E:=okF (h:=d4c) Tryz.func115 (by kernel_rfl) (by kernel_rfl) h
def d4d(x0 w)(R:RT)(E):=
 opK pG E (xCall (fC 123) [x0]) w fun a b=>
 oP E (bC .gtr 3 4 a (vI 32)) b fun c d=>
 R c d
def d4e:Hint:=(sQ (sQ hN))
theorem c7I{x0:Value}(h:d4d x0 w R E):Cv pG 117 #[x0] w R E:=okF (h:=d4e) Tryz.func117 (by kernel_rfl) (by kernel_rfl) h
def c0v(x4 w)(R:RT)(_E:Pan):=
 ∀_τ:Fr,(xcond x4
 (R (vB true) w)
 (R (vB false) w))
def d4f(x0 w)(R:RT)(E):=
 xcut (fun v y=>c0v (nth v 0) y R E) fun j1=>
 oP E (bC .eql 9 3 x0 (Value.string ⟨#[118,97,114]⟩)) w fun a b=>
 xcond a
 (j1 [a] b)
 (oP E (bC .eql 9 3 x0 (Value.string ⟨#[97,114,114,97,121]⟩)) b fun c d=>
 xcond c
 (j1 [c] d)
 (oP E (bC .eql 9 3 x0 (Value.string ⟨#[105,102]⟩)) d fun e f=>
 xcond e
 (j1 [e] f)
 (oP E (bC .eql 9 3 x0 (Value.string ⟨#[101,108,115,101]⟩)) f fun g i=>
 xcond g
 (j1 [g] i)
 (oP E (bC .eql 9 3 x0 (Value.string ⟨#[119,104,105,108,101]⟩)) i fun j k=>
 xcond j
 (j1 [j] k)
 (oP E (bC .eql 9 3 x0 (Value.string ⟨#[97,115,115,101,114,116]⟩)) k fun l m=>
 xcond l
 (j1 [l] m)
 (oP E (bC .eql 9 3 x0 (Value.string ⟨#[97,115,115,117,109,101]⟩)) m fun n o=>
 xcond n
 (j1 [n] o)
 (oP E (bC .eql 9 3 x0 (Value.string ⟨#[115,107,105,112]⟩)) o fun p q=>
 xcond p
 (j1 [p] q)
 (oP E (bC .eql 9 3 x0 (Value.string ⟨#[105,110,112,117,116]⟩)) q fun r s=>
 xcond r
 (j1 [r] s)
 (oP E (bC .eql 9 3 x0 (Value.string ⟨#[116,114,117,101]⟩)) s fun t u=>
 xcond t
 (j1 [t] u)
 (oP E (bC .eql 9 3 x0 (Value.string ⟨#[102,97,108,115,101]⟩)) u fun z aa=>
 j1 [z] aa))))))))))
def d4g:Hint:=(sQ (hS (sQ (hB (hU [4] (sQ (hC hN (sQ (hC hN (sQ (hC hN (sQ (hC hN (sQ (hC hN (sQ (hC hN (sQ (hC hN (sQ (hC hN (sQ (hC hN (sQ (hC hN hN)))))))))))))))))))) (hC (sQ hN) hN)))) (sQ hN)))
theorem c7J{x0:Value}(h:d4f x0 w R E):Cv pG 118 #[x0] w R E:=okF (h:=d4g) Tryz.func118 (by kernel_rfl) (by kernel_rfl) h
def d4h(x0 w)(R:RT)(E):=
 opK pG E (xCall (fC 120) [x0]) w fun b c=>
 oP E (bC .eql 3 6 b (vI 3)) c fun a d=>
 oP E (gNo a (bC .eql 3 9 (gval (asB a) false b) (vI 4))) d fun e f=>
 oP E (xPick a (vB true) e) f fun g i=>
 R g i
def d4i:Hint:=(sQ (sQ (sQ hN)))
theorem c7K{x0:Value}(h:d4h x0 w R E):Cv pG 119 #[x0] w R E:=okF (h:=d4i) Tryz.func119 (by kernel_rfl) (by kernel_rfl) h
def c0w(x39 w)(R:RT)(_E:Pan):=
 ∀_τ:Fr,(xcond x39
 (R (vI 3) w)
 (R (vI 6) w))
def c0x(x1 x31 w)(R:RT)(E):=
 ∀_τ:Fr,(xcond x31
 (R (vI 6) w)
 (oP E (xV (Instr.makeFunc (.func 124) #[] #[x1])) w fun a n=>
 oP E (xCall a [(Value.int .i32 48),(Value.int .i32 57)]) n fun o b=>
 xcond o
 (R (vI 4) b)
 (xcut (fun p q=>c0w (nth p 0) q R E) fun j4=>
 oP E (lA 21 x1) b fun r s=>
 oP E (bC .eql 21 40 r (Value.int .i32 95)) s fun c d=>
 xcond c
 (j4 [c] d)
 (oP E (xCall a [(Value.int .i32 97),(Value.int .i32 122)]) d fun e f=>
 xcond e
 (j4 [e] f)
 (oP E (xCall a [(Value.int .i32 65),(Value.int .i32 90)]) f fun g i=>
 xcond g
 (j4 [g] i)
 (oP E (xCall a [(Value.int .i32 192),(Value.int .i32 591)]) i fun j k=>
 xcond j
 (j4 [j] k)
 (oP E (xCall a [(Value.int .i32 913),(Value.int .i32 969)]) k fun l m=>
 xcond l
 (j4 [l] m)
 (oP E (xCall a [(Value.int .i32 1040),(Value.int .i32 1103)]) m fun t u=>
 j4 [t] u))))))))
def c0y(x1 x4 x11 w)(R:RT)(E):=
 ∀_τ:Fr,(xcond x11
 (R (vI 5) w)
 (xcut (fun e f=>c0x x1 (nth e 0) f R E) fun j3=>
 oP E (bC .eql 21 4 x4 (Value.int .i32 215)) w fun a b=>
 xcond a
 (j3 [a] b)
 (oP E (bC .eql 21 4 x4 (Value.int .i32 247)) b fun c d=>
 xcond c
 (j3 [c] d)
 (oP E (bC .eql 21 4 x4 (Value.int .i32 930)) d fun g i=>
 j3 [g] i))))
def c0z(x1 x4 x5 w)(R:RT)(E):=
 ∀_τ:Fr,(xcond x5
 (R (vI 1) w)
 (oP E (bC .eql 21 4 x4 (Value.int .i32 10)) w fun ao a=>
 xcond ao
 (R (vI 2) a)
 (xcut (fun ap aq=>c0y x1 x4 (nth ap 0) aq R E) fun j2=>
 oP E (bC .eql 21 4 x4 (Value.int .i32 59)) a fun b c=>
 xcond b
 (j2 [b] c)
 (oP E (bC .eql 21 4 x4 (Value.int .i32 44)) c fun d e=>
 xcond d
 (j2 [d] e)
 (oP E (bC .eql 21 4 x4 (Value.int .i32 123)) e fun f g=>
 xcond f
 (j2 [f] g)
 (oP E (bC .eql 21 4 x4 (Value.int .i32 125)) g fun i j=>
 xcond i
 (j2 [i] j)
 (oP E (bC .eql 21 4 x4 (Value.int .i32 40)) j fun k l=>
 xcond k
 (j2 [k] l)
 (oP E (bC .eql 21 4 x4 (Value.int .i32 41)) l fun m n=>
 xcond m
 (j2 [m] n)
 (oP E (bC .eql 21 4 x4 (Value.int .i32 91)) n fun o p=>
 xcond o
 (j2 [o] p)
 (oP E (bC .eql 21 4 x4 (Value.int .i32 93)) p fun q r=>
 xcond q
 (j2 [q] r)
 (oP E (bC .eql 21 4 x4 (Value.int .i32 61)) r fun s t=>
 xcond s
 (j2 [s] t)
 (oP E (bC .eql 21 4 x4 (Value.int .i32 33)) t fun u v=>
 xcond u
 (j2 [u] v)
 (oP E (bC .eql 21 4 x4 (Value.int .i32 60)) v fun y z=>
 xcond y
 (j2 [y] z)
 (oP E (bC .eql 21 4 x4 (Value.int .i32 62)) z fun aa ab=>
 xcond aa
 (j2 [aa] ab)
 (oP E (bC .eql 21 4 x4 (Value.int .i32 43)) ab fun ac ad=>
 xcond ac
 (j2 [ac] ad)
 (oP E (bC .eql 21 4 x4 (Value.int .i32 45)) ad fun ae af=>
 xcond ae
 (j2 [ae] af)
 (oP E (bC .eql 21 4 x4 (Value.int .i32 42)) af fun ag ah=>
 xcond ag
 (j2 [ag] ah)
 (oP E (bC .eql 21 4 x4 (Value.int .i32 47)) ah fun ai aj=>
 xcond ai
 (j2 [ai] aj)
 (oP E (bC .eql 21 4 x4 (Value.int .i32 37)) aj fun ak al=>
 xcond ak
 (j2 [ak] al)
 (oP E (bC .eql 21 4 x4 (Value.int .i32 38)) al fun am an=>
 xcond am
 (j2 [am] an)
 (oP E (bC .eql 21 4 x4 (Value.int .i32 124)) an fun ar au=>
 j2 [ar] au)))))))))))))))))))))
def d4j(x0 w)(R:RT)(E):=
 opK pG E (xV (Instr.box 21 x0)) w fun b g=>
 oP E (lA 21 b) g fun a i=>
 xcut (fun j k=>c0z b a (nth j 0) k R E) fun j1=>
 oP E (bC .eql 21 4 a (Value.int .i32 32)) i fun c d=>
 xcond c
 (j1 [c] d)
 (oP E (bC .eql 21 4 a (Value.int .i32 9)) d fun e f=>
 xcond e
 (j1 [e] f)
 (oP E (bC .eql 21 4 a (Value.int .i32 13)) f fun l m=>
 j1 [l] m))
def d4k:Hint:=(sQ (hS (sQ (hB (hU [5] (sQ (hC hN (sQ (hC hN hN)))) (hC (sQ hN) (sQ (hC (sQ hN) (hU [11] (sQ (hC hN (sQ (hC hN (sQ (hC hN (sQ (hC hN (sQ (hC hN (sQ (hC hN (sQ (hC hN (sQ (hC hN (sQ (hC hN (sQ (hC hN (sQ (hC hN (sQ (hC hN (sQ (hC hN (sQ (hC hN (sQ (hC hN (sQ (hC hN (sQ (hC hN (sQ (hC hN hN)))))))))))))))))))))))))))))))))))) (hC (sQ hN) (hU [31] (sQ (hC hN (sQ (hC hN hN)))) (hC (sQ hN) hN)))))))))) (sQ (hS (hB (sQ (hC (sQ hN) (hU [39] (sQ (hC hN (sQ (hC hN (sQ (hC hN (sQ (hC hN (sQ (hC hN hN)))))))))) (hC (sQ hN) hN))))) (sQ hN)))))
theorem c7L{x0:Value}(h:d4j x0 w R E):Cv pG 120 #[x0] w R E:=okF (h:=d4k) Tryz.func120 (by kernel_rfl) (by kernel_rfl) h
def c0A(w)(R:RT)(_E:Pan):=
 ∀_τ:Fr,(R (vI (-1)) w)
def c7M(x0 x1 x7 x8 w)(next2:NT)(j1:NT)(R:RT)(E):=
 opK pG E (bN .lss 3 8 7 x8 x7) w fun c a=>
 xcond c
 (oP E (iA 36 x0 x8) a fun d e=>
 oP E (lA 9 d) e fun f g=>
 oP E (bN .eql 9 11 15 x1 f) g fun i b=>
 xcond i
 (R x8 b)
 (oP E (bC .add 3 8 x8 (vI 1)) b fun j k=>
 next2 [j] k))
 (j1 [] a)
def d4l(x0 x1 w)(R:RT)(E):=
 xcut (fun _ a=>c0A a R E) fun j1=>
 oP E (xBuiltin .len #[36] 3 [false] [x0]) w fun b c=>
 xloop [8] [(vI 0)] c fun d e next2=>
 c7M x0 x1 b (d 8) e next2 j1 R E
def d4m:Hint:=(sQ (hU [] (sQ (hB (hL [8] (sQ (hS (hC hN hN) (hS (hB (sQ (sQ (hC (sQ hN) hN)))) hN)))))) (sQ hN)))
theorem c7N{x0 x1:Value}(h:d4l x0 x1 w R E):Cv pG 121 #[x0,x1] w R E:=okF (h:=d4m) Tryz.func121 (by kernel_rfl) (by kernel_rfl) h
def c0B(x2 w)(R:RT)(_E:Pan):=
 ∀_τ:Fr,(R x2 w)
def c7O(x2 x4 w)(next2:NT)(j1:NT)(_R:RT)(E):=
 opK pG E (xV (Instr.next x4 true 0)) w fun b c=>
 oP E (xT b 0) c fun d a=>
 xcond d
 (oP E (bC .add 3 7 x2 (vI 1)) a fun e f=>
 next2 [e] f)
 (j1 [x2] a)
def d4n(x0 w)(R:RT)(E):=
 xcut (fun a b=>c0B (nth a 0) b R E) fun j1=>
 oP E (xV (Instr.range 9 x0)) w fun c d=>
 xloop [2] [(vI 0)] d fun e f next2=>
 c7O (e 2) c f next2 j1 R E
def d4o:Hint:=(sQ (hU [2] (sQ (hB (hL [2] (sQ (hS (hC hN hN) (hB hN)))))) (sQ hN)))
theorem c7P{x0:Value}(h:d4n x0 w R E):Cv pG 123 #[x0] w R E:=okF (h:=d4o) Tryz.func123 (by kernel_rfl) (by kernel_rfl) h
def d4p(x0 x1 x2 w)(R:RT)(E):=
 opK pG E (lA 21 x2) w fun b c=>
 oP E (bN .leq 21 6 7 x0 b) c fun a d=>
 oP E (gYs a (lA 21 x2)) d fun e f=>
 oP E (gYs a (bN .leq 21 10 11 e (gval (asB a) true x1))) f fun g i=>
 oP E (xPick a g (vB false)) i fun j k=>
 R j k
def d4q:Hint:=(sQ (sQ hN))
theorem c7Q{x0 x1 x2:Value}(h:d4p x0 x1 x2 w R E):Cv pG 124 #[x0,x1,x2] w R E:=okF (h:=d4q) Tryz.func124 (by kernel_rfl) (by kernel_rfl) h
def d4r(x0 w)(R:RT)(E):=
 opK pG E (xV (Instr.box 188 x0)) w fun b c=>
 oP E (fA 188 b 0) c fun d e=>
 oP E (fA 58 d 1) e fun f g=>
 oP E (lA 3 f) g fun i j=>
 oP E (bC .geq 3 5 i (vI 0)) j fun a k=>
 oP E (gYs a (fA 188 b 0)) k fun l m=>
 oP E (gYs a (fA 58 l 1)) m fun n o=>
 oP E (gYs a (lA 3 n)) o fun p q=>
 oP E (gYs a (bC .leq 3 10 p (vI 2147483647))) q fun r s=>
 oP E (xPick a r (vB false)) s fun t u=>
 R t u
def d4s:Hint:=(sQ (sQ hN))
theorem c7R{x0:Value}(h:d4r x0 w R E):Cv pG 141 #[x0] w R E:=okF (h:=d4s) Tryz.func141 (by kernel_rfl) (by kernel_rfl) h
def d4t(x0 w)(R:RT)(E):=
 opK pG E (xV (Instr.box 188 x0)) w fun _t1_1 a=>
 R (nS) a
def d4u:Hint:=(sQ (sQ hN))
theorem c7S{x0:Value}(h:d4t x0 w R E):Cv pG 142 #[x0] w R E:=okF (h:=d4u) Tryz.func142 (by kernel_rfl) (by kernel_rfl) h
def c0C(x4 x5 x35 x83 w)(R:RT)(E):=
 ∀_τ:Fr,(xcond x83
 (oP E (gYs x5 (lA 227 x4)) w fun b c=>
 oP E (gYs x5 (xV (Instr.build 227 #[(0,(vI 0)),(1,(vI 1))]))) c fun d e=>
 oP E (gYs x5 (bN .eql 227 88 89 b d)) e fun f g=>
 oP E (xPick x5 f (vB false)) g fun i j=>
 R i j)
 (oP E (bC .eql 3 35 x35 (vI 7)) w fun k a=>
 xcond k
 (oP E (gYs x5 (lA 227 x4)) a fun l m=>
 oP E (gYs x5 (xV (Instr.build 227 #[]))) m fun n o=>
 oP E (gYs x5 (bN .eql 227 96 97 l n)) o fun p q=>
 oP E (xPick x5 p (vB false)) q fun r s=>
 R r s)
 (R (vB false) a)))
def d4v(x0 w)(R:RT)(E):=
 opK pG E (xV (Instr.box 190 x0)) w fun a r=>
 oP E (fA 190 a 0) r fun s t=>
 oP E (fA 104 s 4) t fun u v=>
 oP E (lA 23 u) v fun y z=>
 oP E (xBuiltin .len #[23] 3 [false] [y]) z fun aa ab=>
 oP E (fA 190 a 0) ab fun ac ad=>
 oP E (fA 104 ac 5) ad fun ae af=>
 oP E (lA 23 ae) af fun ag ah=>
 oP E (xBuiltin .len #[23] 3 [false] [ag]) ah fun ai aj=>
 oP E (bN .add 3 9 13 aa ai) aj fun ak al=>
 oP E (bC .gtr 3 14 ak (vI 0)) al fun j am=>
 oP E (fA 190 a 0) am fun an ao=>
 oP E (fA 104 an 2) ao fun ap aq=>
 oP E (lA 101 ap) aq fun ar au=>
 oP E (xBuiltin .len #[101] 3 [false] [ar]) au fun av aw=>
 oP E (fA 190 a 0) aw fun ax ay=>
 oP E (fA 104 ax 3) ay fun az ba=>
 oP E (lA 102 az) ba fun bb bc=>
 oP E (xBuiltin .len #[102] 3 [false] [bb]) bc fun bd be=>
 oP E (xV (Instr.build 227 #[(0,av),(1,bd)])) be fun bf bg=>
 oP E (xV (Instr.alloc 227 true (.tuple #[]))) bg fun c bh=>
 oP E (sA 227 c bf) bh fun _ bi=>
 oP E (fA 190 a 0) bi fun bj bk=>
 oP E (fA 104 bj 1) bk fun bl bm=>
 oP E (lA 9 bl) bm fun bn bo=>
 oP E (bC .eql 9 27 bn (eS)) bo fun k bp=>
 oP E (gYs k (xV (Op.unary .not (gval (asB k) true j)))) bp fun bq br=>
 oP E (xPick k bq (vB false)) br fun bs bt=>
 oP E (fA 190 a 0) bt fun bu bv=>
 oP E (fA 104 bu 0) bv fun bw bz=>
 oP E (lA 3 bw) bz fun b ca=>
 oP E (bC .eql 3 35 b (vI 1)) ca fun cb l=>
 xcond cb
 (oP E (xV (Op.unary .not j)) l fun e cc=>
 oP E (gYs e (lA 227 c)) cc fun cd ce=>
 oP E (gYs e (xV (Instr.build 227 #[(0,(vI 1)),(1,(vI 0))]))) ce fun cf cg=>
 oP E (gYs e (bN .eql 227 41 42 cd cf)) cg fun ch ci=>
 oP E (xPick e ch (vB false)) ci fun cj ck=>
 R cj ck)
 (oP E (bC .eql 3 35 b (vI 2)) l fun cl m=>
 xcond cl
 (oP E (xV (Op.unary .not j)) m fun f cm=>
 oP E (gYs f (lA 227 c)) cm fun cn co=>
 oP E (gYs f (xV (Instr.build 227 #[(0,(vI 2)),(1,(vI 0))]))) co fun cp cq=>
 oP E (gYs f (bN .eql 227 50 51 cn cp)) cq fun cr cs=>
 oP E (xPick f cr (vB false)) cs fun ct cu=>
 R ct cu)
 (oP E (bC .eql 3 35 b (vI 3)) m fun cv n=>
 xcond cv
 (oP E (fA 190 a 0) n fun cw cx=>
 oP E (fA 104 cw 1) cx fun cy cz=>
 oP E (lA 9 cy) cz fun da db=>
 oP E (bC .eql 9 58 da (eS)) db fun g dc=>
 oP E (gYs g (lA 227 c)) dc fun dd de=>
 oP E (gYs g (xV (Instr.build 227 #[(0,(vI 0)),(1,(vI 1))]))) de fun df dg=>
 oP E (gYs g (bN .eql 227 61 62 dd df)) dg fun dh di=>
 oP E (xPick g dh (vB false)) di fun dj dk=>
 R dj dk)
 (oP E (bC .eql 3 35 b (vI 4)) n fun dl o=>
 xcond dl
 (oP E (fA 190 a 0) o fun dm dn=>
 oP E (fA 104 dm 1) dn fun dp dq=>
 oP E (lA 9 dp) dq fun dr ds=>
 oP E (bC .eql 9 69 dr (eS)) ds fun d dt=>
 oP E (gYs d (fA 190 a 0)) dt fun du dv=>
 oP E (gYs d (fA 104 du 5)) dv fun dw dx=>
 oP E (gYs d (lA 23 dw)) dx fun dy dz=>
 oP E (gYs d (xBuiltin .len #[23] 3 [false] [dy])) dz fun ea eb=>
 oP E (gYs d (bC .eql 3 75 ea (vI 0))) eb fun ec ed=>
 oP E (xPick d ec (vB false)) ed fun i ee=>
 oP E (gYs i (lA 227 c)) ee fun ef eg=>
 oP E (gYs i (xV (Instr.build 227 #[(0,(vI 0)),(1,(vI 1))]))) eg fun eh ei=>
 oP E (gYs i (bN .eql 227 79 80 ef eh)) ei fun ej ek=>
 oP E (xPick i ej (vB false)) ek fun el em=>
 R el em)
 (xcut (fun en eo=>c0C c bs b (nth en 0) eo R E) fun j1=>
 oP E (bC .eql 3 35 b (vI 5)) o fun p q=>
 xcond p
 (j1 [p] q)
 (oP E (bC .eql 3 35 b (vI 6)) q fun ep eq=>
 j1 [ep] eq)))))
def d4w:Hint:=(sQ (sQ (sQ (sQ (hS (sQ (hB (sQ (hC (sQ hN) (sQ (hC (sQ hN) (sQ (hC (sQ hN) (sQ (hC (sQ hN) (hU [83] (sQ (hC hN hN)) (hC (sQ hN) (sQ (hC (sQ hN) hN)))))))))))))) (sQ hN))))))
theorem c7T{x0:Value}(h:d4v x0 w R E):Cv pG 143 #[x0] w R E:=okF (h:=d4w) Tryz.func143 (by kernel_rfl) (by kernel_rfl) h
def d4x(x0 w)(R:RT)(E):=
 opK pG E (xV (Instr.box 190 x0)) w fun c n=>
 dX n fun a=>
 qP pG (fA 190 c 0) fun o=>
 qP pG (fA 104 o 3) fun l=>
 qP pG (fA 190 c 0) fun p=>
 qP pG (fA 104 p 2) fun e=>
 qP pG (fA 190 c 0) fun q=>
 qP pG (fA 104 q 4) fun d=>
 qP pG (fA 190 c 0) fun r=>
 qP pG (fA 104 r 5) fun b=>
 qL pG a (blk l) (lA 102 l) fun s=>
 qL pG a (blk e) (lA 101 e) fun t=>
 qL pG a (blk d) (lA 23 d) fun u=>
 qL pG a (blk b) (lA 23 b) fun v=>
 oP E (xCall (fC 145) [s,(fC 146)]) a fun y f=>
 keepX [(blk b),(blk d),(blk e)] a f (opK pG E (xCall (fC 147) [t,(fC 148)]) f fun z g=>
 keepX [(blk b),(blk d)] f g (opK pG E (xCall (fC 81) [u,(fC 82)]) g fun aa i=>
 keepX [(blk b)] g i (opK pG E (xCall (fC 81) [v,(fC 82)]) i fun ab j=>
 keepX [] i j (opK pG E (xV (Instr.buildSlice 185 4 #[(0,y),(1,z),(2,aa),(3,ab)])) j fun ac k=>
 keepX [] j k (opK pG E (xCall (fC 78) [ac]) k fun ad m=>
 keepX [] k m (R ad m))))))
def d4y:Hint:=(sQ (hS (.reg [(0,8,2),(1,16,8),(2,32,16),(4,64,32),(0,128,2),(16,256,128),(32,512,256),(72,1024,512),(0,2048,2),(256,4096,2048),(512,8192,4096),(1152,16384,8192),(0,32768,2),(4096,65536,32768),(8192,131072,65536),(18432,262144,131072),(34952,524288,279616),(98304,1048576,524288),(262143,4,1048576)] [17476,17476,17472,17472,17476,17476,17412,17408,17476,17476,16452,16384,17476,17476,1092,0,0,0,17476] (.early 0 (.early 1 (.early 4 (.early 5 (.early 8 (.early 9 (.early 12 (.early 13 (.load 2 (.load 6 (.load 10 (.load 14 (.step 3 (.step 7 (.step 11 (.step 15 (.step 16 (.step 17 (.early 18 .done)))))))))))))))))))) hN))
theorem c7U{x0:Value}(h:d4x x0 w R E):Cv pG 144 #[x0] w R E:=okF (h:=d4y) Tryz.func144 (by kernel_rfl) (by kernel_rfl) h
def c0D(x5 w)(R:RT)(_E:Pan):=
 ∀_τ:Fr,(R x5 w)
def c7V(x1 x5 x8 x9 x10 w)(next2:NT)(j1:NT)(_R:RT)(E):=
 opK pG E (bN .lss 3 10 9 x10 x9) w fun c a=>
 xcond c
 (oP E (iA 102 x8 x10) a fun d e=>
 oP E (lA 122 d) e fun f g=>
 oP E (xV (Instr.alloc 122 true (.tuple #[]))) g fun b i=>
 oP E (sA 122 b f) i fun _ j=>
 oP E (lA 122 b) j fun k l=>
 oP E (xCall x1 [k]) l fun m n=>
 oP E (xV (Instr.buildSlice 154 1 #[(0,m)])) n fun o p=>
 oP E (xBuiltin .append #[154,154] 154 [false,false] [x5,o]) p fun q r=>
 oP E (bC .add 3 10 x10 (vI 1)) r fun s t=>
 next2 [q,s] t)
 (j1 [x5] a)
def d4z(x0 x1 w)(R:RT)(E):=
 xcut (fun b c=>c0D (nth b 0) c R E) fun j1=>
 oP E (xBuiltin .len #[102] 3 [false] [x0]) w fun d e=>
 xloop [5,10] [(nS),(vI 0)] e fun a f next2=>
 c7V x1 (a 5) x0 d (a 10) f next2 j1 R E
def d4A:Hint:=(sQ (sQ (hU [5] (sQ (hB (hL [5,10] (sQ (hS (hC hN hN) (hS (hB (sQ hN)) hN)))))) (sQ hN))))
theorem c7W{x0 x1:Value}(h:d4z x0 x1 w R E):Cv pG 145 #[x0,x1] w R E:=okF (h:=d4A) Tryz.func145 (by kernel_rfl) (by kernel_rfl) h
def d4B(x0 w)(R:RT)(E):=
 opK pG E (xV (Instr.box 122 x0)) w fun a b=>
 oP E (lA 122 a) b fun c d=>
 oP E (xV (Instr.build 233 #[(0,c)])) d fun e f=>
 oP E (xV (Instr.makeInterface 233 e)) f fun g i=>
 R g i
def d4C:Hint:=(sQ (sQ hN))
theorem c7X{x0:Value}(h:d4B x0 w R E):Cv pG 146 #[x0] w R E:=okF (h:=d4C) Tryz.func146 (by kernel_rfl) (by kernel_rfl) h
def c0E(x5 w)(R:RT)(_E:Pan):=
 ∀_τ:Fr,(R x5 w)
def c7Y(x1 x5 x8 x9 x10 w)(next2:NT)(j1:NT)(_R:RT)(E):=
 opK pG E (bN .lss 3 10 9 x10 x9) w fun c a=>
 xcond c
 (oP E (iA 101 x8 x10) a fun d e=>
 oP E (lA 125 d) e fun f g=>
 oP E (xV (Instr.alloc 125 true (.tuple #[]))) g fun b i=>
 oP E (sA 125 b f) i fun _ j=>
 oP E (lA 125 b) j fun k l=>
 oP E (xCall x1 [k]) l fun m n=>
 oP E (xV (Instr.buildSlice 154 1 #[(0,m)])) n fun o p=>
 oP E (xBuiltin .append #[154,154] 154 [false,false] [x5,o]) p fun q r=>
 oP E (bC .add 3 10 x10 (vI 1)) r fun s t=>
 next2 [q,s] t)
 (j1 [x5] a)
def d4D(x0 x1 w)(R:RT)(E):=
 xcut (fun b c=>c0E (nth b 0) c R E) fun j1=>
 oP E (xBuiltin .len #[101] 3 [false] [x0]) w fun d e=>
 xloop [5,10] [(nS),(vI 0)] e fun a f next2=>
 c7Y x1 (a 5) x0 d (a 10) f next2 j1 R E
def d4E:Hint:=(sQ (sQ (hU [5] (sQ (hB (hL [5,10] (sQ (hS (hC hN hN) (hS (hB (sQ hN)) hN)))))) (sQ hN))))
theorem c7Z{x0 x1:Value}(h:d4D x0 x1 w R E):Cv pG 147 #[x0,x1] w R E:=okF (h:=d4E) Tryz.func147 (by kernel_rfl) (by kernel_rfl) h
def d4F(x0 w)(R:RT)(E):=
 opK pG E (xV (Instr.box 125 x0)) w fun a b=>
 oP E (lA 125 a) b fun c d=>
 oP E (xV (Instr.build 200 #[(0,c)])) d fun e f=>
 oP E (xV (Instr.makeInterface 200 e)) f fun g i=>
 R g i
def d4G:Hint:=(sQ (sQ hN))
theorem c8a{x0:Value}(h:d4F x0 w R E):Cv pG 148 #[x0] w R E:=okF (h:=d4G) Tryz.func148 (by kernel_rfl) (by kernel_rfl) h
end Go.Proofs.YthaaobpfbgcfiaaGreatDoor
