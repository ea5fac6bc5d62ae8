/- The second reading of some of the program's functions, printed by gen2.py off the code; each is held against the code by the kernel. -/
import Derived.KernelRfl
import Derived.Test.YtoflkliecagjcaaGreatDooryBGz
namespace Go.Proofs.YtoflkliecagjcaaGreatDoor
open Go.RowKit
set_option maxRecDepth 100000
variable {w:World}{R:RT}{E:Pan}
def b5S(x6 x7 w)(R:RT)(E):=
 ∀_τ:Fr,(oP E (lA 39 x7) w fun b c=>
 oP E (sA 39 x6 b) c fun _ a=>
 xcell pG 39 x6 a fun d=>
 R d a)
def c0p(x0 x1 x5 _x6 x7 x8:Value)(w)(next2:NT)(j1:NT)(_R:RT)(E):=
 opK pG E (bC .neq 3 16 x8 (vI 0)) w fun g d=>
 xcond g
 (dX d fun a=>
 qP pG (fA 171 x5 2) fun e=>
 qL pG a (blk x7) (lA 39 x7) fun i=>
 qL pG a (blk e) (lA 132 e) fun j=>
 oP E (xCall j [x1]) a fun k b=>
 keepX [(blk x7)] a b (opK pG E (xV (Instr.buildSlice 37 2 #[(0,i),(1,k)])) b fun l c=>
 keepX [] b c (qP pG (xV (Instr.build 39 #[(0,x8),(3,l)])) fun m=>
 oP E (sA 39 x7 m) c fun _ f=>
 keepX [] c f (opK pG E (lA 171 x5) f fun n o=>
 oP E (xCall (fC 131) [x0,n]) o fun p q=>
 next2 [p] q))))
 (j1 [] d)
def d1U(x0 x1 x2 w)(R:RT)(E):=
 opK pG E (xV (Instr.box 171 x2)) w fun a d=>
 oP E (xV (Instr.alloc 39 true (.tuple #[]))) d fun c e=>
 oP E (fA 171 a 2) e fun f g=>
 oP E (lA 132 f) g fun i j=>
 oP E (xCall i [x1]) j fun k l=>
 oP E (xV (Instr.alloc 39 true (.tuple #[]))) l fun b m=>
 oP E (sA 39 b k) m fun _ n=>
 xcut (fun _ o=>b5S c b o R E) fun j1=>
 oP E (lA 171 a) n fun p q=>
 oP E (xCall (fC 131) [x0,p]) q fun r s=>
 xloop [8] [r] s fun t u next2=>
 c0p x0 x1 a c b (t 8) u next2 j1 R E
def d4L:Hint:=(sQ (sQ (hU [] (sQ (hB (hL [8] (hS (sQ (hC hN hN)) (hS (hB (.reg [(0,2097152,256),(0,4194304,128),(0,8388608,32),(4,16777216,8388608),(0,33554432,2),(24,67108864,50331648),(34,134217728,71303168),(65,268435456,136314880),(255,0,268435584)] [10,8,10,2,10,2,0,10,0] (.early 0 (.early 2 (.early 4 (.load 1 (.load 3 (.step 5 (.step 6 (.early 7 (.step 8 .done))))))))))) hN))))) (sQ hN))))
theorem c7Z{x0 x1 x2:Value}(h:d1U x0 x1 x2 w R E):Cv pG 102 #[x0,x1,x2] w R E:=okF (h:=d4L) Tryz.func102 (by kernel_rfl) (by kernel_rfl) h
def d1V(x0 x1 w)(R:RT)(E):=
 opK pG E (xV (Instr.alloc 39 true (.tuple #[]))) w fun a c=>
 oP E (xV (Instr.buildSlice 67 3 #[(0,(Value.string ⟨#[42]⟩)),(1,(Value.string ⟨#[47]⟩)),(2,(Value.string ⟨#[37]⟩))])) c fun d e=>
 oP E (xV (Instr.buildSlice 169 3 #[(0,(vI 8)),(1,(vI 9)),(2,(vI 10))])) e fun f g=>
 oP E (xV (Instr.makeFunc (.func 132) #[x0] #[])) g fun i j=>
 oP E (xV (Instr.build 171 #[(0,d),(1,f),(2,i)])) j fun k l=>
 oP E (xCall (fC 102) [x0,x1,k]) l fun m n=>
 oP E (sA 39 a m) n fun _ b=>
 xcell pG 39 a b fun o=>
 R o b
def d4M:Hint:=(sQ (sQ hN))
theorem c8a{x0 x1:Value}(h:d1V x0 x1 w R E):Cv pG 103 #[x0,x1] w R E:=okF (h:=d4M) Tryz.func103 (by kernel_rfl) (by kernel_rfl) h
def d1W(x0 x1 w)(R:RT)(E):=
 opK pG E (xV (Instr.alloc 75 true (.tuple #[]))) w fun a c=>
 oP E (lA 60 x1) c fun d e=>
 oP E (lA 60 x1) e fun f g=>
 oP E (xV (Instr.makeFunc (.func 106) #[f] #[])) g fun i j=>
 oP E (xCall (fC 105) [d,x0,(Value.string ⟨#[38,38]⟩),(vI 5),i]) j fun k l=>
 oP E (sA 75 a k) l fun _ b=>
 xcell pG 75 a b fun m=>
 R m b
def d4N:Hint:=(sQ (sQ hN))
theorem c8b{x0 x1:Value}(h:d1W x0 x1 w R E):Cv pG 104 #[x0,x1] w R E:=okF (h:=d4N) Tryz.func104 (by kernel_rfl) (by kernel_rfl) h
def b5T(x10 x11 w)(R:RT)(E):=
 ∀_τ:Fr,(oP E (lA 75 x11) w fun b c=>
 oP E (sA 75 x10 b) c fun _ a=>
 xcell pG 75 x10 a fun d=>
 R d a)
def c0q(x0 x1 x2 x3 x4 _x10 x11:Value)(w)(next2:NT)(j1:NT)(_R:RT)(E):=
 opK pG E (xCall (fC 69) [x0,x2]) w fun f d=>
 xcond f
 (dX d fun a=>
 qL pG a (blk x11) (lA 75 x11) fun g=>
 oP E (xCall x4 [x1]) a fun i b=>
 keepX [(blk x11)] a b (opK pG E (xV (Instr.buildSlice 52 2 #[(0,g),(1,i)])) b fun j c=>
 keepX [] b c (qP pG (xV (Instr.build 75 #[(0,x3),(3,j)])) fun k=>
 oP E (sA 75 x11 k) c fun _ e=>
 keepX [] c e (next2 [] e))))
 (j1 [] d)
def d1X(x0 x1 x2 x3 x4 w)(R:RT)(E):=
 opK pG E (xV (Instr.alloc 75 true (.tuple #[]))) w fun b c=>
 oP E (xCall x4 [x1]) c fun d e=>
 oP E (xV (Instr.alloc 75 true (.tuple #[]))) e fun a f=>
 oP E (sA 75 a d) f fun _ g=>
 xcut (fun _ i=>b5T b a i R E) fun j1=>
 xloop [] [] g fun _ j next2=>
 c0q x0 x1 x2 x3 x4 b a j next2 j1 R E
def d4O:Hint:=(sQ (sQ (hU [] (hB (hL [] (hS (sQ (hC hN hN)) (hB (.reg [(0,262144,8),(0,524288,2048),(0,1048576,16),(0,2097152,2),(12,4194304,3145728),(18,8388608,4718592),(33,16777216,8650752),(127,0,16779264)] [2,0,2,2,2,0,2,0] (.early 0 (.early 2 (.early 3 (.load 1 (.step 4 (.step 5 (.early 6 (.step 7 .done))))))))))))) (sQ hN))))
theorem c8c{x0 x1 x2 x3 x4:Value}(h:d1X x0 x1 x2 x3 x4 w R E):Cv pG 105 #[x0,x1,x2,x3,x4] w R E:=okF (h:=d4O) Tryz.func105 (by kernel_rfl) (by kernel_rfl) h
def c0r(x0 x1 x4 w)(R:RT)(E):=
 ∀_τ:Fr,(oP E (xCall (fC 71) [x0,x1]) w fun f g=>
 oP E (xV (Instr.alloc 39 true (.tuple #[]))) g fun a i=>
 oP E (sA 39 a f) i fun _ j=>
 oP E (xCall (fC 134) [x0]) j fun k l=>
 dX l fun b=>
 qL pG b (blk a) (lA 39 a) fun m=>
 oP E (xCall (fC 71) [x0,x1]) b fun n c=>
 keepX [(blk a)] b c (opK pG E (xV (Instr.buildSlice 37 2 #[(0,m),(1,n)])) c fun o d=>
 keepX [] c d (qP pG (xV (Instr.build 75 #[(0,(vI 3)),(1,k),(2,o)])) fun p=>
 oP E (sA 75 x4 p) d fun _ e=>
 keepX [] d e (xcell pG 75 x4 e fun q=>
 R q e))))
def d4P(x0 x1 w)(R:RT)(E):=
 opK pG E (xV (Instr.alloc 75 true (.tuple #[]))) w fun a m=>
 xcut (fun _ n=>c0r x0 x1 a n R E) fun j1=>
 oP E (xCall (fC 133) [x0]) m fun o p=>
 oP E (xV (Op.unary .not o)) p fun q b=>
 xcond q
 (oP E (xCall (fC 36) [x0]) b fun _t13_27 r=>
 j1 [] r)
 (oP E (xCall (fC 69) [x0,(Value.string ⟨#[116,114,117,101]⟩)]) b fun s c=>
 xcond s
 (oP E (xV (Instr.build 75 #[(0,(vI 1))])) c fun t u=>
 oP E (sA 75 a t) u fun _ d=>
 xcell pG 75 a d fun v=>
 R v d)
 (oP E (xCall (fC 69) [x0,(Value.string ⟨#[102,97,108,115,101]⟩)]) c fun y e=>
 xcond y
 (oP E (xV (Instr.build 75 #[(0,(vI 2))])) e fun z aa=>
 oP E (sA 75 a z) aa fun _ f=>
 xcell pG 75 a f fun ab=>
 R ab f)
 (oP E (xCall (fC 69) [x0,(Value.string ⟨#[33]⟩)]) e fun ac g=>
 xcond ac
 (oP E (bC .add 3 26 x1 (vI 1)) g fun ad ae=>
 oP E (xCall (fC 133) [x0]) ae fun af ag=>
 oP E (xCall (fC 39) [x0,ad,af]) ag fun _t30_49 ah=>
 oP E (bC .add 3 32 x1 (vI 1)) ah fun ai aj=>
 oP E (xCall (fC 106) [x0,ai]) aj fun ak al=>
 oP E (xV (Instr.buildSlice 52 1 #[(0,ak)])) al fun am an=>
 oP E (xV (Instr.build 75 #[(0,(vI 4)),(3,am)])) an fun ao ap=>
 oP E (sA 75 a ao) ap fun _ i=>
 xcell pG 75 a i fun aq=>
 R aq i)
 (oP E (xCall (fC 69) [x0,(Value.string ⟨#[91]⟩)]) g fun ar j=>
 xcond ar
 (oP E (bC .add 3 41 x1 (vI 1)) j fun au av=>
 oP E (xCall (fC 133) [x0]) av fun aw ax=>
 oP E (xCall (fC 39) [x0,au,aw]) ax fun _t45_68 ay=>
 oP E (bC .add 3 47 x1 (vI 1)) ay fun az ba=>
 oP E (xCall (fC 72) [x0,az]) ba fun bb bc=>
 oP E (xV (Instr.alloc 75 true (.tuple #[]))) bc fun k bd=>
 oP E (sA 75 k bb) bd fun _ be=>
 oP E (xCall (fC 67) [x0,(Value.string ⟨#[93]⟩)]) be fun _t51_78 bf=>
 oP E (lA 75 k) bf fun bg bh=>
 oP E (sA 75 a bg) bh fun _ l=>
 xcell pG 75 a l fun bi=>
 R bi l)
 (j1 [] j)))))
def d4Q:Hint:=(sQ (hU [] (hB (sQ (hC hN (sQ (hC (sQ hN) (sQ (hC (sQ hN) (sQ (hC (sQ (sQ hN)) (sQ (hC (sQ (sQ (sQ (sQ hN)))) hN))))))))))) (sQ (sQ (hS (.reg [(0,288230376151711744,128),(0,576460752303423488,64),(0,1152921504606846976,1),(0,2305843009213693952,2),(12,4611686018427387904,3458764513820540928),(18,9223372036854775808,5188146770730811392),(33,18446744073709551616,9511602413006487552),(127,0,18446744073709551632)] [2,0,2,2,2,0,2,0] (.early 0 (.early 2 (.early 3 (.load 1 (.step 4 (.step 5 (.early 6 (.step 7 .done))))))))) hN)))))
theorem c8d{x0 x1:Value}(h:d4P x0 x1 w R E):Cv pG 106 #[x0,x1] w R E:=okF (h:=d4Q) Tryz.func106 (by kernel_rfl) (by kernel_rfl) h
def d4R(x0 w)(R:RT)(E):=
 opK pG E (xV (Instr.typeAssert x0 107 143 true)) w fun g u=>
 oP E (xT g 1) u fun v y=>
 oP E (xT g 0) y fun z i=>
 xcond v
 (oP E (xV (Instr.alloc 143 true (.tuple #[]))) i fun j aa=>
 oP E (sA 143 j z) aa fun _ ab=>
 oP E (fA 143 j 0) ab fun ac ad=>
 oP E (fA 49 ac 0) ad fun ae af=>
 oP E (lA 9 ae) af fun ag ah=>
 R (Value.tuple #[ag,(vB true)]) ah)
 (oP E (xV (Instr.typeAssert x0 107 145 true)) i fun k ai=>
 oP E (xT k 1) ai fun aj ak=>
 oP E (xT k 0) ak fun al l=>
 xcond aj
 (oP E (xV (Instr.alloc 145 true (.tuple #[]))) l fun c am=>
 oP E (sA 145 c al) am fun _ an=>
 dX an fun d=>
 qP pG (fA 145 c 0) fun ao=>
 qP pG (fA 54 ao 1) fun m=>
 qP pG (fA 145 c 0) fun ap=>
 qP pG (fA 54 ap 0) fun n=>
 qL pG d (blk m) (lA 9 m) fun aq=>
 qL pG d (blk n) (lA 3 n) fun ar=>
 qP pG (bC .eql 3 22 ar (vI 1)) fun a=>
 qP pG (gNo a (fA 145 c 0)) fun au=>
 qP pG (gNo a (fA 54 au 0)) fun o=>
 qL pG d (blk o) (gNo a (lA 3 o)) fun av=>
 qP pG (gNo a (bC .eql 3 27 av (vI 2))) fun aw=>
 qP pG (xPick a (vB true) aw) fun ax=>
 R (Value.tuple #[aq,ax]) d)
 (oP E (xV (Instr.typeAssert x0 107 100 true)) l fun p ay=>
 oP E (xT p 1) ay fun az ba=>
 oP E (xT p 0) ba fun bb q=>
 xcond az
 (oP E (xV (Instr.alloc 100 true (.tuple #[]))) q fun e bc=>
 oP E (sA 100 e bb) bc fun _ bd=>
 dX bd fun f=>
 qP pG (fA 100 e 0) fun be=>
 qP pG (fA 39 be 2) fun r=>
 qP pG (fA 100 e 0) fun bf=>
 qP pG (fA 39 bf 0) fun s=>
 qL pG f (blk r) (lA 9 r) fun bg=>
 qL pG f (blk s) (lA 3 s) fun bh=>
 qP pG (bC .eql 3 38 bh (vI 2)) fun b=>
 qP pG (gNo b (fA 100 e 0)) fun bi=>
 qP pG (gNo b (fA 39 bi 0)) fun t=>
 qL pG f (blk t) (gNo b (lA 3 t)) fun bj=>
 qP pG (gNo b (bC .eql 3 43 bj (vI 4))) fun bk=>
 qP pG (xPick b (vB true) bk) fun bl=>
 R (Value.tuple #[bg,bl]) f)
 (R (Value.tuple #[(eS),(vB false)]) q)))
def d4S:Hint:=(sQ (hS (sQ (hB (sQ (hC (sQ (sQ hN)) (sQ (hC (sQ (hS (.reg [(0,131072,32),(1,262144,131072),(2,524288,262144),(0,1048576,32),(8,2097152,1048576),(16,4194304,2097152),(32,8388608,4194304),(64,16777216,8388608),(128,33554432,16777248),(384,67108864,50331648),(640,134217728,83886080),(1152,268435456,150994944),(2176,536870912,285212672),(135,4,524288),(16383,8,536870912)] [1060,1060,1056,1060,1060,1028,1060,1060,1060,1060,36,1060,1060,1060,1060] (.early 0 (.early 1 (.early 3 (.early 4 (.load 2 (.load 5 (.early 6 (.early 7 (.early 8 (.early 9 (.early 13 (.load 10 (.early 11 (.early 12 (.early 14 .done)))))))))))))))) hN)) (sQ (hC (sQ (hS (.reg [(0,8589934592,64),(1,17179869184,8589934592),(2,34359738368,17179869184),(0,68719476736,64),(8,137438953472,68719476736),(16,274877906944,137438953472),(32,549755813888,274877906944),(64,1099511627776,549755813888),(128,2199023255552,1099511627840),(384,4398046511104,3298534883328),(640,8796093022208,5497558138880),(1152,17592186044416,9895604649984),(2176,35184372088832,18691697672192),(135,4,34359738368),(16383,8,35184372088832)] [1060,1060,1056,1060,1060,1028,1060,1060,1060,1060,36,1060,1060,1060,1060] (.early 0 (.early 1 (.early 3 (.early 4 (.load 2 (.load 5 (.early 6 (.early 7 (.early 8 (.early 9 (.early 13 (.load 10 (.early 11 (.early 12 (.early 14 .done)))))))))))))))) hN)) hN)))))))) (sQ hN)))
theorem c8e{x0:Value}(h:d4R x0 w R E):Cv pG 107 #[x0] w R E:=okF (h:=d4S) Tryz.func107 (by kernel_rfl) (by kernel_rfl) h
def c0s(w)(R:RT)(_E:Pan):=
 ∀_τ:Fr,(R (vB true) w)
def c8f(x21 w)(next2:NT)(j1:NT)(R:RT)(E):=
 opK pG E (xV (Instr.next x21 true 0)) w fun c g=>
 oP E (xT c 0) g fun i d=>
 xcond i
 (oP E (xT c 1) d fun j k=>
 oP E (xT c 2) k fun e l=>
 oP E (xCall (fC 126) [e]) l fun m n=>
 oP E (xV (Op.unary .not m)) n fun a o=>
 oP E (gNo a (bC .eql 3 30 (zF a j) (vI 0))) o fun b p=>
 oP E (gsem (asB (zF a b)) true (xCall (fC 93) [(gval (asB (zF a b)) true e)])) p fun q r=>
 oP E (gsem (asB (zF a b)) true (bC .neq 3 34 q (vI 3))) r fun s t=>
 oP E (gNo a (xPick (zF a b) s (vB false))) t fun u v=>
 oP E (xPick a (vB true) u) v fun y f=>
 xcond y
 (R (vB false) f)
 (next2 [] f))
 (j1 [] d)
def d4T(x0 w)(R:RT)(E):=
 opK pG E (bC .eql 9 5 x0 (eS)) w fun a e=>
 oP E (gNo a (xCall (fC 135) [(zF a x0)])) e fun f g=>
 oP E (gNo a (xV (Op.unary .not f))) g fun i j=>
 oP E (xPick a (vB true) i) j fun b k=>
 oP E (gNo b (xCall (fC 128) [(zF b x0)])) k fun l m=>
 oP E (xPick b (vB true) l) m fun c n=>
 oP E (gNo c (xCall (fC 127) [(zF c x0)])) n fun o p=>
 oP E (xPick c (vB true) o) p fun q d=>
 xcond q
 (R (vB false) d)
 (xcut (fun _ r=>c0s r R E) fun j1=>
 oP E (xV (Instr.range 9 x0)) d fun s t=>
 xloop [] [] t fun _ u next2=>
 c8f s u next2 j1 R E)
def d4U:Hint:=(sQ (hS (sQ (hC (sQ hN) hN)) (hU [] (sQ (hB (hL [] (sQ (hS (hC hN hN) (hB (sQ (sQ (hC (sQ hN) hN))))))))) (sQ hN))))
theorem c8g{x0:Value}(h:d4T x0 w R E):Cv pG 108 #[x0] w R E:=okF (h:=d4U) Tryz.func108 (by kernel_rfl) (by kernel_rfl) h
def d4V(x0 x1 w)(R:RT)(E):=
 opK pG E (xCall (fC 136) [x0,x1]) w fun a b=>
 oP E (bC .geq 3 7 a (vI 0)) b fun c d=>
 R c d
def d4W:Hint:=(sQ (sQ hN))
theorem c8h{x0 x1:Value}(h:d4V x0 x1 w R E):Cv pG 109 #[x0,x1] w R E:=okF (h:=d4W) Tryz.func109 (by kernel_rfl) (by kernel_rfl) h
def d4X(x0 x1 w)(R:RT)(E):=
 opK pG E (xBuiltin .len #[9] 3 [false] [x0]) w fun b c=>
 oP E (xBuiltin .len #[9] 3 [false] [x1]) c fun d e=>
 oP E (bN .geq 3 6 8 b d) e fun a f=>
 oP E (gYs a (xBuiltin .len #[9] 3 [false] [(zT a x1)])) f fun g i=>
 oP E (gYs a (xV (Instr.sliceAt 9 (zT a x0) none (some g) none))) i fun j k=>
 oP E (gYs a (bN .eql 9 14 15 j (zT a x1))) k fun l m=>
 oP E (xPick a l (vB false)) m fun n o=>
 R n o
def d4Y:Hint:=(sQ (sQ hN))
theorem c8i{x0 x1:Value}(h:d4X x0 x1 w R E):Cv pG 112 #[x0,x1] w R E:=okF (h:=d4Y) Tryz.func112 (by kernel_rfl) (by kernel_rfl) h
def d1Y(x0 x1 w)(R:RT)(E):=
 opK pG E (lA 41 x0) w fun a b=>
 oP E (lA 75 x1) b fun c d=>
 oP E (xCall (fC 60) [a,c]) d fun _t4_5 e=>
 R (Value.tuple #[]) e
def d4Z:Hint:=hN
theorem c8j{x0 x1:Value}(h:d1Y x0 x1 w R E):Cv pG 120 #[x0,x1] w R E:=okF (h:=d4Z) Tryz.func120 (by kernel_rfl) (by kernel_rfl) h
def b8k(x0 x1 w)(R:RT)(E):=
 opK pG E (xV (Instr.box 31 x0)) w fun b f=>
 oP E (xV (Instr.alloc 31 true (.tuple #[]))) f fun a g=>
 oP E (bC .eql 21 5 x1 (Value.int .i32 10)) g fun i c=>
 xcond i
 (oP E (fA 31 b 0) c fun j k=>
 oP E (lA 3 j) k fun l m=>
 oP E (bC .add 3 8 l (vI 1)) m fun n o=>
 oP E (xV (Instr.build 31 #[(0,n),(1,(vI 1))])) o fun p q=>
 oP E (sA 31 a p) q fun _ d=>
 xcell pG 31 a d fun r=>
 R r d)
 (oP E (fA 31 b 0) c fun s t=>
 oP E (lA 3 s) t fun u v=>
 oP E (fA 31 b 1) v fun y z=>
 oP E (lA 3 y) z fun aa ab=>
 oP E (bC .add 3 14 aa (vI 1)) ab fun ac ad=>
 oP E (xV (Instr.build 31 #[(0,u),(1,ac)])) ad fun ae af=>
 oP E (sA 31 a ae) af fun _ e=>
 xcell pG 31 a e fun ag=>
 R ag e)
def c1P:Hint:=(sQ (hS (sQ (hC (sQ hN) hN)) (sQ hN)))
theorem c0t{x0 x1:Value}(h:b8k x0 x1 w R E):Cv pG 123 #[x0,x1] w R E:=okF (h:=c1P) Tryz.func123 (by kernel_rfl) (by kernel_rfl) h
def d5a(x0 x1 x2 w)(R:RT)(E):=
 opK pG E (lA 21 x2) w fun b c=>
 oP E (bN .leq 21 6 7 x0 b) c fun a d=>
 oP E (gYs a (lA 21 x2)) d fun e f=>
 oP E (gYs a (bN .leq 21 10 11 e (zT a x1))) f fun g i=>
 oP E (xPick a g (vB false)) i fun j k=>
 R j k
def d5b:Hint:=(sQ (sQ hN))
theorem c8k{x0 x1 x2:Value}(h:d5a x0 x1 x2 w R E):Cv pG 124 #[x0,x1,x2] w R E:=okF (h:=d5b) Tryz.func124 (by kernel_rfl) (by kernel_rfl) h
def d5c(x0 w)(R:RT)(E):=
 opK pG E (xCall (fC 95) [x0]) w fun c d=>
 oP E (xCall (fC 89) [c]) d fun a e=>
 oP E (xT a 0) e fun f g=>
 oP E (xT a 1) g fun i j=>
 oP E (xNil x0) j fun k l=>
 oP E (fA 123 k 1) l fun m n=>
 oP E (lA 3 m) n fun o p=>
 oP E (bN .add 3 13 14 o i) p fun q r=>
 oP E (xNil x0) r fun s t=>
 oP E (fA 123 s 1) t fun u v=>
 oP E (sA 3 u q) v fun _ y=>
 oP E (xNil x0) y fun z aa=>
 oP E (fA 123 z 2) aa fun ab ac=>
 oP E (fA 31 ab 1) ac fun ad ae=>
 oP E (lA 3 ad) ae fun af ag=>
 oP E (bC .add 3 22 af (vI 1)) ag fun ah ai=>
 oP E (xNil x0) ai fun aj ak=>
 oP E (fA 123 aj 2) ak fun al am=>
 oP E (fA 31 al 1) am fun an ao=>
 oP E (sA 3 an ah) ao fun _ ap=>
 oP E (bC .eql 21 27 f (Value.int .i32 10)) ap fun aq b=>
 xcond aq
 (oP E (xNil x0) b fun ar au=>
 oP E (fA 123 ar 2) au fun av aw=>
 oP E (fA 31 av 0) aw fun ax ay=>
 oP E (lA 3 ax) ay fun az ba=>
 oP E (bC .add 3 34 az (vI 1)) ba fun bb bc=>
 oP E (xV (Instr.build 31 #[(0,bb),(1,(vI 1))])) bc fun bd be=>
 oP E (xNil x0) be fun bf bg=>
 oP E (fA 123 bf 2) bg fun bh bi=>
 oP E (sA 31 bh bd) bi fun _ bj=>
 R (Value.tuple #[]) bj)
 (R (Value.tuple #[]) b)
def d5d:Hint:=(sQ (sQ (sQ (sQ (hC hN hN)))))
theorem c8l{x0:Value}(h:d5c x0 w R E):Cv pG 125 #[x0] w R E:=okF (h:=d5d) Tryz.func125 (by kernel_rfl) (by kernel_rfl) h
def d5e(x0 w)(R:RT)(E):=
 opK pG E (xCall (fC 93) [x0]) w fun b c=>
 oP E (bC .eql 3 6 b (vI 3)) c fun a d=>
 oP E (gNo a (bC .eql 3 9 (zF a b) (vI 4))) d fun e f=>
 oP E (xPick a (vB true) e) f fun g i=>
 R g i
def d5f:Hint:=(sQ (sQ (sQ hN)))
theorem c8m{x0:Value}(h:d5e x0 w R E):Cv pG 126 #[x0] w R E:=okF (h:=d5f) Tryz.func126 (by kernel_rfl) (by kernel_rfl) h
def c0u(x4 w)(R:RT)(_E:Pan):=
 ∀_τ:Fr,(xcond x4
 (R (vB true) w)
 (R (vB false) w))
def d5g(x0 w)(R:RT)(E):=
 xcut (fun v y=>c0u (nth v 0) y R E) fun j1=>
 oP E (bC .eql 9 3 x0 (Value.string ⟨#[118,97,114]⟩)) w fun a b=>
 xcond a
 (j1 [a] b)
 (oP E (bC .eql 9 3 x0 (Value.string ⟨#[97,114,114,97,121]⟩)) b fun c d=>
 xcond c
 (j1 [c] d)
 (oP E (bC .eql 9 3 x0 (Value.string ⟨#[105,102]⟩)) d fun e f=>
 xcond e
 (j1 [e] f)
 (oP E (bC .eql 9 3 x0 (Value.string ⟨#[101,108,115,101]⟩)) f fun g i=>
 xcond g
 (j1 [g] i)
 (oP E (bC .eql 9 3 x0 (Value.string ⟨#[119,104,105,108,101]⟩)) i fun j k=>
 xcond j
 (j1 [j] k)
 (oP E (bC .eql 9 3 x0 (Value.string ⟨#[97,115,115,101,114,116]⟩)) k fun l m=>
 xcond l
 (j1 [l] m)
 (oP E (bC .eql 9 3 x0 (Value.string ⟨#[97,115,115,117,109,101]⟩)) m fun n o=>
 xcond n
 (j1 [n] o)
 (oP E (bC .eql 9 3 x0 (Value.string ⟨#[115,107,105,112]⟩)) o fun p q=>
 xcond p
 (j1 [p] q)
 (oP E (bC .eql 9 3 x0 (Value.string ⟨#[105,110,112,117,116]⟩)) q fun r s=>
 xcond r
 (j1 [r] s)
 (oP E (bC .eql 9 3 x0 (Value.string ⟨#[116,114,117,101]⟩)) s fun t u=>
 xcond t
 (j1 [t] u)
 (oP E (bC .eql 9 3 x0 (Value.string ⟨#[102,97,108,115,101]⟩)) u fun z aa=>
 j1 [z] aa))))))))))
def d5h:Hint:=(sQ (hS (sQ (hB (hU [4] (sQ (hC hN (sQ (hC hN (sQ (hC hN (sQ (hC hN (sQ (hC hN (sQ (hC hN (sQ (hC hN (sQ (hC hN (sQ (hC hN (sQ (hC hN hN)))))))))))))))))))) (hC (sQ hN) hN)))) (sQ hN)))
theorem c8n{x0:Value}(h:d5g x0 w R E):Cv pG 127 #[x0] w R E:=okF (h:=d5h) Tryz.func127 (by kernel_rfl) (by kernel_rfl) h
def d5i(x0 w)(R:RT)(E):=
 opK pG E (xCall (fC 140) [x0]) w fun a b=>
 oP E (bC .gtr 3 4 a (vI 32)) b fun c d=>
 R c d
def d5j:Hint:=(sQ (sQ hN))
theorem c8o{x0:Value}(h:d5i x0 w R E):Cv pG 128 #[x0] w R E:=okF (h:=d5j) Tryz.func128 (by kernel_rfl) (by kernel_rfl) h
def d5k(x0 w)(R:RT)(E):=
 opK pG E (xCall (fC 93) [x0]) w fun a b=>
 oP E (bC .eql 3 4 a (vI 4)) b fun c d=>
 R c d
def d5l:Hint:=(sQ (sQ hN))
theorem c8p{x0:Value}(h:d5k x0 w R E):Cv pG 129 #[x0] w R E:=okF (h:=d5l) Tryz.func129 (by kernel_rfl) (by kernel_rfl) h
def c0v(w)(R:RT)(_E:Pan):=
 ∀_τ:Fr,(R (vI 0) w)
def c8q(x0 x3 x8 x9 x10 w)(next2:NT)(j1:NT)(R:RT)(E):=
 opK pG E (bN .lss 3 10 9 x10 x9) w fun c a=>
 xcond c
 (oP E (iA 67 x8 x10) a fun d e=>
 oP E (lA 9 d) e fun f g=>
 oP E (xCall (fC 69) [x0,f]) g fun i b=>
 xcond i
 (oP E (fA 171 x3 1) b fun j k=>
 oP E (lA 169 j) k fun l m=>
 oP E (iA 169 l x10) m fun n o=>
 oP E (lA 3 n) o fun p q=>
 R p q)
 (oP E (bC .add 3 10 x10 (vI 1)) b fun r s=>
 next2 [r] s))
 (j1 [] a)
def d5m(x0 x1 w)(R:RT)(E):=
 opK pG E (xV (Instr.box 171 x1)) w fun a c=>
 xcut (fun _ d=>c0v d R E) fun j1=>
 oP E (fA 171 a 0) c fun e f=>
 oP E (lA 67 e) f fun b g=>
 oP E (xBuiltin .len #[67] 3 [false] [b]) g fun i j=>
 xloop [10] [(vI 0)] j fun k l next2=>
 c8q x0 a b i (k 10) l next2 j1 R E
def d5n:Hint:=(sQ (hU [] (sQ (hB (hL [10] (sQ (hS (hC hN hN) (hS (hB (sQ (sQ (hC (sQ hN) hN)))) hN)))))) (sQ hN)))
theorem c8r{x0 x1:Value}(h:d5m x0 x1 w R E):Cv pG 131 #[x0,x1] w R E:=okF (h:=d5n) Tryz.func131 (by kernel_rfl) (by kernel_rfl) h
def c0w(x0 x1 x4 w)(R:RT)(E):=
 ∀_τ:Fr,(oP E (xCall (fC 68) [x0]) w fun l m=>
 oP E (xV (Instr.alloc 88 true (.tuple #[]))) m fun a n=>
 oP E (sA 88 a l) n fun _ o=>
 oP E (fA 88 a 0) o fun p q=>
 oP E (lA 3 p) q fun r s=>
 oP E (bC .eql 3 40 r (vI 2)) s fun t g=>
 xcond t
 (oP E (fA 88 a 2) g fun u v=>
 oP E (lA 2 u) v fun y z=>
 oP E (xV (Instr.build 39 #[(0,(vI 1)),(1,y)])) z fun aa ab=>
 oP E (sA 39 x4 aa) ab fun _ i=>
 xcell pG 39 x4 i fun ac=>
 R ac i)
 (oP E (xCall (fC 69) [x0,(Value.string ⟨#[91]⟩)]) g fun ad ae=>
 oP E (xV (Op.unary .not ad)) ae fun af j=>
 xcond af
 (oP E (fA 88 a 1) j fun ag ah=>
 oP E (lA 9 ag) ah fun ai aj=>
 oP E (xV (Instr.build 39 #[(0,(vI 2)),(2,ai)])) aj fun ak al=>
 oP E (sA 39 x4 ak) al fun _ k=>
 xcell pG 39 x4 k fun am=>
 R am k)
 (dX j fun c=>
 qP pG (fA 88 a 1) fun b=>
 qL pG c (blk b) (lA 9 b) fun an=>
 oP E (xCall (fC 70) [x0,x1,(Value.string ⟨#[93]⟩)]) c fun ao d=>
 keepX [(blk b)] c d (opK pG E (xV (Instr.buildSlice 37 1 #[(0,ao)])) d fun ap e=>
 keepX [(blk b)] d e (qP pG (xV (Instr.build 39 #[(0,(vI 4)),(2,an),(3,ap)])) fun aq=>
 oP E (sA 39 x4 aq) e fun _ f=>
 keepX [] e f (xcell pG 39 x4 f fun ar=>
 R ar f))))))
def d5o(x0 x1 w)(R:RT)(E):=
 opK pG E (xV (Instr.alloc 39 true (.tuple #[]))) w fun a j=>
 xcut (fun _ k=>c0w x0 x1 a k R E) fun j1=>
 oP E (xCall (fC 101) [x0]) j fun l m=>
 oP E (xV (Op.unary .not l)) m fun n b=>
 xcond n
 (oP E (xCall (fC 36) [x0]) b fun _t11_54 o=>
 j1 [] o)
 (oP E (xCall (fC 69) [x0,(Value.string ⟨#[45]⟩)]) b fun p c=>
 xcond p
 (oP E (bC .add 3 16 x1 (vI 1)) c fun q r=>
 oP E (xCall (fC 101) [x0]) r fun s t=>
 oP E (xCall (fC 39) [x0,q,s]) t fun _t20_62 u=>
 oP E (bC .add 3 22 x1 (vI 1)) u fun v y=>
 oP E (xCall (fC 132) [x0,v]) y fun z aa=>
 oP E (xV (Instr.buildSlice 37 1 #[(0,z)])) aa fun ab ac=>
 oP E (xV (Instr.build 39 #[(0,(vI 5)),(3,ab)])) ac fun ad ae=>
 oP E (sA 39 a ad) ae fun _ d=>
 xcell pG 39 a d fun af=>
 R af d)
 (oP E (xCall (fC 69) [x0,(Value.string ⟨#[40]⟩)]) c fun ag e=>
 xcond ag
 (oP E (xCall (fC 70) [x0,x1,(Value.string ⟨#[41]⟩)]) e fun ah ai=>
 oP E (sA 39 a ah) ai fun _ f=>
 xcell pG 39 a f fun aj=>
 R aj f)
 (oP E (xCall (fC 69) [x0,(Value.string ⟨#[105,110,112,117,116]⟩)]) e fun ak g=>
 xcond ak
 (oP E (xV (Instr.build 39 #[(0,(vI 3))])) g fun al am=>
 oP E (sA 39 a al) am fun _ i=>
 xcell pG 39 a i fun an=>
 R an i)
 (j1 [] g))))
def d5p:Hint:=(sQ (hU [] (hB (sQ (hC hN (sQ (hC (sQ (sQ hN)) (sQ (hC (sQ hN) (sQ (hC (sQ hN) hN))))))))) (sQ (hS (sQ (hC (sQ hN) hN)) (hS (sQ (hC (sQ hN) hN)) (hS (.reg [(0,2251799813685248,32),(1,4503599627370496,2251799813685248),(0,9007199254740992,1),(0,18014398509481984,2),(12,36028797018963968,27021597764222976),(16,72057594037927936,36028797018963968),(34,144115188075855872,76561193665298432),(127,0,144115188075855888)] [2,0,2,2,2,2,2,0] (.early 0 (.early 2 (.early 3 (.load 1 (.step 4 (.step 5 (.early 6 (.step 7 .done))))))))) hN))))))
theorem c8s{x0 x1:Value}(h:d5o x0 x1 w R E):Cv pG 132 #[x0,x1] w R E:=okF (h:=d5p) Tryz.func132 (by kernel_rfl) (by kernel_rfl) h
def d5q(x0 w)(R:RT)(E):=
 opK pG E (xCall (fC 101) [x0]) w fun a e=>
 oP E (gNo a (xCall (fC 37) [(zF a x0),(Value.string ⟨#[116,114,117,101]⟩)])) e fun f g=>
 oP E (xPick a (vB true) f) g fun b i=>
 oP E (gNo b (xCall (fC 37) [(zF b x0),(Value.string ⟨#[102,97,108,115,101]⟩)])) i fun j k=>
 oP E (xPick b (vB true) j) k fun c l=>
 oP E (gNo c (xCall (fC 37) [(zF c x0),(Value.string ⟨#[33]⟩)])) l fun m n=>
 oP E (xPick c (vB true) m) n fun d o=>
 oP E (gNo d (xCall (fC 37) [(zF d x0),(Value.string ⟨#[91]⟩)])) o fun p q=>
 oP E (xPick d (vB true) p) q fun r s=>
 R r s
def d5r:Hint:=(sQ (sQ hN))
theorem c8t{x0:Value}(h:d5q x0 w R E):Cv pG 133 #[x0] w R E:=okF (h:=d5r) Tryz.func133 (by kernel_rfl) (by kernel_rfl) h
def c0x(x0 w)(R:RT)(E):=
 ∀_τ:Fr,(oP E (xCall (fC 36) [x0]) w fun _t22_7 a=>
 R (vI 0) a)
def c8u(x0 x7 x8 w)(next2:NT)(j1:NT)(R:RT)(E):=
 opK pG E (bC .lss 3 8 x8 (vI 7)) w fun d b=>
 xcond d
 (oP E (xV (Instr.index 203 x7 x8)) b fun e f=>
 oP E (bC .gtr 3 12 x8 (vI 0)) f fun a g=>
 oP E (gYs a (xCall (fC 69) [(zT a x0),(zT a e)])) g fun i j=>
 oP E (xPick a i (vB false)) j fun k c=>
 xcond k
 (R x8 c)
 (oP E (bC .add 3 8 x8 (vI 1)) c fun l m=>
 next2 [l] m))
 (j1 [] b)
def d5s(x0 w)(R:RT)(E):=
 opK pG E (xV (Instr.build 203 #[(0,(eS)),(1,(Value.string ⟨#[60]⟩)),(2,(Value.string ⟨#[60,61]⟩)),(3,(Value.string ⟨#[61,61]⟩)),(4,(Value.string ⟨#[33,61]⟩)),(5,(Value.string ⟨#[62]⟩)),(6,(Value.string ⟨#[62,61]⟩))])) w fun b c=>
 oP E (xV (Instr.alloc 203 true (.tuple #[]))) c fun a d=>
 oP E (sA 203 a b) d fun _ e=>
 xcut (fun _ f=>c0x x0 f R E) fun j1=>
 oP E (lA 203 a) e fun g i=>
 xloop [8] [(vI 0)] i fun j k next2=>
 c8u x0 g (j 8) k next2 j1 R E
def d5t:Hint:=(sQ (sQ (hU [] (sQ (hB (hL [8] (sQ (hS (hC hN hN) (hS (hB (sQ (sQ (hC (sQ hN) hN)))) hN)))))) (sQ (sQ hN)))))
theorem c8v{x0:Value}(h:d5s x0 w R E):Cv pG 134 #[x0] w R E:=okF (h:=d5t) Tryz.func134 (by kernel_rfl) (by kernel_rfl) h
def c0y(w)(R:RT)(_E:Pan):=
 ∀_τ:Fr,(R (vI (-1)) w)
def c8w(x0 x1 x7 x8 w)(next2:NT)(j1:NT)(R:RT)(E):=
 opK pG E (bN .lss 3 8 7 x8 x7) w fun c a=>
 xcond c
 (oP E (iA 67 x0 x8) a fun d e=>
 oP E (lA 9 d) e fun f g=>
 oP E (bN .eql 9 11 15 x1 f) g fun i b=>
 xcond i
 (R x8 b)
 (oP E (bC .add 3 8 x8 (vI 1)) b fun j k=>
 next2 [j] k))
 (j1 [] a)
def d5u(x0 x1 w)(R:RT)(E):=
 xcut (fun _ a=>c0y a R E) fun j1=>
 oP E (xBuiltin .len #[67] 3 [false] [x0]) w fun b c=>
 xloop [8] [(vI 0)] c fun d e next2=>
 c8w x0 x1 b (d 8) e next2 j1 R E
def d5v:Hint:=(sQ (hU [] (sQ (hB (hL [8] (sQ (hS (hC hN hN) (hS (hB (sQ (sQ (hC (sQ hN) hN)))) hN)))))) (sQ hN)))
theorem c8x{x0 x1:Value}(h:d5u x0 x1 w R E):Cv pG 136 #[x0,x1] w R E:=okF (h:=d5v) Tryz.func136 (by kernel_rfl) (by kernel_rfl) h
def c0z(x2 w)(R:RT)(_E:Pan):=
 ∀_τ:Fr,(R x2 w)
def c8y(x2 x4 w)(next2:NT)(j1:NT)(_R:RT)(E):=
 opK pG E (xV (Instr.next x4 true 0)) w fun b c=>
 oP E (xT b 0) c fun d a=>
 xcond d
 (oP E (bC .add 3 7 x2 (vI 1)) a fun e f=>
 next2 [e] f)
 (j1 [x2] a)
def d5w(x0 w)(R:RT)(E):=
 xcut (fun a b=>c0z (nth a 0) b R E) fun j1=>
 oP E (xV (Instr.range 9 x0)) w fun c d=>
 xloop [2] [(vI 0)] d fun e f next2=>
 c8y (e 2) c f next2 j1 R E
def d5x:Hint:=(sQ (hU [2] (sQ (hB (hL [2] (sQ (hS (hC hN hN) (hB hN)))))) (sQ hN)))
theorem c8z{x0:Value}(h:d5w x0 w R E):Cv pG 140 #[x0] w R E:=okF (h:=d5x) Tryz.func140 (by kernel_rfl) (by kernel_rfl) h
def c0A(x3 x59 w)(R:RT)(E):=
 ∀_τ:Fr,(xcond x59
 (oP E (bC .eql 3 65 x3 (vI 2)) w fun a b=>
 R a b)
 (R (vB false) w))
def c0B(x3 x38 x54 w)(R:RT)(E):=
 ∀_τ:Fr,(xcond x54
 (oP E (bC .eql 3 57 x3 (vI 1)) w fun j k=>
 R j k)
 (xcut (fun l m=>c0A x3 (nth l 0) m R E) fun j3=>
 oP E (bC .eql 3 38 x38 (vI 6)) w fun a b=>
 xcond a
 (j3 [a] b)
 (oP E (bC .eql 3 38 x38 (vI 7)) b fun c d=>
 xcond c
 (j3 [c] d)
 (oP E (bC .eql 3 38 x38 (vI 8)) d fun e f=>
 xcond e
 (j3 [e] f)
 (oP E (bC .eql 3 38 x38 (vI 9)) f fun g i=>
 xcond g
 (j3 [g] i)
 (oP E (bC .eql 3 38 x38 (vI 10)) i fun n o=>
 j3 [n] o))))))
def c0C(x3 x38 x49 w)(R:RT)(E):=
 ∀_τ:Fr,(xcond x49
 (oP E (bC .eql 3 52 x3 (vI 0)) w fun c d=>
 R c d)
 (xcut (fun e f=>c0B x3 x38 (nth e 0) f R E) fun j2=>
 oP E (bC .eql 3 38 x38 (vI 4)) w fun a b=>
 xcond a
 (j2 [a] b)
 (oP E (bC .eql 3 38 x38 (vI 5)) b fun g i=>
 j2 [g] i)))
def d5y(x0 w)(R:RT)(E):=
 opK pG E (xV (Instr.box 100 x0)) w fun b n=>
 oP E (fA 100 b 0) n fun o p=>
 oP E (fA 39 o 3) p fun q r=>
 oP E (lA 37 q) r fun s t=>
 oP E (xBuiltin .len #[37] 3 [false] [s]) t fun g u=>
 oP E (lA 100 b) u fun v y=>
 oP E (xV (Instr.makeInterface 100 v)) y fun z aa=>
 oP E (xCall (fC 107) [z]) aa fun i ab=>
 oP E (xT i 0) ab fun _t14_17 ac=>
 oP E (xT i 1) ac fun ad ae=>
 oP E (fA 100 b 0) ae fun af ag=>
 oP E (fA 39 af 0) ag fun ah ai=>
 oP E (lA 3 ah) ai fun aj ak=>
 oP E (bC .neq 3 18 aj (vI 1)) ak fun c al=>
 oP E (gYs c (fA 100 b 0)) al fun am an=>
 oP E (gYs c (fA 39 am 1)) an fun ao ap=>
 oP E (gYs c (lA 2 ao)) ap fun aq ar=>
 oP E (gYs c (bC .neq 2 23 aq (vI 0))) ar fun au av=>
 oP E (xPick c au (vB false)) av fun a aw=>
 oP E (gNo a (xV (Op.unary .not (zF a ad)))) aw fun d ax=>
 oP E (gsem (asB (zF a d)) true (fA 100 b 0)) ax fun ay az=>
 oP E (gsem (asB (zF a d)) true (fA 39 ay 2)) az fun ba bb=>
 oP E (gsem (asB (zF a d)) true (lA 9 ba)) bb fun bc bd=>
 oP E (gsem (asB (zF a d)) true (bC .neq 9 32 bc (eS))) bd fun be bf=>
 oP E (gNo a (xPick (zF a d) be (vB false))) bf fun bg bh=>
 oP E (xPick a (vB true) bg) bh fun bi j=>
 xcond bi
 (R (vB false) j)
 (oP E (fA 100 b 0) j fun bj bk=>
 oP E (fA 39 bj 0) bk fun bl bm=>
 oP E (lA 3 bl) bm fun e bn=>
 oP E (bC .eql 3 38 e (vI 1)) bn fun bo k=>
 xcond bo
 (oP E (fA 100 b 0) k fun bp bq=>
 oP E (fA 39 bp 1) bq fun br bs=>
 oP E (lA 2 br) bs fun bt bu=>
 oP E (bC .geq 2 43 bt (vI 0)) bu fun f bv=>
 oP E (gYs f (bC .eql 3 46 (zT f g) (vI 0))) bv fun bw bz=>
 oP E (xPick f bw (vB false)) bz fun ca cb=>
 R ca cb)
 (xcut (fun cc cd=>c0C g e (nth cc 0) cd R E) fun j1=>
 oP E (bC .eql 3 38 e (vI 2)) k fun l m=>
 xcond l
 (j1 [l] m)
 (oP E (bC .eql 3 38 e (vI 3)) m fun ce cf=>
 j1 [ce] cf)))
def d5z:Hint:=(sQ (sQ (sQ (hS (sQ (hC (sQ hN) hN)) (hS (sQ (hB (sQ (hC (sQ hN) (hU [49] (sQ (hC hN hN)) (hC (sQ hN) (hU [54] (sQ (hC hN hN)) (hC (sQ hN) (hU [59] (sQ (hC hN (sQ (hC hN (sQ (hC hN (sQ (hC hN hN)))))))) (hC (sQ hN) hN)))))))))) (sQ hN))))))
theorem c8A{x0:Value}(h:d5y x0 w R E):Cv pG 170 #[x0] w R E:=okF (h:=d5z) Tryz.func170 (by kernel_rfl) (by kernel_rfl) h
def d5A(x0 w)(R:RT)(E):=
 opK pG E (xV (Instr.box 100 x0)) w fun a b=>
 oP E (fA 100 a 0) b fun c d=>
 oP E (fA 39 c 3) d fun e f=>
 oP E (lA 37 e) f fun g i=>
 oP E (xCall (fC 172) [g,(fC 173)]) i fun j k=>
 R j k
def d5B:Hint:=(sQ (sQ hN))
theorem c8B{x0:Value}(h:d5A x0 w R E):Cv pG 171 #[x0] w R E:=okF (h:=d5B) Tryz.func171 (by kernel_rfl) (by kernel_rfl) h
def c0D(x5 w)(R:RT)(_E:Pan):=
 ∀_τ:Fr,(R x5 w)
def c8C(x1 x5 x8 x9 x10 w)(next2:NT)(j1:NT)(_R:RT)(E):=
 opK pG E (bN .lss 3 10 9 x10 x9) w fun c a=>
 xcond c
 (oP E (iA 37 x8 x10) a fun d e=>
 oP E (lA 39 d) e fun f g=>
 oP E (xV (Instr.alloc 39 true (.tuple #[]))) g fun b i=>
 oP E (sA 39 b f) i fun _ j=>
 oP E (lA 39 b) j fun k l=>
 oP E (xCall x1 [k]) l fun m n=>
 oP E (xV (Instr.buildSlice 101 1 #[(0,m)])) n fun o p=>
 oP E (xBuiltin .append #[101,101] 101 [false,false] [x5,o]) p fun q r=>
 oP E (bC .add 3 10 x10 (vI 1)) r fun s t=>
 next2 [q,s] t)
 (j1 [x5] a)
def d5C(x0 x1 w)(R:RT)(E):=
 xcut (fun b c=>c0D (nth b 0) c R E) fun j1=>
 oP E (xBuiltin .len #[37] 3 [false] [x0]) w fun d e=>
 xloop [5,10] [(nS),(vI 0)] e fun a f next2=>
 c8C x1 (a 5) x0 d (a 10) f next2 j1 R E
def d5D:Hint:=(sQ (sQ (hU [5] (sQ (hB (hL [5,10] (sQ (hS (hC hN hN) (hS (hB (sQ hN)) hN)))))) (sQ hN))))
theorem c8D{x0 x1:Value}(h:d5C x0 x1 w R E):Cv pG 172 #[x0,x1] w R E:=okF (h:=d5D) Tryz.func172 (by kernel_rfl) (by kernel_rfl) h
def d5E(x0 w)(R:RT)(E):=
 opK pG E (xV (Instr.box 39 x0)) w fun a b=>
 oP E (lA 39 a) b fun c d=>
 oP E (xV (Instr.build 100 #[(0,c)])) d fun e f=>
 oP E (xV (Instr.makeInterface 100 e)) f fun g i=>
 R g i
def d5F:Hint:=(sQ (sQ hN))
theorem c8E{x0:Value}(h:d5E x0 w R E):Cv pG 173 #[x0] w R E:=okF (h:=d5F) Tryz.func173 (by kernel_rfl) (by kernel_rfl) h
def d5G(x0 w)(R:RT)(E):=
 opK pG E (xV (Instr.box 143 x0)) w fun b c=>
 oP E (fA 143 b 0) c fun d e=>
 oP E (fA 49 d 1) e fun f g=>
 oP E (lA 3 f) g fun i j=>
 oP E (bC .geq 3 5 i (vI 0)) j fun a k=>
 oP E (gYs a (fA 143 b 0)) k fun l m=>
 oP E (gYs a (fA 49 l 1)) m fun n o=>
 oP E (gYs a (lA 3 n)) o fun p q=>
 oP E (gYs a (bC .leq 3 10 p (vI 2147483647))) q fun r s=>
 oP E (xPick a r (vB false)) s fun t u=>
 R t u
def d5H:Hint:=(sQ (sQ hN))
theorem c8F{x0:Value}(h:d5G x0 w R E):Cv pG 174 #[x0] w R E:=okF (h:=d5H) Tryz.func174 (by kernel_rfl) (by kernel_rfl) h
def d5I(x0 w)(R:RT)(E):=
 opK pG E (xV (Instr.box 143 x0)) w fun _t1_1 a=>
 R (nS) a
def d5J:Hint:=(sQ (sQ hN))
theorem c8G{x0:Value}(h:d5I x0 w R E):Cv pG 175 #[x0] w R E:=okF (h:=d5J) Tryz.func175 (by kernel_rfl) (by kernel_rfl) h
def c0E(x4 x5 x35 x83 w)(R:RT)(E):=
 ∀_τ:Fr,(xcond x83
 (oP E (gYs x5 (lA 236 x4)) w fun b c=>
 oP E (gYs x5 (xV (Instr.build 236 #[(0,(vI 0)),(1,(vI 1))]))) c fun d e=>
 oP E (gYs x5 (bN .eql 236 88 89 b d)) e fun f g=>
 oP E (xPick x5 f (vB false)) g fun i j=>
 R i j)
 (oP E (bC .eql 3 35 x35 (vI 7)) w fun k a=>
 xcond k
 (oP E (gYs x5 (lA 236 x4)) a fun l m=>
 oP E (gYs x5 (xV (Instr.build 236 #[]))) m fun n o=>
 oP E (gYs x5 (bN .eql 236 96 97 l n)) o fun p q=>
 oP E (xPick x5 p (vB false)) q fun r s=>
 R r s)
 (R (vB false) a)))
def d5K(x0 w)(R:RT)(E):=
 opK pG E (xV (Instr.box 145 x0)) w fun a r=>
 oP E (fA 145 a 0) r fun s t=>
 oP E (fA 54 s 4) t fun u v=>
 oP E (lA 23 u) v fun y z=>
 oP E (xBuiltin .len #[23] 3 [false] [y]) z fun aa ab=>
 oP E (fA 145 a 0) ab fun ac ad=>
 oP E (fA 54 ac 5) ad fun ae af=>
 oP E (lA 23 ae) af fun ag ah=>
 oP E (xBuiltin .len #[23] 3 [false] [ag]) ah fun ai aj=>
 oP E (bN .add 3 9 13 aa ai) aj fun ak al=>
 oP E (bC .gtr 3 14 ak (vI 0)) al fun j am=>
 oP E (fA 145 a 0) am fun an ao=>
 oP E (fA 54 an 2) ao fun ap aq=>
 oP E (lA 37 ap) aq fun ar au=>
 oP E (xBuiltin .len #[37] 3 [false] [ar]) au fun av aw=>
 oP E (fA 145 a 0) aw fun ax ay=>
 oP E (fA 54 ax 3) ay fun az ba=>
 oP E (lA 52 az) ba fun bb bc=>
 oP E (xBuiltin .len #[52] 3 [false] [bb]) bc fun bd be=>
 oP E (xV (Instr.build 236 #[(0,av),(1,bd)])) be fun bf bg=>
 oP E (xV (Instr.alloc 236 true (.tuple #[]))) bg fun c bh=>
 oP E (sA 236 c bf) bh fun _ bi=>
 oP E (fA 145 a 0) bi fun bj bk=>
 oP E (fA 54 bj 1) bk fun bl bm=>
 oP E (lA 9 bl) bm fun bn bo=>
 oP E (bC .eql 9 27 bn (eS)) bo fun k bp=>
 oP E (gYs k (xV (Op.unary .not (zT k j)))) bp fun bq br=>
 oP E (xPick k bq (vB false)) br fun bs bt=>
 oP E (fA 145 a 0) bt fun bu bv=>
 oP E (fA 54 bu 0) bv fun bw bz=>
 oP E (lA 3 bw) bz fun b ca=>
 oP E (bC .eql 3 35 b (vI 1)) ca fun cb l=>
 xcond cb
 (oP E (xV (Op.unary .not j)) l fun e cc=>
 oP E (gYs e (lA 236 c)) cc fun cd ce=>
 oP E (gYs e (xV (Instr.build 236 #[(0,(vI 1)),(1,(vI 0))]))) ce fun cf cg=>
 oP E (gYs e (bN .eql 236 41 42 cd cf)) cg fun ch ci=>
 oP E (xPick e ch (vB false)) ci fun cj ck=>
 R cj ck)
 (oP E (bC .eql 3 35 b (vI 2)) l fun cl m=>
 xcond cl
 (oP E (xV (Op.unary .not j)) m fun f cm=>
 oP E (gYs f (lA 236 c)) cm fun cn co=>
 oP E (gYs f (xV (Instr.build 236 #[(0,(vI 2)),(1,(vI 0))]))) co fun cp cq=>
 oP E (gYs f (bN .eql 236 50 51 cn cp)) cq fun cr cs=>
 oP E (xPick f cr (vB false)) cs fun ct cu=>
 R ct cu)
 (oP E (bC .eql 3 35 b (vI 3)) m fun cv n=>
 xcond cv
 (oP E (fA 145 a 0) n fun cw cx=>
 oP E (fA 54 cw 1) cx fun cy cz=>
 oP E (lA 9 cy) cz fun da db=>
 oP E (bC .eql 9 58 da (eS)) db fun g dc=>
 oP E (gYs g (lA 236 c)) dc fun dd de=>
 oP E (gYs g (xV (Instr.build 236 #[(0,(vI 0)),(1,(vI 1))]))) de fun df dg=>
 oP E (gYs g (bN .eql 236 61 62 dd df)) dg fun dh di=>
 oP E (xPick g dh (vB false)) di fun dj dk=>
 R dj dk)
 (oP E (bC .eql 3 35 b (vI 4)) n fun dl o=>
 xcond dl
 (oP E (fA 145 a 0) o fun dm dn=>
 oP E (fA 54 dm 1) dn fun dp dq=>
 oP E (lA 9 dp) dq fun dr ds=>
 oP E (bC .eql 9 69 dr (eS)) ds fun d dt=>
 oP E (gYs d (fA 145 a 0)) dt fun du dv=>
 oP E (gYs d (fA 54 du 5)) dv fun dw dx=>
 oP E (gYs d (lA 23 dw)) dx fun dy dz=>
 oP E (gYs d (xBuiltin .len #[23] 3 [false] [dy])) dz fun ea eb=>
 oP E (gYs d (bC .eql 3 75 ea (vI 0))) eb fun ec ed=>
 oP E (xPick d ec (vB false)) ed fun i ee=>
 oP E (gYs i (lA 236 c)) ee fun ef eg=>
 oP E (gYs i (xV (Instr.build 236 #[(0,(vI 0)),(1,(vI 1))]))) eg fun eh ei=>
 oP E (gYs i (bN .eql 236 79 80 ef eh)) ei fun ej ek=>
 oP E (xPick i ej (vB false)) ek fun el em=>
 R el em)
 (xcut (fun en eo=>c0E c bs b (nth en 0) eo R E) fun j1=>
 oP E (bC .eql 3 35 b (vI 5)) o fun p q=>
 xcond p
 (j1 [p] q)
 (oP E (bC .eql 3 35 b (vI 6)) q fun ep eq=>
 j1 [ep] eq)))))
def d5L:Hint:=(sQ (sQ (sQ (sQ (hS (sQ (hB (sQ (hC (sQ hN) (sQ (hC (sQ hN) (sQ (hC (sQ hN) (sQ (hC (sQ hN) (hU [83] (sQ (hC hN hN)) (hC (sQ hN) (sQ (hC (sQ hN) hN)))))))))))))) (sQ hN))))))
theorem c8H{x0:Value}(h:d5K x0 w R E):Cv pG 176 #[x0] w R E:=okF (h:=d5L) Tryz.func176 (by kernel_rfl) (by kernel_rfl) h
def d5M(x0 w)(R:RT)(E):=
 opK pG E (xV (Instr.box 145 x0)) w fun c n=>
 dX n fun a=>
 qP pG (fA 145 c 0) fun o=>
 qP pG (fA 54 o 3) fun l=>
 qP pG (fA 145 c 0) fun p=>
 qP pG (fA 54 p 2) fun e=>
 qP pG (fA 145 c 0) fun q=>
 qP pG (fA 54 q 4) fun d=>
 qP pG (fA 145 c 0) fun r=>
 qP pG (fA 54 r 5) fun b=>
 qL pG a (blk l) (lA 52 l) fun s=>
 qL pG a (blk e) (lA 37 e) fun t=>
 qL pG a (blk d) (lA 23 d) fun u=>
 qL pG a (blk b) (lA 23 b) fun v=>
 oP E (xCall (fC 178) [s,(fC 179)]) a fun y f=>
 keepX [(blk b),(blk d),(blk e)] a f (opK pG E (xCall (fC 172) [t,(fC 173)]) f fun z g=>
 keepX [(blk b),(blk d)] f g (opK pG E (xCall (fC 54) [u,(fC 55)]) g fun aa i=>
 keepX [(blk b)] g i (opK pG E (xCall (fC 54) [v,(fC 55)]) i fun ab j=>
 keepX [] i j (opK pG E (xV (Instr.buildSlice 140 4 #[(0,y),(1,z),(2,aa),(3,ab)])) j fun ac k=>
 keepX [] j k (opK pG E (xCall (fC 51) [ac]) k fun ad m=>
 keepX [] k m (R ad m))))))
def d5N:Hint:=(sQ (hS (.reg [(0,8,2),(1,16,8),(2,32,16),(4,64,32),(0,128,2),(16,256,128),(32,512,256),(72,1024,512),(0,2048,2),(256,4096,2048),(512,8192,4096),(1152,16384,8192),(0,32768,2),(4096,65536,32768),(8192,131072,65536),(18432,262144,131072),(34952,524288,279616),(98304,1048576,524288),(262143,4,1048576)] [17476,17476,17472,17472,17476,17476,17412,17408,17476,17476,16452,16384,17476,17476,1092,0,0,0,17476] (.early 0 (.early 1 (.early 4 (.early 5 (.early 8 (.early 9 (.early 12 (.early 13 (.load 2 (.load 6 (.load 10 (.load 14 (.step 3 (.step 7 (.step 11 (.step 15 (.step 16 (.step 17 (.early 18 .done)))))))))))))))))))) hN))
theorem c8I{x0:Value}(h:d5M x0 w R E):Cv pG 177 #[x0] w R E:=okF (h:=d5N) Tryz.func177 (by kernel_rfl) (by kernel_rfl) h
def c0F(x5 w)(R:RT)(_E:Pan):=
 ∀_τ:Fr,(R x5 w)
def c8J(x1 x5 x8 x9 x10 w)(next2:NT)(j1:NT)(_R:RT)(E):=
 opK pG E (bN .lss 3 10 9 x10 x9) w fun c a=>
 xcond c
 (oP E (iA 52 x8 x10) a fun d e=>
 oP E (lA 75 d) e fun f g=>
 oP E (xV (Instr.alloc 75 true (.tuple #[]))) g fun b i=>
 oP E (sA 75 b f) i fun _ j=>
 oP E (lA 75 b) j fun k l=>
 oP E (xCall x1 [k]) l fun m n=>
 oP E (xV (Instr.buildSlice 101 1 #[(0,m)])) n fun o p=>
 oP E (xBuiltin .append #[101,101] 101 [false,false] [x5,o]) p fun q r=>
 oP E (bC .add 3 10 x10 (vI 1)) r fun s t=>
 next2 [q,s] t)
 (j1 [x5] a)
def d5O(x0 x1 w)(R:RT)(E):=
 xcut (fun b c=>c0F (nth b 0) c R E) fun j1=>
 oP E (xBuiltin .len #[52] 3 [false] [x0]) w fun d e=>
 xloop [5,10] [(nS),(vI 0)] e fun a f next2=>
 c8J x1 (a 5) x0 d (a 10) f next2 j1 R E
def d5P:Hint:=(sQ (sQ (hU [5] (sQ (hB (hL [5,10] (sQ (hS (hC hN hN) (hS (hB (sQ hN)) hN)))))) (sQ hN))))
theorem c8K{x0 x1:Value}(h:d5O x0 x1 w R E):Cv pG 178 #[x0,x1] w R E:=okF (h:=d5P) Tryz.func178 (by kernel_rfl) (by kernel_rfl) h
def d5Q(x0 w)(R:RT)(E):=
 opK pG E (xV (Instr.box 75 x0)) w fun a b=>
 oP E (lA 75 a) b fun c d=>
 oP E (xV (Instr.build 240 #[(0,c)])) d fun e f=>
 oP E (xV (Instr.makeInterface 240 e)) f fun g i=>
 R g i
def d5R:Hint:=(sQ (sQ hN))
theorem c8L{x0:Value}(h:d5Q x0 w R E):Cv pG 179 #[x0] w R E:=okF (h:=d5R) Tryz.func179 (by kernel_rfl) (by kernel_rfl) h
def c0G(x3 x50 w)(R:RT)(E):=
 ∀_τ:Fr,(xcond x50
 (oP E (lA 242 x3) w fun a b=>
 oP E (xV (Instr.build 242 #[(0,(vI 0)),(1,(vI 2))])) b fun c d=>
 oP E (bN .eql 242 53 54 a c) d fun e f=>
 R e f)
 (R (vB false) w))
def c0H(x3 x38 x39 w)(R:RT)(E):=
 ∀_τ:Fr,(xcond x39
 (oP E (lA 242 x3) w fun d e=>
 oP E (xV (Instr.build 242 #[])) e fun f g=>
 oP E (bN .eql 242 42 43 d f) g fun i j=>
 R i j)
 (oP E (bC .eql 3 38 x38 (vI 4)) w fun k a=>
 xcond k
 (oP E (lA 242 x3) a fun l m=>
 oP E (xV (Instr.build 242 #[(0,(vI 0)),(1,(vI 1))])) m fun n o=>
 oP E (bN .eql 242 47 48 l n) o fun p q=>
 R p q)
 (xcut (fun r s=>c0G x3 (nth r 0) s R E) fun j2=>
 oP E (bC .eql 3 38 x38 (vI 5)) a fun b c=>
 xcond b
 (j2 [b] c)
 (oP E (bC .eql 3 38 x38 (vI 6)) c fun t u=>
 j2 [t] u))))
def d5S(x0 w)(R:RT)(E):=
 opK pG E (xV (Instr.box 240 x0)) w fun a k=>
 oP E (fA 240 a 0) k fun l m=>
 oP E (fA 75 l 2) m fun n o=>
 oP E (lA 37 n) o fun p q=>
 oP E (xBuiltin .len #[37] 3 [false] [p]) q fun r s=>
 oP E (fA 240 a 0) s fun t u=>
 oP E (fA 75 t 3) u fun v y=>
 oP E (lA 52 v) y fun z aa=>
 oP E (xBuiltin .len #[52] 3 [false] [z]) aa fun ab ac=>
 oP E (xV (Instr.build 242 #[(0,r),(1,ab)])) ac fun ad ae=>
 oP E (xV (Instr.alloc 242 true (.tuple #[]))) ae fun d af=>
 oP E (sA 242 d ad) af fun _ ag=>
 oP E (fA 240 a 0) ag fun ah ai=>
 oP E (fA 75 ah 0) ai fun aj ak=>
 oP E (lA 3 aj) ak fun al am=>
 oP E (bC .eql 3 15 al (vI 3)) am fun an f=>
 xcond an
 (oP E (fA 240 a 0) f fun ao ap=>
 oP E (fA 75 ao 1) ap fun aq ar=>
 oP E (lA 3 aq) ar fun au av=>
 oP E (bC .geq 3 19 au (vI 1)) av fun b aw=>
 oP E (gYs b (fA 240 a 0)) aw fun ax ay=>
 oP E (gYs b (fA 75 ax 1)) ay fun az ba=>
 oP E (gYs b (lA 3 az)) ba fun bb bc=>
 oP E (gYs b (bC .leq 3 24 bb (vI 6))) bc fun bd be=>
 oP E (xPick b bd (vB false)) be fun c bf=>
 oP E (gYs c (lA 242 d)) bf fun bg bh=>
 oP E (gYs c (xV (Instr.build 242 #[(0,(vI 2)),(1,(vI 0))]))) bh fun bi bj=>
 oP E (gYs c (bN .eql 242 28 29 bg bi)) bj fun bk bl=>
 oP E (xPick c bk (vB false)) bl fun bm bn=>
 R bm bn)
 (oP E (fA 240 a 0) f fun bo bp=>
 oP E (fA 75 bo 1) bp fun bq br=>
 oP E (lA 3 bq) br fun bs bt=>
 oP E (bC .neq 3 34 bs (vI 0)) bt fun bu g=>
 xcond bu
 (R (vB false) g)
 (oP E (fA 240 a 0) g fun bv bw=>
 oP E (fA 75 bv 0) bw fun bz ca=>
 oP E (lA 3 bz) ca fun e cb=>
 xcut (fun cc cd=>c0H d e (nth cc 0) cd R E) fun j1=>
 oP E (bC .eql 3 38 e (vI 1)) cb fun i j=>
 xcond i
 (j1 [i] j)
 (oP E (bC .eql 3 38 e (vI 2)) j fun ce cf=>
 j1 [ce] cf)))
def d5T:Hint:=(sQ (sQ (hS (sQ (hC (sQ hN) hN)) (hS (sQ (hC (sQ hN) hN)) (hS (sQ (hB (hU [39] (sQ (hC hN hN)) (hC (sQ hN) (sQ (hC (sQ hN) (hU [50] (sQ (hC hN hN)) (hC (sQ hN) hN)))))))) (sQ hN))))))
theorem c8M{x0:Value}(h:d5S x0 w R E):Cv pG 184 #[x0] w R E:=okF (h:=d5T) Tryz.func184 (by kernel_rfl) (by kernel_rfl) h
def d5U(x0 w)(R:RT)(E):=
 opK pG E (xV (Instr.box 240 x0)) w fun f j=>
 dX j fun a=>
 qP pG (fA 240 f 0) fun k=>
 qP pG (fA 75 k 2) fun g=>
 qP pG (fA 240 f 0) fun l=>
 qP pG (fA 75 l 3) fun b=>
 qL pG a (blk g) (lA 37 g) fun m=>
 qL pG a (blk b) (lA 52 b) fun n=>
 oP E (xCall (fC 172) [m,(fC 173)]) a fun o c=>
 keepX [(blk b)] a c (opK pG E (xCall (fC 178) [n,(fC 179)]) c fun p d=>
 keepX [] c d (opK pG E (xV (Instr.buildSlice 140 2 #[(0,o),(1,p)])) d fun q e=>
 keepX [] d e (opK pG E (xCall (fC 51) [q]) e fun r i=>
 keepX [] e i (R r i))))
def d5V:Hint:=(sQ (hS (.reg [(0,8,2),(1,16,8),(2,32,16),(4,64,32),(0,128,2),(16,256,128),(32,512,256),(72,1024,512),(136,2048,1088),(384,4096,2048),(1023,4,4096)] [68,68,64,64,68,68,4,0,0,0,68] (.early 0 (.early 1 (.early 4 (.early 5 (.load 2 (.load 6 (.step 3 (.step 7 (.step 8 (.step 9 (.early 10 .done)))))))))))) hN))
theorem c8N{x0:Value}(h:d5U x0 w R E):Cv pG 185 #[x0] w R E:=okF (h:=d5V) Tryz.func185 (by kernel_rfl) (by kernel_rfl) h
end Go.Proofs.YtoflkliecagjcaaGreatDoor
