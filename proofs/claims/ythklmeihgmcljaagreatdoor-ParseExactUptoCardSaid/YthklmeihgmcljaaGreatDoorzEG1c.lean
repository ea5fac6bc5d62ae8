/- The second reading of some of the program's functions, printed by gen2.py off the code; each is held against the code by the kernel. -/
import Derived.KernelRfl
import Derived.Test.YthklmeihgmcljaaGreatDoorzEGz
namespace Go.Proofs.YthklmeihgmcljaaGreatDoor
open Go.RowKit
set_option maxRecDepth 100000
variable {w:World}{R:RT}{E:Pan}
def c2e(x0 w)(R:RT)(E):=
 ∀_τ:Fr,(oP E (xCall (fC 52) [x0]) w fun _t22_7 a=>
 R (vI 0) a)
def c9G(x0 x7 x8 w)(next2:NT)(j1:NT)(R:RT)(E):=
 opK pG E (bC .lss 3 8 x8 (vI 7)) w fun d b=>
 xcond d
 (oP E (xV (Instr.index 195 x7 x8)) b fun e f=>
 oP E (bC .gtr 3 12 x8 (vI 0)) f fun a g=>
 oP E (gT a (xCall (fC 105) [(zT a x0),(zT a e)])) g fun i j=>
 oP E (xPick a i (vB false)) j fun k c=>
 xcond k
 (R x8 c)
 (oP E (bC .add 3 8 x8 (vI 1)) c fun l m=>
 next2 [l] m))
 (j1 [] b)
def d6S(x0 w)(R:RT)(E):=
 opK pG E (xV (Instr.build 195 #[(0,(eS)),(1,(Value.string ⟨#[60]⟩)),(2,(Value.string ⟨#[60,61]⟩)),(3,(Value.string ⟨#[61,61]⟩)),(4,(Value.string ⟨#[33,61]⟩)),(5,(Value.string ⟨#[62]⟩)),(6,(Value.string ⟨#[62,61]⟩))])) w fun b c=>
 oP E (xV (Instr.alloc 195 true (.tuple #[]))) c fun a d=>
 oP E (sA 195 a b) d fun _ e=>
 xcut (fun _ f=>c2e x0 f R E) fun j1=>
 oP E (lA 195 a) e fun g i=>
 xloop [8] [(vI 0)] i fun j k next2=>
 c9G x0 g (j 8) k next2 j1 R E
def d6T:Hint:=(sQ (sQ (hU [] (sQ (hB (hL [8] (sQ (hS (hC hN hN) (hS (hB (sQ (sQ (hC (sQ hN) hN)))) hN)))))) (sQ (sQ hN)))))
theorem c9H{x0:Value}(h:d6S x0 w R E):Cv pG 126 #[x0] w R E:=okF (h:=d6T) Tryz.func126 (by kernel_rfl) (by kernel_rfl) h
def d6U(x0 x1 w)(R:RT)(E):=
 opK pG E (xV (Instr.alloc 49 true (.tuple #[]))) w fun a af=>
 oP E (xNil x0) af fun ag ah=>
 oP E (fA 66 ag 2) ah fun ai aj=>
 oP E (lA 3 ai) aj fun ak al=>
 oP E (bC .neq 3 11 ak (vI 0)) al fun am l=>
 xcond am
 (oP E (xV (Instr.build 49 #[])) l fun an ao=>
 oP E (sA 49 a an) ao fun _ m=>
 xcell pG 49 a m fun ap=>
 R ap m)
 (oP E (xCall (fC 146) [x0]) l fun aq ar=>
 oP E (xV (Op.unary .not aq)) ar fun b au=>
 oP E (gT b (xCall (fC 23) [(zT b x0),(Value.string ⟨#[116,114,117,101]⟩)])) au fun av aw=>
 oP E (gT b (xV (Op.unary .not av))) aw fun ax ay=>
 oP E (xPick b ax (vB false)) ay fun c az=>
 oP E (gT c (xCall (fC 23) [(zT c x0),(Value.string ⟨#[102,97,108,115,101]⟩)])) az fun ba bb=>
 oP E (gT c (xV (Op.unary .not ba))) bb fun bc bd=>
 oP E (xPick c bc (vB false)) bd fun d be=>
 oP E (gT d (xCall (fC 23) [(zT d x0),(Value.string ⟨#[33]⟩)])) be fun bf bg=>
 oP E (gT d (xV (Op.unary .not bf))) bg fun bh bi=>
 oP E (xPick d bh (vB false)) bi fun e bj=>
 oP E (gT e (xCall (fC 23) [(zT e x0),(Value.string ⟨#[91]⟩)])) bj fun bk bl=>
 oP E (gT e (xV (Op.unary .not bk))) bl fun bm bn=>
 oP E (xPick e bm (vB false)) bn fun bo n=>
 xcond bo
 (oP E (xCall (fC 66) [x0,(vI 40)]) n fun _t38_44 bp=>
 oP E (xV (Instr.build 49 #[])) bp fun bq br=>
 oP E (sA 49 a bq) br fun _ o=>
 xcell pG 49 a o fun bs=>
 R bs o)
 (oP E (xCall (fC 114) [x0,x1]) n fun _t42_51 bt=>
 oP E (xNil x0) bt fun bu bv=>
 oP E (fA 66 bu 2) bv fun bw bz=>
 oP E (lA 3 bw) bz fun ca cb=>
 oP E (bC .neq 3 46 ca (vI 0)) cb fun cc p=>
 xcond cc
 (oP E (xV (Instr.build 49 #[])) p fun cd ce=>
 oP E (sA 49 a cd) ce fun _ q=>
 xcell pG 49 a q fun cf=>
 R cf q)
 (oP E (xCall (fC 67) [x0,(Value.string ⟨#[116,114,117,101]⟩)]) p fun cg r=>
 xcond cg
 (oP E (xV (Instr.build 49 #[(0,(vI 1))])) r fun ch ci=>
 oP E (sA 49 a ch) ci fun _ s=>
 xcell pG 49 a s fun cj=>
 R cj s)
 (oP E (xCall (fC 67) [x0,(Value.string ⟨#[102,97,108,115,101]⟩)]) r fun ck t=>
 xcond ck
 (oP E (xV (Instr.build 49 #[(0,(vI 2))])) t fun cl cm=>
 oP E (sA 49 a cl) cm fun _ u=>
 xcell pG 49 a u fun cn=>
 R cn u)
 (oP E (xCall (fC 67) [x0,(Value.string ⟨#[33]⟩)]) t fun co v=>
 xcond co
 (oP E (bC .add 3 61 x1 (vI 1)) v fun cp cq=>
 oP E (xCall (fC 127) [x0,cp]) cq fun cr cs=>
 oP E (xV (Instr.buildSlice 47 1 #[(0,cr)])) cs fun ct cu=>
 oP E (xV (Instr.build 49 #[(0,(vI 4)),(3,ct)])) cu fun cv cw=>
 oP E (sA 49 a cv) cw fun _ y=>
 xcell pG 49 a y fun cx=>
 R cx y)
 (oP E (xCall (fC 67) [x0,(Value.string ⟨#[91]⟩)]) v fun cy z=>
 xcond cy
 (oP E (bC .add 3 70 x1 (vI 1)) z fun cz da=>
 oP E (xCall (fC 43) [x0,cz]) da fun db dc=>
 oP E (xV (Instr.alloc 49 true (.tuple #[]))) dc fun aa dd=>
 oP E (sA 49 aa db) dd fun _ de=>
 oP E (xCall (fC 65) [x0,(Value.string ⟨#[93]⟩)]) de fun _t74_103 df=>
 oP E (lA 49 aa) df fun dg dh=>
 oP E (sA 49 a dg) dh fun _ ab=>
 xcell pG 49 a ab fun di=>
 R di ab)
 (oP E (xCall (fC 37) [x0,x1]) z fun dj dk=>
 oP E (xV (Instr.alloc 40 true (.tuple #[]))) dk fun f dl=>
 oP E (sA 40 f dj) dl fun _ dm=>
 oP E (xCall (fC 147) [x0]) dm fun ac dn=>
 oP E (bC .eql 3 81 ac (vI 0)) dn fun dp ad=>
 xcond dp
 (oP E (xCall (fC 66) [x0,(vI 40)]) ad fun _t84_120 dq=>
 oP E (xV (Instr.build 49 #[])) dq fun dr ds=>
 oP E (sA 49 a dr) ds fun _ ae=>
 xcell pG 49 a ae fun dt=>
 R dt ae)
 (oP E (xNil x0) ad fun du dv=>
 oP E (fA 66 du 1) dv fun dw dx=>
 oP E (lA 3 dw) dx fun dy dz=>
 oP E (bC .add 3 89 dy (vI 1)) dz fun ea eb=>
 oP E (xNil x0) eb fun ec ed=>
 oP E (fA 66 ec 1) ed fun ee ef=>
 oP E (sA 3 ee ea) ef fun _ eg=>
 dX eg fun g=>
 qL pG g (blk f) (lA 40 f) fun eh=>
 oP E (xCall (fC 37) [x0,x1]) g fun ei i=>
 keepX [(blk f)] g i (opK pG E (xV (Instr.buildSlice 38 2 #[(0,eh),(1,ei)])) i fun ej j=>
 keepX [] i j (qP pG (xV (Instr.build 49 #[(0,(vI 3)),(1,ac),(2,ej)])) fun ek=>
 oP E (sA 49 a ek) j fun _ k=>
 keepX [] j k (xcell pG 49 a k fun el=>
 R el k)))))))))))
def d6V:Hint:=(sQ (hS (sQ (hC (sQ hN) hN)) (hS (sQ (hC (sQ (sQ hN)) hN)) (sQ (hS (sQ (hC (sQ hN) hN)) (hS (hB (sQ (hC (sQ hN) (sQ (hC (sQ hN) (sQ (hC (sQ hN) (sQ (hC (sQ (sQ (sQ hN))) hN))))))))) (sQ (sQ (hS (sQ (hC (sQ (sQ hN)) hN)) (sQ (hS (.reg [(0,9903520314283042199192993792,128),(0,19807040628566084398385987584,64),(0,39614081257132168796771975168,1),(0,79228162514264337593543950336,2),(12,158456325028528675187087900672,118842243771396506390315925504),(18,316912650057057350374175801344,178263365657094759585473888256),(33,633825300114114700748351602688,326816170371340392573368795136),(127,0,633825300114114700748351602704)] [2,0,2,2,2,0,2,0] (.early 0 (.early 2 (.early 3 (.load 1 (.step 4 (.step 5 (.early 6 (.step 7 .done))))))))) hN)))))))))))
theorem c9I{x0 x1:Value}(h:d6U x0 x1 w R E):Cv pG 127 #[x0,x1] w R E:=okF (h:=d6V) Tryz.func127 (by kernel_rfl) (by kernel_rfl) h
def c0l(w)(R:RT)(E):=
 opK pG E (xV (Instr.alloc 28 true (.tuple #[]))) w fun a c=>
 oP E (xV (Instr.build 28 #[(0,(vI 1)),(1,(vI 1))])) c fun d e=>
 oP E (sA 28 a d) e fun _ b=>
 xcell pG 28 a b fun f=>
 R f b
def c3y:Hint:=(sQ (sQ hN))
theorem c2f(h:c0l  w R E):Cv pG 129 #[] w R E:=okF (h:=c3y) Tryz.func129 (by kernel_rfl) (by kernel_rfl) h
def d6W(x0 w)(R:RT)(E):=
 opK pG E (xCall (fC 132) [x0]) w fun b c=>
 oP E (bC .eql 3 6 b (vI 1)) c fun a d=>
 oP E (gF a (bC .eql 3 9 (zF a b) (vI 2))) d fun e f=>
 oP E (xPick a (vB true) e) f fun g i=>
 R g i
def d6X:Hint:=(sQ (sQ (sQ hN)))
theorem c9J{x0:Value}(h:d6W x0 w R E):Cv pG 131 #[x0] w R E:=okF (h:=d6X) Tryz.func131 (by kernel_rfl) (by kernel_rfl) h
def c2g(x39 w)(R:RT)(_E:Pan):=
 ∀_τ:Fr,(xcond x39
 (R (vI 3) w)
 (R (vI 6) w))
def c2h(x1 x31 w)(R:RT)(E):=
 ∀_τ:Fr,(xcond x31
 (R (vI 6) w)
 (oP E (xV (Instr.makeFunc (.func 151) #[] #[x1])) w fun a n=>
 oP E (xCall a [(Value.int .i32 48),(Value.int .i32 57)]) n fun o b=>
 xcond o
 (R (vI 4) b)
 (xcut (fun p q=>c2g (nth p 0) q R E) fun j4=>
 oP E (lA 21 x1) b fun r s=>
 oP E (bC .eql 21 40 r (Value.int .i32 95)) s fun c d=>
 xcond c
 (j4 [c] d)
 (oP E (xCall a [(Value.int .i32 97),(Value.int .i32 122)]) d fun e f=>
 xcond e
 (j4 [e] f)
 (oP E (xCall a [(Value.int .i32 65),(Value.int .i32 90)]) f fun g i=>
 xcond g
 (j4 [g] i)
 (oP E (xCall a [(Value.int .i32 192),(Value.int .i32 591)]) i fun j k=>
 xcond j
 (j4 [j] k)
 (oP E (xCall a [(Value.int .i32 913),(Value.int .i32 969)]) k fun l m=>
 xcond l
 (j4 [l] m)
 (oP E (xCall a [(Value.int .i32 1040),(Value.int .i32 1103)]) m fun t u=>
 j4 [t] u))))))))
def c2i(x1 x4 x11 w)(R:RT)(E):=
 ∀_τ:Fr,(xcond x11
 (R (vI 5) w)
 (xcut (fun e f=>c2h x1 (nth e 0) f R E) fun j3=>
 oP E (bC .eql 21 4 x4 (Value.int .i32 215)) w fun a b=>
 xcond a
 (j3 [a] b)
 (oP E (bC .eql 21 4 x4 (Value.int .i32 247)) b fun c d=>
 xcond c
 (j3 [c] d)
 (oP E (bC .eql 21 4 x4 (Value.int .i32 930)) d fun g i=>
 j3 [g] i))))
def c2j(x1 x4 x5 w)(R:RT)(E):=
 ∀_τ:Fr,(xcond x5
 (R (vI 1) w)
 (oP E (bC .eql 21 4 x4 (Value.int .i32 10)) w fun ao a=>
 xcond ao
 (R (vI 2) a)
 (xcut (fun ap aq=>c2i x1 x4 (nth ap 0) aq R E) fun j2=>
 oP E (bC .eql 21 4 x4 (Value.int .i32 59)) a fun b c=>
 xcond b
 (j2 [b] c)
 (oP E (bC .eql 21 4 x4 (Value.int .i32 44)) c fun d e=>
 xcond d
 (j2 [d] e)
 (oP E (bC .eql 21 4 x4 (Value.int .i32 123)) e fun f g=>
 xcond f
 (j2 [f] g)
 (oP E (bC .eql 21 4 x4 (Value.int .i32 125)) g fun i j=>
 xcond i
 (j2 [i] j)
 (oP E (bC .eql 21 4 x4 (Value.int .i32 40)) j fun k l=>
 xcond k
 (j2 [k] l)
 (oP E (bC .eql 21 4 x4 (Value.int .i32 41)) l fun m n=>
 xcond m
 (j2 [m] n)
 (oP E (bC .eql 21 4 x4 (Value.int .i32 91)) n fun o p=>
 xcond o
 (j2 [o] p)
 (oP E (bC .eql 21 4 x4 (Value.int .i32 93)) p fun q r=>
 xcond q
 (j2 [q] r)
 (oP E (bC .eql 21 4 x4 (Value.int .i32 61)) r fun s t=>
 xcond s
 (j2 [s] t)
 (oP E (bC .eql 21 4 x4 (Value.int .i32 33)) t fun u v=>
 xcond u
 (j2 [u] v)
 (oP E (bC .eql 21 4 x4 (Value.int .i32 60)) v fun y z=>
 xcond y
 (j2 [y] z)
 (oP E (bC .eql 21 4 x4 (Value.int .i32 62)) z fun aa ab=>
 xcond aa
 (j2 [aa] ab)
 (oP E (bC .eql 21 4 x4 (Value.int .i32 43)) ab fun ac ad=>
 xcond ac
 (j2 [ac] ad)
 (oP E (bC .eql 21 4 x4 (Value.int .i32 45)) ad fun ae af=>
 xcond ae
 (j2 [ae] af)
 (oP E (bC .eql 21 4 x4 (Value.int .i32 42)) af fun ag ah=>
 xcond ag
 (j2 [ag] ah)
 (oP E (bC .eql 21 4 x4 (Value.int .i32 47)) ah fun ai aj=>
 xcond ai
 (j2 [ai] aj)
 (oP E (bC .eql 21 4 x4 (Value.int .i32 37)) aj fun ak al=>
 xcond ak
 (j2 [ak] al)
 (oP E (bC .eql 21 4 x4 (Value.int .i32 38)) al fun am an=>
 xcond am
 (j2 [am] an)
 (oP E (bC .eql 21 4 x4 (Value.int .i32 124)) an fun ar au=>
 j2 [ar] au)))))))))))))))))))))
def d6Y(x0 w)(R:RT)(E):=
 opK pG E (xV (Instr.box 21 x0)) w fun b g=>
 oP E (lA 21 b) g fun a i=>
 xcut (fun j k=>c2j b a (nth j 0) k R E) fun j1=>
 oP E (bC .eql 21 4 a (Value.int .i32 32)) i fun c d=>
 xcond c
 (j1 [c] d)
 (oP E (bC .eql 21 4 a (Value.int .i32 9)) d fun e f=>
 xcond e
 (j1 [e] f)
 (oP E (bC .eql 21 4 a (Value.int .i32 13)) f fun l m=>
 j1 [l] m))
def d6Z:Hint:=(sQ (hS (sQ (hB (hU [5] (sQ (hC hN (sQ (hC hN hN)))) (hC (sQ hN) (sQ (hC (sQ hN) (hU [11] (sQ (hC hN (sQ (hC hN (sQ (hC hN (sQ (hC hN (sQ (hC hN (sQ (hC hN (sQ (hC hN (sQ (hC hN (sQ (hC hN (sQ (hC hN (sQ (hC hN (sQ (hC hN (sQ (hC hN (sQ (hC hN (sQ (hC hN (sQ (hC hN (sQ (hC hN (sQ (hC hN hN)))))))))))))))))))))))))))))))))))) (hC (sQ hN) (hU [31] (sQ (hC hN (sQ (hC hN hN)))) (hC (sQ hN) hN)))))))))) (sQ (hS (hB (sQ (hC (sQ hN) (hU [39] (sQ (hC hN (sQ (hC hN (sQ (hC hN (sQ (hC hN (sQ (hC hN hN)))))))))) (hC (sQ hN) hN))))) (sQ hN)))))
theorem c9K{x0:Value}(h:d6Y x0 w R E):Cv pG 132 #[x0] w R E:=okF (h:=d6Z) Tryz.func132 (by kernel_rfl) (by kernel_rfl) h
def a8l(x0 x5 w)(R:RT)(_E:Pan):=
 ∀_τ:Fr,(dX w fun a=>
 qP pG (xNil x0) fun d=>
 qP pG (fA 155 d 0) fun b=>
 qP pG (xNil x0) fun e=>
 qP pG (fA 155 e 1) fun c=>
 qL pG a (blk b) (lA 9 b) fun f=>
 qL pG a (blk c) (lA 3 c) fun g=>
 qP pG (xV (Instr.sliceAt 9 f (some x5) (some g) none)) fun i=>
 R i a)
def b4q(x0 x1 _x5 x6 x7:Value)(w)(next2:NT)(j1:NT)(_R:RT)(E):=
 opK pG E (gT x7 (xCall (zT x7 x1) [(zT x7 x6)])) w fun c d=>
 oP E (xPick x7 c (vB false)) d fun e a=>
 xcond e
 (oP E (xCall (fC 152) [x0]) a fun _t29_27 f=>
 oP E (xCall (fC 100) [x0]) f fun b g=>
 oP E (xT b 0) g fun i j=>
 oP E (xT b 1) j fun k l=>
 next2 [i,k] l)
 (j1 [] a)
def c0m(x0 x1 w)(R:RT)(E):=
 opK pG E (xNil x0) w fun d e=>
 oP E (fA 155 d 1) e fun f g=>
 oP E (lA 3 f) g fun a i=>
 xcut (fun _ j=>a8l x0 a j R E) fun j1=>
 oP E (xCall (fC 100) [x0]) i fun b k=>
 oP E (xT b 0) k fun l m=>
 oP E (xT b 1) m fun n o=>
 xloop [6,7] [l,n] o fun c p next2=>
 b4q x0 x1 a (c 6) (c 7) p next2 j1 R E
def d7a:Hint:=(sQ (sQ (hU [] (sQ (hB (hL [6,7] (hS (sQ (hC hN hN)) (hS (hB hN) hN))))) (hS (.reg [(0,1073741824,1),(1,2147483648,1073741824),(2,4294967296,2147483648),(4,8589934592,4294967296),(0,17179869184,32),(0,34359738368,1),(32,68719476736,34359738368),(64,137438953472,68719476736),(128,274877906944,137438953472),(280,549755813888,300647710720),(1023,16,549755813888)] [264,264,264,256,264,264,264,264,8,264,264] (.early 0 (.early 1 (.early 2 (.early 4 (.early 5 (.early 6 (.early 7 (.load 3 (.load 8 (.early 9 (.early 10 .done)))))))))))) hN))))
theorem b6f{x0 x1:Value}(h:c0m x0 x1 w R E):Cv pG 133 #[x0,x1] w R E:=okF (h:=d7a) Tryz.func133 (by kernel_rfl) (by kernel_rfl) h
def d7b(x0 x1 w)(R:RT)(E):=
 opK pG E (xCall (fC 153) [x0,x1]) w fun a b=>
 R a b
def d7c:Hint:=(sQ (sQ hN))
theorem c9L{x0 x1:Value}(h:d7b x0 x1 w R E):Cv pG 134 #[x0,x1] w R E:=okF (h:=d7c) Tryz.func134 (by kernel_rfl) (by kernel_rfl) h
def d7d(x0 w)(R:RT)(_E:Pan):=
 dX w fun a=>
 qP pG (xNil x0) fun d=>
 qP pG (fA 155 d 0) fun b=>
 qP pG (xNil x0) fun e=>
 qP pG (fA 155 e 1) fun c=>
 qL pG a (blk b) (lA 9 b) fun f=>
 qL pG a (blk c) (lA 3 c) fun g=>
 qP pG (xV (Instr.sliceAt 9 f (some g) none none)) fun i=>
 R i a
def d7e:Hint:=(sQ (hS (.reg [(0,8,1),(1,16,8),(2,32,16),(4,64,32),(0,128,1),(16,256,128),(32,512,256),(64,1024,512),(136,2048,1088),(511,4,2048)] [136,136,136,128,136,136,136,8,136,136] (.early 0 (.early 1 (.early 2 (.early 4 (.early 5 (.early 6 (.load 3 (.load 7 (.early 8 (.early 9 .done))))))))))) hN))
theorem c9M{x0:Value}(h:d7d x0 w R E):Cv pG 135 #[x0] w R E:=okF (h:=d7e) Tryz.func135 (by kernel_rfl) (by kernel_rfl) h
def d7f(x0 w)(R:RT)(E):=
 opK pG E (bC .neq 21 3 x0 (Value.int .i32 10)) w fun a b=>
 R a b
def d7g:Hint:=(sQ (sQ hN))
theorem c9N{x0:Value}(h:d7f x0 w R E):Cv pG 136 #[x0] w R E:=okF (h:=d7g) Tryz.func136 (by kernel_rfl) (by kernel_rfl) h
def c2k(x2 x4 w)(R:RT)(E):=
 ∀_τ:Fr,(oP E (lA 103 x4) w fun b c=>
 oP E (sA 103 x2 b) c fun _ a=>
 xcell pG 103 x2 a fun d=>
 R (Value.tuple #[d,(vI 0)]) a)
def d7h(x0 w)(R:RT)(E):=
 opK pG E (xV (Instr.alloc 103 true (.tuple #[]))) w fun b f=>
 oP E (xCall (fC 133) [x0,(fC 154)]) f fun g i=>
 oP E (xV (Instr.build 103 #[(0,(vI 1)),(1,g)])) i fun j k=>
 oP E (xV (Instr.alloc 103 true (.tuple #[]))) k fun a l=>
 oP E (sA 103 a j) l fun _ m=>
 xcut (fun _ n=>c2k b a n R E) fun j1=>
 oP E (fA 103 a 1) m fun o p=>
 oP E (lA 9 o) p fun q r=>
 oP E (xCall (fC 155) [q]) r fun s c=>
 xcond s
 (oP E (fA 103 a 0) c fun t u=>
 oP E (sA 3 t (vI 3)) u fun _ v=>
 j1 [] v)
 (oP E (fA 103 a 1) c fun y z=>
 oP E (lA 9 y) z fun aa ab=>
 oP E (xCall (fC 156) [aa]) ab fun ac d=>
 xcond ac
 (oP E (lA 103 a) d fun ad ae=>
 oP E (sA 103 b ad) ae fun _ e=>
 xcell pG 103 b e fun af=>
 R (Value.tuple #[af,(vI 22)]) e)
 (j1 [] d))
def d7i:Hint:=(sQ (sQ (hU [] (hB (sQ (hC hN (sQ (hC (sQ hN) hN))))) (sQ hN))))
theorem c9O{x0:Value}(h:d7h x0 w R E):Cv pG 137 #[x0] w R E:=okF (h:=d7i) Tryz.func137 (by kernel_rfl) (by kernel_rfl) h
def d7j(x0 w)(R:RT)(E):=
 opK pG E (xV (Instr.alloc 103 true (.tuple #[]))) w fun e m=>
 oP E (xCall (fC 133) [x0,(fC 157)]) m fun n o=>
 oP E (xV (Instr.build 103 #[(0,(vI 2)),(1,n)])) o fun p q=>
 oP E (xV (Instr.alloc 103 true (.tuple #[]))) q fun c r=>
 oP E (sA 103 c p) r fun _ s=>
 oP E (fA 103 c 1) s fun t u=>
 oP E (lA 9 t) u fun v y=>
 oP E (xCall (fC 158) [v,(vI 10),(vI 64)]) y fun g z=>
 oP E (xT g 0) z fun aa ab=>
 oP E (xT g 1) ab fun ac ad=>
 oP E (xCall (fC 100) [x0]) ad fun i ae=>
 oP E (xT i 0) ae fun af ag=>
 oP E (xT i 1) ag fun f ah=>
 oP E (xBin .neq 200 (.tmp 23) (.const Value.nilIface) ac Value.nilIface) ah fun a ai=>
 oP E (gF a (fA 103 c 1)) ai fun aj ak=>
 oP E (gF a (lA 9 aj)) ak fun al am=>
 oP E (gF a (xBuiltin .len #[9] 3 [false] [al])) am fun an ao=>
 oP E (gF a (bC .gtr 3 28 an (vI 1))) ao fun d ap=>
 oP E (gsem (asB (zF a d)) true (fA 103 c 1)) ap fun aq ar=>
 oP E (gsem (asB (zF a d)) true (lA 9 aq)) ar fun au av=>
 oP E (gsem (asB (zF a d)) true (xV (Instr.index 9 au (vI 0)))) av fun aw ax=>
 oP E (gsem (asB (zF a d)) true (bC .eql 5 33 aw (Value.int .u8 48))) ax fun ay az=>
 oP E (gF a (xPick (zF a d) ay (vB false))) az fun ba bb=>
 oP E (xPick a (vB true) ba) bb fun b bc=>
 oP E (gsem (asB (zF b (zF b f))) true (xCall (fC 132) [(gval (asB (zF b (zF b f))) true af)])) bc fun bd be=>
 oP E (gsem (asB (zF b (zF b f))) true (bC .eql 3 41 bd (vI 3))) be fun bf bg=>
 oP E (gF b (xPick (zF b (zF b f)) bf (vB false))) bg fun bh bi=>
 oP E (xPick b (vB true) bh) bi fun bj j=>
 xcond bj
 (oP E (lA 103 c) j fun bk bl=>
 oP E (sA 103 e bk) bl fun _ k=>
 xcell pG 103 e k fun bm=>
 R (Value.tuple #[bm,(vI 21)]) k)
 (oP E (fA 103 c 2) j fun bn bo=>
 oP E (sA 2 bn aa) bo fun _ bp=>
 oP E (lA 103 c) bp fun bq br=>
 oP E (sA 103 e bq) br fun _ l=>
 xcell pG 103 e l fun bs=>
 R (Value.tuple #[bs,(vI 0)]) l)
def d7k:Hint:=(sQ (sQ (sQ (sQ (hS (sQ (hC (sQ hN) hN)) (sQ (sQ hN)))))))
theorem c9P{x0:Value}(h:d7j x0 w R E):Cv pG 138 #[x0] w R E:=okF (h:=d7k) Tryz.func138 (by kernel_rfl) (by kernel_rfl) h
def c2l(x0 x2 w)(R:RT)(E):=
 ∀_τ:Fr,(oP E (xCall (fC 135) [x0]) w fun f g=>
 oP E (xV (Instr.sliceAt 9 f none (some (vI 1)) none)) g fun a i=>
 oP E (xCall (fC 152) [x0]) i fun _t26_7 j=>
 oP E (bC .eql 9 27 a (Value.string ⟨#[38]⟩)) j fun b k=>
 oP E (gF b (bC .eql 9 30 (zF b a) (Value.string ⟨#[124]⟩))) k fun l m=>
 oP E (xPick b (vB true) l) m fun n c=>
 xcond n
 (oP E (xV (Instr.build 103 #[])) c fun o p=>
 oP E (sA 103 x2 o) p fun _ d=>
 xcell pG 103 x2 d fun q=>
 R (Value.tuple #[q,(vI 20)]) d)
 (oP E (xV (Instr.build 103 #[(0,(vI 4)),(1,a)])) c fun r s=>
 oP E (sA 103 x2 r) s fun _ e=>
 xcell pG 103 x2 e fun t=>
 R (Value.tuple #[t,(vI 0)]) e))
def c9Q(x0 x2 x7 x8 w)(next2:NT)(j1:NT)(R:RT)(E):=
 opK pG E (bC .lss 3 8 x8 (vI 6)) w fun e a=>
 xcond e
 (oP E (xV (Instr.index 203 x7 x8)) a fun b f=>
 oP E (xCall (fC 135) [x0]) f fun g i=>
 oP E (xCall (fC 134) [g,b]) i fun j c=>
 xcond j
 (oP E (xCall (fC 152) [x0]) c fun _t16_37 k=>
 oP E (xCall (fC 152) [x0]) k fun _t18_39 l=>
 oP E (xV (Instr.build 103 #[(0,(vI 4)),(1,b)])) l fun m n=>
 oP E (sA 103 x2 m) n fun _ d=>
 xcell pG 103 x2 d fun o=>
 R (Value.tuple #[o,(vI 0)]) d)
 (oP E (bC .add 3 8 x8 (vI 1)) c fun p q=>
 next2 [p] q))
 (j1 [] a)
def d7l(x0 w)(R:RT)(E):=
 opK pG E (xV (Instr.alloc 103 true (.tuple #[]))) w fun a b=>
 xcut (fun _ c=>c2l x0 a c R E) fun j1=>
 oP E (xV (Instr.build 203 #[(0,(Value.string ⟨#[61,61]⟩)),(1,(Value.string ⟨#[33,61]⟩)),(2,(Value.string ⟨#[60,61]⟩)),(3,(Value.string ⟨#[62,61]⟩)),(4,(Value.string ⟨#[38,38]⟩)),(5,(Value.string ⟨#[124,124]⟩))])) b fun d e=>
 xloop [8] [(vI 0)] e fun f g next2=>
 c9Q x0 a d (f 8) g next2 j1 R E
def d7m:Hint:=(sQ (hU [] (sQ (hB (hL [8] (sQ (hS (hC hN hN) (hS (hB (sQ (sQ (hC (sQ (sQ (sQ hN))) hN)))) hN)))))) (sQ (sQ (hS (sQ (hC (sQ hN) hN)) (sQ hN))))))
theorem c9R{x0:Value}(h:d7l x0 w R E):Cv pG 139 #[x0] w R E:=okF (h:=d7m) Tryz.func139 (by kernel_rfl) (by kernel_rfl) h
def d7n(w)(R:RT)(E):=
 opK pG E (xV (Instr.alloc 103 true (.tuple #[]))) w fun a c=>
 oP E (xV (Instr.build 103 #[])) c fun d e=>
 oP E (sA 103 a d) e fun _ b=>
 xcell pG 103 a b fun f=>
 R (Value.tuple #[f,(vI 20)]) b
def d7o:Hint:=(sQ (sQ hN))
theorem c9S(h:d7n  w R E):Cv pG 140 #[] w R E:=okF (h:=d7o) Tryz.func140 (by kernel_rfl) (by kernel_rfl) h
def d7p(x0 w)(R:RT)(E):=
 opK pG E (xCall (fC 51) [x0]) w fun f g=>
 oP E (xV (Instr.field 103 f 0)) g fun e i=>
 oP E (bC .eql 3 7 e (vI 1)) i fun a j=>
 oP E (gF a (bC .eql 3 10 (zF a e) (vI 2))) j fun k l=>
 oP E (xPick a (vB true) k) l fun b m=>
 oP E (gF b (xCall (fC 53) [(zF b x0),(Value.string ⟨#[45]⟩)])) m fun n o=>
 oP E (xPick b (vB true) n) o fun c p=>
 oP E (gF c (xCall (fC 53) [(zF c x0),(Value.string ⟨#[105,110,112,117,116]⟩)])) p fun q r=>
 oP E (xPick c (vB true) q) r fun d s=>
 oP E (gF d (xCall (fC 53) [(zF d x0),(Value.string ⟨#[40]⟩)])) s fun t u=>
 oP E (xPick d (vB true) t) u fun v y=>
 R v y
def d7q:Hint:=(sQ (sQ (sQ hN)))
theorem c9T{x0:Value}(h:d7p x0 w R E):Cv pG 141 #[x0] w R E:=okF (h:=d7q) Tryz.func141 (by kernel_rfl) (by kernel_rfl) h
def c2m(w)(R:RT)(_E:Pan):=
 ∀_τ:Fr,(R (vI 6) w)
def c9U(x0 x3 x4 w)(next2:NT)(j1:NT)(R:RT)(E):=
 opK pG E (xBuiltin .len #[9] 3 [false] [x3]) w fun c d=>
 oP E (bN .lss 3 53 55 x4 c) d fun e a=>
 xcond e
 (oP E (xV (Instr.index 9 x3 x4)) a fun f g=>
 oP E (xV (convert 5 3 f)) g fun i j=>
 oP E (bN .eql 3 59 63 x0 i) j fun k b=>
 xcond k
 (R (vI 5) b)
 (oP E (bC .add 3 57 x4 (vI 1)) b fun l m=>
 next2 [l] m))
 (j1 [] a)
def d7r(x0 w)(R:RT)(E):=
 opK pG E (bC .eql 3 5 x0 (vI 32)) w fun c p=>
 oP E (gF c (bC .eql 3 8 (zF c x0) (vI 9))) p fun q r=>
 oP E (xPick c (vB true) q) r fun d s=>
 oP E (gF d (bC .eql 3 12 (zF d x0) (vI 13))) s fun t u=>
 oP E (xPick d (vB true) t) u fun v l=>
 xcond v
 (R (vI 1) l)
 (oP E (bC .eql 3 15 x0 (vI 10)) l fun y m=>
 xcond y
 (R (vI 2) m)
 (oP E (xCall (fC 159) [x0,(vI 48),(vI 57)]) m fun z n=>
 xcond z
 (R (vI 4) n)
 (oP E (xCall (fC 159) [x0,(vI 97),(vI 122)]) n fun e aa=>
 oP E (gF e (xCall (fC 159) [(zF e x0),(vI 65),(vI 90)])) aa fun ab ac=>
 oP E (xPick e (vB true) ab) ac fun f ad=>
 oP E (gF f (bC .eql 3 26 (zF f x0) (vI 95))) ad fun ae af=>
 oP E (xPick f (vB true) ae) af fun a ag=>
 oP E (gF a (xCall (fC 159) [(zF a x0),(vI 192),(vI 591)])) ag fun g ah=>
 oP E (gsem (asB (zF a g)) true (xBin .neq 3 (.tmp 33) (.const (vI 215)) (gval (asB (zF a g)) true x0) (vI 215))) ah fun ai aj=>
 oP E (gF a (xPick (zF a g) ai (vB false))) aj fun i ak=>
 oP E (gsem (asB (zF a i)) true (xBin .neq 3 (.tmp 37) (.const (vI 247)) (gval (asB (zF a i)) true x0) (vI 247))) ak fun al am=>
 oP E (gF a (xPick (zF a i) al (vB false))) am fun an ao=>
 oP E (xPick a (vB true) an) ao fun b ap=>
 oP E (gF b (xCall (fC 159) [(zF b x0),(vI 913),(vI 969)])) ap fun j aq=>
 oP E (gsem (asB (zF b j)) true (xBin .neq 3 (.tmp 45) (.const (vI 930)) (gval (asB (zF b j)) true x0) (vI 930))) aq fun ar au=>
 oP E (gF b (xPick (zF b j) ar (vB false))) au fun av aw=>
 oP E (xPick b (vB true) av) aw fun k ax=>
 oP E (gF k (xCall (fC 159) [(zF k x0),(vI 1040),(vI 1103)])) ax fun ay az=>
 oP E (xPick k (vB true) ay) az fun ba o=>
 xcond ba
 (R (vI 3) o)
 (xcut (fun _ bb=>c2m bb R E) fun j1=>
 xloop [4] [(vI 0)] o fun bc bd next2=>
 c9U x0 (Value.string ⟨#[59,44,123,125,40,41,91,93,61,33,60,62,43,45,42,47,37,38,124]⟩) (bc 4) bd next2 j1 R E))))
def d7s:Hint:=(sQ (hS (sQ (hC (sQ hN) hN)) (hS (sQ (hC (sQ hN) hN)) (hS (sQ (hC (sQ hN) hN)) (hS (sQ (hC (sQ hN) hN)) (sQ (hU [] (sQ (hB (hL [4] (hS (sQ (hC hN hN)) (hS (hB (sQ (hC (sQ hN) hN))) hN))))) (sQ hN))))))))
theorem c9V{x0:Value}(h:d7r x0 w R E):Cv pG 142 #[x0] w R E:=okF (h:=d7s) Tryz.func142 (by kernel_rfl) (by kernel_rfl) h
def d7t(x0 w)(R:RT)(E):=
 opK pG E (xV (Instr.typeAssert x0 131 175 true)) w fun g u=>
 oP E (xT g 1) u fun v y=>
 oP E (xT g 0) y fun z i=>
 xcond v
 (oP E (xV (Instr.alloc 175 true (.tuple #[]))) i fun j aa=>
 oP E (sA 175 j z) aa fun _ ab=>
 oP E (fA 175 j 0) ab fun ac ad=>
 oP E (fA 68 ac 0) ad fun ae af=>
 oP E (lA 9 ae) af fun ag ah=>
 R (Value.tuple #[ag,(vB true)]) ah)
 (oP E (xV (Instr.typeAssert x0 131 177 true)) i fun k ai=>
 oP E (xT k 1) ai fun aj ak=>
 oP E (xT k 0) ak fun al l=>
 xcond aj
 (oP E (xV (Instr.alloc 177 true (.tuple #[]))) l fun c am=>
 oP E (sA 177 c al) am fun _ an=>
 dX an fun d=>
 qP pG (fA 177 c 0) fun ao=>
 qP pG (fA 56 ao 1) fun m=>
 qP pG (fA 177 c 0) fun ap=>
 qP pG (fA 56 ap 0) fun n=>
 qL pG d (blk m) (lA 9 m) fun aq=>
 qL pG d (blk n) (lA 3 n) fun ar=>
 qP pG (bC .eql 3 22 ar (vI 1)) fun a=>
 qP pG (gF a (fA 177 c 0)) fun au=>
 qP pG (gF a (fA 56 au 0)) fun o=>
 qL pG d (blk o) (gF a (lA 3 o)) fun av=>
 qP pG (gF a (bC .eql 3 27 av (vI 2))) fun aw=>
 qP pG (xPick a (vB true) aw) fun ax=>
 R (Value.tuple #[aq,ax]) d)
 (oP E (xV (Instr.typeAssert x0 131 141 true)) l fun p ay=>
 oP E (xT p 1) ay fun az ba=>
 oP E (xT p 0) ba fun bb q=>
 xcond az
 (oP E (xV (Instr.alloc 141 true (.tuple #[]))) q fun e bc=>
 oP E (sA 141 e bb) bc fun _ bd=>
 dX bd fun f=>
 qP pG (fA 141 e 0) fun be=>
 qP pG (fA 40 be 2) fun r=>
 qP pG (fA 141 e 0) fun bf=>
 qP pG (fA 40 bf 0) fun s=>
 qL pG f (blk r) (lA 9 r) fun bg=>
 qL pG f (blk s) (lA 3 s) fun bh=>
 qP pG (bC .eql 3 38 bh (vI 2)) fun b=>
 qP pG (gF b (fA 141 e 0)) fun bi=>
 qP pG (gF b (fA 40 bi 0)) fun t=>
 qL pG f (blk t) (gF b (lA 3 t)) fun bj=>
 qP pG (gF b (bC .eql 3 43 bj (vI 4))) fun bk=>
 qP pG (xPick b (vB true) bk) fun bl=>
 R (Value.tuple #[bg,bl]) f)
 (R (Value.tuple #[(eS),(vB false)]) q)))
def d7u:Hint:=(sQ (hS (sQ (hB (sQ (hC (sQ (sQ hN)) (sQ (hC (sQ (hS (.reg [(0,131072,32),(1,262144,131072),(2,524288,262144),(0,1048576,32),(8,2097152,1048576),(16,4194304,2097152),(32,8388608,4194304),(64,16777216,8388608),(128,33554432,16777248),(384,67108864,50331648),(640,134217728,83886080),(1152,268435456,150994944),(2176,536870912,285212672),(135,4,524288),(16383,8,536870912)] [1060,1060,1056,1060,1060,1028,1060,1060,1060,1060,36,1060,1060,1060,1060] (.early 0 (.early 1 (.early 3 (.early 4 (.load 2 (.load 5 (.early 6 (.early 7 (.early 8 (.early 9 (.early 13 (.load 10 (.early 11 (.early 12 (.early 14 .done)))))))))))))))) hN)) (sQ (hC (sQ (hS (.reg [(0,8589934592,64),(1,17179869184,8589934592),(2,34359738368,17179869184),(0,68719476736,64),(8,137438953472,68719476736),(16,274877906944,137438953472),(32,549755813888,274877906944),(64,1099511627776,549755813888),(128,2199023255552,1099511627840),(384,4398046511104,3298534883328),(640,8796093022208,5497558138880),(1152,17592186044416,9895604649984),(2176,35184372088832,18691697672192),(135,4,34359738368),(16383,8,35184372088832)] [1060,1060,1056,1060,1060,1028,1060,1060,1060,1060,36,1060,1060,1060,1060] (.early 0 (.early 1 (.early 3 (.early 4 (.load 2 (.load 5 (.early 6 (.early 7 (.early 8 (.early 9 (.early 13 (.load 10 (.early 11 (.early 12 (.early 14 .done)))))))))))))))) hN)) hN)))))))) (sQ hN)))
theorem c9W{x0:Value}(h:d7t x0 w R E):Cv pG 143 #[x0] w R E:=okF (h:=d7u) Tryz.func143 (by kernel_rfl) (by kernel_rfl) h
def c2n(w)(R:RT)(_E:Pan):=
 ∀_τ:Fr,(R (vB true) w)
def c9X(x21 w)(next2:NT)(j1:NT)(R:RT)(E):=
 opK pG E (xV (Instr.next x21 true 0)) w fun c g=>
 oP E (xT c 0) g fun i d=>
 xcond i
 (oP E (xT c 1) d fun j k=>
 oP E (xT c 2) k fun e l=>
 oP E (xCall (fC 154) [e]) l fun m n=>
 oP E (xV (Op.unary .not m)) n fun a o=>
 oP E (gF a (bC .eql 3 30 (zF a j) (vI 0))) o fun b p=>
 oP E (gsem (asB (zF a b)) true (xCall (fC 132) [(gval (asB (zF a b)) true e)])) p fun q r=>
 oP E (gsem (asB (zF a b)) true (bC .neq 3 34 q (vI 3))) r fun s t=>
 oP E (gF a (xPick (zF a b) s (vB false))) t fun u v=>
 oP E (xPick a (vB true) u) v fun y f=>
 xcond y
 (R (vB false) f)
 (next2 [] f))
 (j1 [] d)
def d7v(x0 w)(R:RT)(E):=
 opK pG E (bC .eql 9 5 x0 (eS)) w fun a e=>
 oP E (gF a (xCall (fC 160) [(zF a x0)])) e fun f g=>
 oP E (gF a (xV (Op.unary .not f))) g fun i j=>
 oP E (xPick a (vB true) i) j fun b k=>
 oP E (gF b (xCall (fC 156) [(zF b x0)])) k fun l m=>
 oP E (xPick b (vB true) l) m fun c n=>
 oP E (gF c (xCall (fC 155) [(zF c x0)])) n fun o p=>
 oP E (xPick c (vB true) o) p fun q d=>
 xcond q
 (R (vB false) d)
 (xcut (fun _ r=>c2n r R E) fun j1=>
 oP E (xV (Instr.range 9 x0)) d fun s t=>
 xloop [] [] t fun _ u next2=>
 c9X s u next2 j1 R E)
def d7w:Hint:=(sQ (hS (sQ (hC (sQ hN) hN)) (hU [] (sQ (hB (hL [] (sQ (hS (hC hN hN) (hB (sQ (sQ (hC (sQ hN) hN))))))))) (sQ hN))))
theorem c9Y{x0:Value}(h:d7v x0 w R E):Cv pG 144 #[x0] w R E:=okF (h:=d7w) Tryz.func144 (by kernel_rfl) (by kernel_rfl) h
def d7x(x0 x1 w)(R:RT)(E):=
 opK pG E (xCall (fC 161) [x0,x1]) w fun a b=>
 oP E (bC .geq 3 7 a (vI 0)) b fun c d=>
 R c d
def d7y:Hint:=(sQ (sQ hN))
theorem c9Z{x0 x1:Value}(h:d7x x0 x1 w R E):Cv pG 145 #[x0,x1] w R E:=okF (h:=d7y) Tryz.func145 (by kernel_rfl) (by kernel_rfl) h
def d7z(x0 w)(R:RT)(E):=
 opK pG E (xCall (fC 63) [x0]) w fun f g=>
 oP E (xV (Instr.alloc 103 true (.tuple #[]))) g fun b i=>
 oP E (sA 103 b f) i fun _ j=>
 oP E (fA 103 b 0) j fun k l=>
 oP E (lA 3 k) l fun m n=>
 oP E (bC .eql 3 7 m (vI 1)) n fun a o=>
 oP E (gF a (fA 103 b 0)) o fun p q=>
 oP E (gF a (lA 3 p)) q fun r s=>
 oP E (gF a (bC .eql 3 11 r (vI 2))) s fun t u=>
 oP E (xPick a (vB true) t) u fun c v=>
 oP E (gF c (xCall (fC 23) [(zF c x0),(Value.string ⟨#[45]⟩)])) v fun y z=>
 oP E (xPick c (vB true) y) z fun d aa=>
 oP E (gF d (xCall (fC 23) [(zF d x0),(Value.string ⟨#[40]⟩)])) aa fun ab ac=>
 oP E (xPick d (vB true) ab) ac fun e ad=>
 oP E (gF e (xCall (fC 23) [(zF e x0),(Value.string ⟨#[105,110,112,117,116]⟩)])) ad fun ae af=>
 oP E (xPick e (vB true) ae) af fun ag ah=>
 R ag ah
def d7A:Hint:=(sQ (sQ (sQ hN)))
theorem d0a{x0:Value}(h:d7z x0 w R E):Cv pG 146 #[x0] w R E:=okF (h:=d7A) Tryz.func146 (by kernel_rfl) (by kernel_rfl) h
def c2o(w)(R:RT)(_E:Pan):=
 ∀_τ:Fr,(R (vI 0) w)
def d0b(x0 x3 x4 w)(next2:NT)(j1:NT)(R:RT)(E):=
 opK pG E (bC .lss 3 6 x4 (vI 6)) w fun c a=>
 xcond c
 (oP E (iA 203 x3 x4) a fun d e=>
 oP E (lA 9 d) e fun f g=>
 oP E (xCall (fC 23) [x0,f]) g fun i b=>
 xcond i
 (oP E (xBin .add 3 (.const (vI 1)) (.tmp 15) (vI 1) x4) b fun j k=>
 R j k)
 (oP E (bC .add 3 8 x4 (vI 1)) b fun l m=>
 next2 [l] m))
 (j1 [] a)
def d7B(x0 w)(R:RT)(E):=
 opK pG E (xV (Instr.build 203 #[(0,(Value.string ⟨#[60]⟩)),(1,(Value.string ⟨#[60,61]⟩)),(2,(Value.string ⟨#[61,61]⟩)),(3,(Value.string ⟨#[33,61]⟩)),(4,(Value.string ⟨#[62]⟩)),(5,(Value.string ⟨#[62,61]⟩))])) w fun b c=>
 oP E (xV (Instr.alloc 203 true (.tuple #[]))) c fun a d=>
 oP E (sA 203 a b) d fun _ e=>
 xcut (fun _ f=>c2o f R E) fun j1=>
 xloop [4] [(vI 0)] e fun g i next2=>
 d0b x0 a (g 4) i next2 j1 R E
def d7C:Hint:=(sQ (sQ (hU [] (sQ (hB (hL [4] (hS (sQ (hC hN hN)) (hS (hB (sQ (hC (sQ hN) hN))) hN))))) (sQ hN))))
theorem d0c{x0:Value}(h:d7B x0 w R E):Cv pG 147 #[x0] w R E:=okF (h:=d7C) Tryz.func147 (by kernel_rfl) (by kernel_rfl) h
def c0n(x0 x1 w)(R:RT)(E):=
 opK pG E (xV (Instr.box 28 x0)) w fun b f=>
 oP E (xV (Instr.alloc 28 true (.tuple #[]))) f fun a g=>
 oP E (bC .eql 21 5 x1 (Value.int .i32 10)) g fun i c=>
 xcond i
 (oP E (fA 28 b 0) c fun j k=>
 oP E (lA 3 j) k fun l m=>
 oP E (bC .add 3 8 l (vI 1)) m fun n o=>
 oP E (xV (Instr.build 28 #[(0,n),(1,(vI 1))])) o fun p q=>
 oP E (sA 28 a p) q fun _ d=>
 xcell pG 28 a d fun r=>
 R r d)
 (oP E (fA 28 b 0) c fun s t=>
 oP E (lA 3 s) t fun u v=>
 oP E (fA 28 b 1) v fun y z=>
 oP E (lA 3 y) z fun aa ab=>
 oP E (bC .add 3 14 aa (vI 1)) ab fun ac ad=>
 oP E (xV (Instr.build 28 #[(0,u),(1,ac)])) ad fun ae af=>
 oP E (sA 28 a ae) af fun _ e=>
 xcell pG 28 a e fun ag=>
 R ag e)
def c3z:Hint:=(sQ (hS (sQ (hC (sQ hN) hN)) (sQ hN)))
theorem c2p{x0 x1:Value}(h:c0n x0 x1 w R E):Cv pG 150 #[x0,x1] w R E:=okF (h:=c3z) Tryz.func150 (by kernel_rfl) (by kernel_rfl) h
def d7D(x0 x1 x2 w)(R:RT)(E):=
 opK pG E (lA 21 x2) w fun b c=>
 oP E (bN .leq 21 6 7 x0 b) c fun a d=>
 oP E (gT a (lA 21 x2)) d fun e f=>
 oP E (gT a (bN .leq 21 10 11 e (zT a x1))) f fun g i=>
 oP E (xPick a g (vB false)) i fun j k=>
 R j k
def d7E:Hint:=(sQ (sQ hN))
theorem d0d{x0 x1 x2:Value}(h:d7D x0 x1 x2 w R E):Cv pG 151 #[x0,x1,x2] w R E:=okF (h:=d7E) Tryz.func151 (by kernel_rfl) (by kernel_rfl) h
def d7F(x0 w)(R:RT)(E):=
 opK pG E (xCall (fC 135) [x0]) w fun c d=>
 oP E (xCall (fC 128) [c]) d fun a e=>
 oP E (xT a 0) e fun f g=>
 oP E (xT a 1) g fun i j=>
 oP E (xNil x0) j fun k l=>
 oP E (fA 155 k 1) l fun m n=>
 oP E (lA 3 m) n fun o p=>
 oP E (bN .add 3 13 14 o i) p fun q r=>
 oP E (xNil x0) r fun s t=>
 oP E (fA 155 s 1) t fun u v=>
 oP E (sA 3 u q) v fun _ y=>
 oP E (xNil x0) y fun z aa=>
 oP E (fA 155 z 2) aa fun ab ac=>
 oP E (fA 28 ab 1) ac fun ad ae=>
 oP E (lA 3 ad) ae fun af ag=>
 oP E (bC .add 3 22 af (vI 1)) ag fun ah ai=>
 oP E (xNil x0) ai fun aj ak=>
 oP E (fA 155 aj 2) ak fun al am=>
 oP E (fA 28 al 1) am fun an ao=>
 oP E (sA 3 an ah) ao fun _ ap=>
 oP E (bC .eql 21 27 f (Value.int .i32 10)) ap fun aq b=>
 xcond aq
 (oP E (xNil x0) b fun ar au=>
 oP E (fA 155 ar 2) au fun av aw=>
 oP E (fA 28 av 0) aw fun ax ay=>
 oP E (lA 3 ax) ay fun az ba=>
 oP E (bC .add 3 34 az (vI 1)) ba fun bb bc=>
 oP E (xV (Instr.build 28 #[(0,bb),(1,(vI 1))])) bc fun bd be=>
 oP E (xNil x0) be fun bf bg=>
 oP E (fA 155 bf 2) bg fun bh bi=>
 oP E (sA 28 bh bd) bi fun _ bj=>
 R (Value.tuple #[]) bj)
 (R (Value.tuple #[]) b)
def d7G:Hint:=(sQ (sQ (sQ (sQ (hC hN hN)))))
theorem d0e{x0:Value}(h:d7F x0 w R E):Cv pG 152 #[x0] w R E:=okF (h:=d7G) Tryz.func152 (by kernel_rfl) (by kernel_rfl) h
def d7H(x0 x1 w)(R:RT)(E):=
 opK pG E (xBuiltin .len #[9] 3 [false] [x0]) w fun b c=>
 oP E (xBuiltin .len #[9] 3 [false] [x1]) c fun d e=>
 oP E (bN .geq 3 6 8 b d) e fun a f=>
 oP E (gT a (xBuiltin .len #[9] 3 [false] [(zT a x1)])) f fun g i=>
 oP E (gT a (xV (Instr.sliceAt 9 (zT a x0) none (some g) none))) i fun j k=>
 oP E (gT a (bN .eql 9 14 15 j (zT a x1))) k fun l m=>
 oP E (xPick a l (vB false)) m fun n o=>
 R n o
def d7I:Hint:=(sQ (sQ hN))
theorem d0f{x0 x1:Value}(h:d7H x0 x1 w R E):Cv pG 153 #[x0,x1] w R E:=okF (h:=d7I) Tryz.func153 (by kernel_rfl) (by kernel_rfl) h
def d7J(x0 w)(R:RT)(E):=
 opK pG E (xCall (fC 132) [x0]) w fun b c=>
 oP E (bC .eql 3 6 b (vI 3)) c fun a d=>
 oP E (gF a (bC .eql 3 9 (zF a b) (vI 4))) d fun e f=>
 oP E (xPick a (vB true) e) f fun g i=>
 R g i
def d7K:Hint:=(sQ (sQ (sQ hN)))
theorem d0g{x0:Value}(h:d7J x0 w R E):Cv pG 154 #[x0] w R E:=okF (h:=d7K) Tryz.func154 (by kernel_rfl) (by kernel_rfl) h
def c2q(x4 w)(R:RT)(_E:Pan):=
 ∀_τ:Fr,(xcond x4
 (R (vB true) w)
 (R (vB false) w))
def d7L(x0 w)(R:RT)(E):=
 xcut (fun v y=>c2q (nth v 0) y R E) fun j1=>
 oP E (bC .eql 9 3 x0 (Value.string ⟨#[118,97,114]⟩)) w fun a b=>
 xcond a
 (j1 [a] b)
 (oP E (bC .eql 9 3 x0 (Value.string ⟨#[97,114,114,97,121]⟩)) b fun c d=>
 xcond c
 (j1 [c] d)
 (oP E (bC .eql 9 3 x0 (Value.string ⟨#[105,102]⟩)) d fun e f=>
 xcond e
 (j1 [e] f)
 (oP E (bC .eql 9 3 x0 (Value.string ⟨#[101,108,115,101]⟩)) f fun g i=>
 xcond g
 (j1 [g] i)
 (oP E (bC .eql 9 3 x0 (Value.string ⟨#[119,104,105,108,101]⟩)) i fun j k=>
 xcond j
 (j1 [j] k)
 (oP E (bC .eql 9 3 x0 (Value.string ⟨#[97,115,115,101,114,116]⟩)) k fun l m=>
 xcond l
 (j1 [l] m)
 (oP E (bC .eql 9 3 x0 (Value.string ⟨#[97,115,115,117,109,101]⟩)) m fun n o=>
 xcond n
 (j1 [n] o)
 (oP E (bC .eql 9 3 x0 (Value.string ⟨#[115,107,105,112]⟩)) o fun p q=>
 xcond p
 (j1 [p] q)
 (oP E (bC .eql 9 3 x0 (Value.string ⟨#[105,110,112,117,116]⟩)) q fun r s=>
 xcond r
 (j1 [r] s)
 (oP E (bC .eql 9 3 x0 (Value.string ⟨#[116,114,117,101]⟩)) s fun t u=>
 xcond t
 (j1 [t] u)
 (oP E (bC .eql 9 3 x0 (Value.string ⟨#[102,97,108,115,101]⟩)) u fun z aa=>
 j1 [z] aa))))))))))
def d7M:Hint:=(sQ (hS (sQ (hB (hU [4] (sQ (hC hN (sQ (hC hN (sQ (hC hN (sQ (hC hN (sQ (hC hN (sQ (hC hN (sQ (hC hN (sQ (hC hN (sQ (hC hN (sQ (hC hN hN)))))))))))))))))))) (hC (sQ hN) hN)))) (sQ hN)))
theorem d0h{x0:Value}(h:d7L x0 w R E):Cv pG 155 #[x0] w R E:=okF (h:=d7M) Tryz.func155 (by kernel_rfl) (by kernel_rfl) h
def d7N(x0 w)(R:RT)(E):=
 opK pG E (xCall (fC 162) [x0]) w fun a b=>
 oP E (bC .gtr 3 4 a (vI 32)) b fun c d=>
 R c d
def d7O:Hint:=(sQ (sQ hN))
theorem d0i{x0:Value}(h:d7N x0 w R E):Cv pG 156 #[x0] w R E:=okF (h:=d7O) Tryz.func156 (by kernel_rfl) (by kernel_rfl) h
def d7P(x0 w)(R:RT)(E):=
 opK pG E (xCall (fC 132) [x0]) w fun a b=>
 oP E (bC .eql 3 4 a (vI 4)) b fun c d=>
 R c d
def d7Q:Hint:=(sQ (sQ hN))
theorem d0j{x0:Value}(h:d7P x0 w R E):Cv pG 157 #[x0] w R E:=okF (h:=d7Q) Tryz.func157 (by kernel_rfl) (by kernel_rfl) h
def d7R(x0 x1 x2 w)(R:RT)(E):=
 opK pG E (bN .geq 3 7 8 x0 x1) w fun a b=>
 oP E (gT a (bN .leq 3 11 12 (zT a x0) (zT a x2))) b fun c d=>
 oP E (xPick a c (vB false)) d fun e f=>
 R e f
def d7S:Hint:=(sQ (sQ hN))
theorem d0k{x0 x1 x2:Value}(h:d7R x0 x1 x2 w R E):Cv pG 159 #[x0,x1,x2] w R E:=okF (h:=d7S) Tryz.func159 (by kernel_rfl) (by kernel_rfl) h
def c2r(w)(R:RT)(_E:Pan):=
 ∀_τ:Fr,(R (vI (-1)) w)
def d0l(x0 x1 x7 x8 w)(next2:NT)(j1:NT)(R:RT)(E):=
 opK pG E (bN .lss 3 8 7 x8 x7) w fun c a=>
 xcond c
 (oP E (iA 77 x0 x8) a fun d e=>
 oP E (lA 9 d) e fun f g=>
 oP E (bN .eql 9 11 15 x1 f) g fun i b=>
 xcond i
 (R x8 b)
 (oP E (bC .add 3 8 x8 (vI 1)) b fun j k=>
 next2 [j] k))
 (j1 [] a)
def d7T(x0 x1 w)(R:RT)(E):=
 xcut (fun _ a=>c2r a R E) fun j1=>
 oP E (xBuiltin .len #[77] 3 [false] [x0]) w fun b c=>
 xloop [8] [(vI 0)] c fun d e next2=>
 d0l x0 x1 b (d 8) e next2 j1 R E
def d7U:Hint:=(sQ (hU [] (sQ (hB (hL [8] (sQ (hS (hC hN hN) (hS (hB (sQ (sQ (hC (sQ hN) hN)))) hN)))))) (sQ hN)))
theorem d0m{x0 x1:Value}(h:d7T x0 x1 w R E):Cv pG 161 #[x0,x1] w R E:=okF (h:=d7U) Tryz.func161 (by kernel_rfl) (by kernel_rfl) h
def c2s(x2 w)(R:RT)(_E:Pan):=
 ∀_τ:Fr,(R x2 w)
def d0n(x2 x4 w)(next2:NT)(j1:NT)(_R:RT)(E):=
 opK pG E (xV (Instr.next x4 true 0)) w fun b c=>
 oP E (xT b 0) c fun d a=>
 xcond d
 (oP E (bC .add 3 7 x2 (vI 1)) a fun e f=>
 next2 [e] f)
 (j1 [x2] a)
def d7V(x0 w)(R:RT)(E):=
 xcut (fun a b=>c2s (nth a 0) b R E) fun j1=>
 oP E (xV (Instr.range 9 x0)) w fun c d=>
 xloop [2] [(vI 0)] d fun e f next2=>
 d0n (e 2) c f next2 j1 R E
def d7W:Hint:=(sQ (hU [2] (sQ (hB (hL [2] (sQ (hS (hC hN hN) (hB hN)))))) (sQ hN)))
theorem d0o{x0:Value}(h:d7V x0 w R E):Cv pG 162 #[x0] w R E:=okF (h:=d7W) Tryz.func162 (by kernel_rfl) (by kernel_rfl) h
def c2t(x3 x59 w)(R:RT)(E):=
 ∀_τ:Fr,(xcond x59
 (oP E (bC .eql 3 65 x3 (vI 2)) w fun a b=>
 R a b)
 (R (vB false) w))
def c2u(x3 x38 x54 w)(R:RT)(E):=
 ∀_τ:Fr,(xcond x54
 (oP E (bC .eql 3 57 x3 (vI 1)) w fun j k=>
 R j k)
 (xcut (fun l m=>c2t x3 (nth l 0) m R E) fun j3=>
 oP E (bC .eql 3 38 x38 (vI 6)) w fun a b=>
 xcond a
 (j3 [a] b)
 (oP E (bC .eql 3 38 x38 (vI 7)) b fun c d=>
 xcond c
 (j3 [c] d)
 (oP E (bC .eql 3 38 x38 (vI 8)) d fun e f=>
 xcond e
 (j3 [e] f)
 (oP E (bC .eql 3 38 x38 (vI 9)) f fun g i=>
 xcond g
 (j3 [g] i)
 (oP E (bC .eql 3 38 x38 (vI 10)) i fun n o=>
 j3 [n] o))))))
def c2v(x3 x38 x49 w)(R:RT)(E):=
 ∀_τ:Fr,(xcond x49
 (oP E (bC .eql 3 52 x3 (vI 0)) w fun c d=>
 R c d)
 (xcut (fun e f=>c2u x3 x38 (nth e 0) f R E) fun j2=>
 oP E (bC .eql 3 38 x38 (vI 4)) w fun a b=>
 xcond a
 (j2 [a] b)
 (oP E (bC .eql 3 38 x38 (vI 5)) b fun g i=>
 j2 [g] i)))
def d7X(x0 w)(R:RT)(E):=
 opK pG E (xV (Instr.box 141 x0)) w fun b n=>
 oP E (fA 141 b 0) n fun o p=>
 oP E (fA 40 o 3) p fun q r=>
 oP E (lA 38 q) r fun s t=>
 oP E (xBuiltin .len #[38] 3 [false] [s]) t fun g u=>
 oP E (lA 141 b) u fun v y=>
 oP E (xV (Instr.makeInterface 141 v)) y fun z aa=>
 oP E (xCall (fC 143) [z]) aa fun i ab=>
 oP E (xT i 0) ab fun _t14_17 ac=>
 oP E (xT i 1) ac fun ad ae=>
 oP E (fA 141 b 0) ae fun af ag=>
 oP E (fA 40 af 0) ag fun ah ai=>
 oP E (lA 3 ah) ai fun aj ak=>
 oP E (bC .neq 3 18 aj (vI 1)) ak fun c al=>
 oP E (gT c (fA 141 b 0)) al fun am an=>
 oP E (gT c (fA 40 am 1)) an fun ao ap=>
 oP E (gT c (lA 2 ao)) ap fun aq ar=>
 oP E (gT c (bC .neq 2 23 aq (vI 0))) ar fun au av=>
 oP E (xPick c au (vB false)) av fun a aw=>
 oP E (gF a (xV (Op.unary .not (zF a ad)))) aw fun d ax=>
 oP E (gsem (asB (zF a d)) true (fA 141 b 0)) ax fun ay az=>
 oP E (gsem (asB (zF a d)) true (fA 40 ay 2)) az fun ba bb=>
 oP E (gsem (asB (zF a d)) true (lA 9 ba)) bb fun bc bd=>
 oP E (gsem (asB (zF a d)) true (bC .neq 9 32 bc (eS))) bd fun be bf=>
 oP E (gF a (xPick (zF a d) be (vB false))) bf fun bg bh=>
 oP E (xPick a (vB true) bg) bh fun bi j=>
 xcond bi
 (R (vB false) j)
 (oP E (fA 141 b 0) j fun bj bk=>
 oP E (fA 40 bj 0) bk fun bl bm=>
 oP E (lA 3 bl) bm fun e bn=>
 oP E (bC .eql 3 38 e (vI 1)) bn fun bo k=>
 xcond bo
 (oP E (fA 141 b 0) k fun bp bq=>
 oP E (fA 40 bp 1) bq fun br bs=>
 oP E (lA 2 br) bs fun bt bu=>
 oP E (bC .geq 2 43 bt (vI 0)) bu fun f bv=>
 oP E (gT f (bC .eql 3 46 (zT f g) (vI 0))) bv fun bw bz=>
 oP E (xPick f bw (vB false)) bz fun ca cb=>
 R ca cb)
 (xcut (fun cc cd=>c2v g e (nth cc 0) cd R E) fun j1=>
 oP E (bC .eql 3 38 e (vI 2)) k fun l m=>
 xcond l
 (j1 [l] m)
 (oP E (bC .eql 3 38 e (vI 3)) m fun ce cf=>
 j1 [ce] cf)))
def d7Y:Hint:=(sQ (sQ (sQ (hS (sQ (hC (sQ hN) hN)) (hS (sQ (hB (sQ (hC (sQ hN) (hU [49] (sQ (hC hN hN)) (hC (sQ hN) (hU [54] (sQ (hC hN hN)) (hC (sQ hN) (hU [59] (sQ (hC hN (sQ (hC hN (sQ (hC hN (sQ (hC hN hN)))))))) (hC (sQ hN) hN)))))))))) (sQ hN))))))
theorem d0p{x0:Value}(h:d7X x0 w R E):Cv pG 205 #[x0] w R E:=okF (h:=d7Y) Tryz.func205 (by kernel_rfl) (by kernel_rfl) h
def d7Z(x0 w)(R:RT)(E):=
 opK pG E (xV (Instr.box 141 x0)) w fun a b=>
 oP E (fA 141 a 0) b fun c d=>
 oP E (fA 40 c 3) d fun e f=>
 oP E (lA 38 e) f fun g i=>
 oP E (xCall (fC 207) [g,(fC 208)]) i fun j k=>
 R j k
def d8a:Hint:=(sQ (sQ hN))
theorem d0q{x0:Value}(h:d7Z x0 w R E):Cv pG 206 #[x0] w R E:=okF (h:=d8a) Tryz.func206 (by kernel_rfl) (by kernel_rfl) h
def c2w(x5 w)(R:RT)(_E:Pan):=
 ∀_τ:Fr,(R x5 w)
def d0r(x1 x5 x8 x9 x10 w)(next2:NT)(j1:NT)(_R:RT)(E):=
 opK pG E (bN .lss 3 10 9 x10 x9) w fun c a=>
 xcond c
 (oP E (iA 38 x8 x10) a fun d e=>
 oP E (lA 40 d) e fun f g=>
 oP E (xV (Instr.alloc 40 true (.tuple #[]))) g fun b i=>
 oP E (sA 40 b f) i fun _ j=>
 oP E (lA 40 b) j fun k l=>
 oP E (xCall x1 [k]) l fun m n=>
 oP E (xV (Instr.buildSlice 128 1 #[(0,m)])) n fun o p=>
 oP E (xBuiltin .append #[128,128] 128 [false,false] [x5,o]) p fun q r=>
 oP E (bC .add 3 10 x10 (vI 1)) r fun s t=>
 next2 [q,s] t)
 (j1 [x5] a)
def d8b(x0 x1 w)(R:RT)(E):=
 xcut (fun b c=>c2w (nth b 0) c R E) fun j1=>
 oP E (xBuiltin .len #[38] 3 [false] [x0]) w fun d e=>
 xloop [5,10] [(nS),(vI 0)] e fun a f next2=>
 d0r x1 (a 5) x0 d (a 10) f next2 j1 R E
def d8c:Hint:=(sQ (sQ (hU [5] (sQ (hB (hL [5,10] (sQ (hS (hC hN hN) (hS (hB (sQ hN)) hN)))))) (sQ hN))))
theorem d0s{x0 x1:Value}(h:d8b x0 x1 w R E):Cv pG 207 #[x0,x1] w R E:=okF (h:=d8c) Tryz.func207 (by kernel_rfl) (by kernel_rfl) h
def d8d(x0 w)(R:RT)(E):=
 opK pG E (xV (Instr.box 40 x0)) w fun a b=>
 oP E (lA 40 a) b fun c d=>
 oP E (xV (Instr.build 141 #[(0,c)])) d fun e f=>
 oP E (xV (Instr.makeInterface 141 e)) f fun g i=>
 R g i
def d8e:Hint:=(sQ (sQ hN))
theorem d0t{x0:Value}(h:d8d x0 w R E):Cv pG 208 #[x0] w R E:=okF (h:=d8e) Tryz.func208 (by kernel_rfl) (by kernel_rfl) h
def c2x(x3 x50 w)(R:RT)(E):=
 ∀_τ:Fr,(xcond x50
 (oP E (lA 260 x3) w fun a b=>
 oP E (xV (Instr.build 260 #[(0,(vI 0)),(1,(vI 2))])) b fun c d=>
 oP E (bN .eql 260 53 54 a c) d fun e f=>
 R e f)
 (R (vB false) w))
def c2y(x3 x38 x39 w)(R:RT)(E):=
 ∀_τ:Fr,(xcond x39
 (oP E (lA 260 x3) w fun d e=>
 oP E (xV (Instr.build 260 #[])) e fun f g=>
 oP E (bN .eql 260 42 43 d f) g fun i j=>
 R i j)
 (oP E (bC .eql 3 38 x38 (vI 4)) w fun k a=>
 xcond k
 (oP E (lA 260 x3) a fun l m=>
 oP E (xV (Instr.build 260 #[(0,(vI 0)),(1,(vI 1))])) m fun n o=>
 oP E (bN .eql 260 47 48 l n) o fun p q=>
 R p q)
 (xcut (fun r s=>c2x x3 (nth r 0) s R E) fun j2=>
 oP E (bC .eql 3 38 x38 (vI 5)) a fun b c=>
 xcond b
 (j2 [b] c)
 (oP E (bC .eql 3 38 x38 (vI 6)) c fun t u=>
 j2 [t] u))))
def d8f(x0 w)(R:RT)(E):=
 opK pG E (xV (Instr.box 146 x0)) w fun a k=>
 oP E (fA 146 a 0) k fun l m=>
 oP E (fA 49 l 2) m fun n o=>
 oP E (lA 38 n) o fun p q=>
 oP E (xBuiltin .len #[38] 3 [false] [p]) q fun r s=>
 oP E (fA 146 a 0) s fun t u=>
 oP E (fA 49 t 3) u fun v y=>
 oP E (lA 47 v) y fun z aa=>
 oP E (xBuiltin .len #[47] 3 [false] [z]) aa fun ab ac=>
 oP E (xV (Instr.build 260 #[(0,r),(1,ab)])) ac fun ad ae=>
 oP E (xV (Instr.alloc 260 true (.tuple #[]))) ae fun d af=>
 oP E (sA 260 d ad) af fun _ ag=>
 oP E (fA 146 a 0) ag fun ah ai=>
 oP E (fA 49 ah 0) ai fun aj ak=>
 oP E (lA 3 aj) ak fun al am=>
 oP E (bC .eql 3 15 al (vI 3)) am fun an f=>
 xcond an
 (oP E (fA 146 a 0) f fun ao ap=>
 oP E (fA 49 ao 1) ap fun aq ar=>
 oP E (lA 3 aq) ar fun au av=>
 oP E (bC .geq 3 19 au (vI 1)) av fun b aw=>
 oP E (gT b (fA 146 a 0)) aw fun ax ay=>
 oP E (gT b (fA 49 ax 1)) ay fun az ba=>
 oP E (gT b (lA 3 az)) ba fun bb bc=>
 oP E (gT b (bC .leq 3 24 bb (vI 6))) bc fun bd be=>
 oP E (xPick b bd (vB false)) be fun c bf=>
 oP E (gT c (lA 260 d)) bf fun bg bh=>
 oP E (gT c (xV (Instr.build 260 #[(0,(vI 2)),(1,(vI 0))]))) bh fun bi bj=>
 oP E (gT c (bN .eql 260 28 29 bg bi)) bj fun bk bl=>
 oP E (xPick c bk (vB false)) bl fun bm bn=>
 R bm bn)
 (oP E (fA 146 a 0) f fun bo bp=>
 oP E (fA 49 bo 1) bp fun bq br=>
 oP E (lA 3 bq) br fun bs bt=>
 oP E (bC .neq 3 34 bs (vI 0)) bt fun bu g=>
 xcond bu
 (R (vB false) g)
 (oP E (fA 146 a 0) g fun bv bw=>
 oP E (fA 49 bv 0) bw fun bz ca=>
 oP E (lA 3 bz) ca fun e cb=>
 xcut (fun cc cd=>c2y d e (nth cc 0) cd R E) fun j1=>
 oP E (bC .eql 3 38 e (vI 1)) cb fun i j=>
 xcond i
 (j1 [i] j)
 (oP E (bC .eql 3 38 e (vI 2)) j fun ce cf=>
 j1 [ce] cf)))
def d8g:Hint:=(sQ (sQ (hS (sQ (hC (sQ hN) hN)) (hS (sQ (hC (sQ hN) hN)) (hS (sQ (hB (hU [39] (sQ (hC hN hN)) (hC (sQ hN) (sQ (hC (sQ hN) (hU [50] (sQ (hC hN hN)) (hC (sQ hN) hN)))))))) (sQ hN))))))
theorem d0u{x0:Value}(h:d8f x0 w R E):Cv pG 209 #[x0] w R E:=okF (h:=d8g) Tryz.func209 (by kernel_rfl) (by kernel_rfl) h
def d8h(x0 w)(R:RT)(E):=
 opK pG E (xV (Instr.box 146 x0)) w fun f j=>
 dX j fun a=>
 qP pG (fA 146 f 0) fun k=>
 qP pG (fA 49 k 2) fun g=>
 qP pG (fA 146 f 0) fun l=>
 qP pG (fA 49 l 3) fun b=>
 qL pG a (blk g) (lA 38 g) fun m=>
 qL pG a (blk b) (lA 47 b) fun n=>
 oP E (xCall (fC 207) [m,(fC 208)]) a fun o c=>
 keepX [(blk b)] a c (opK pG E (xCall (fC 211) [n,(fC 212)]) c fun p d=>
 keepX [] c d (opK pG E (xV (Instr.buildSlice 172 2 #[(0,o),(1,p)])) d fun q e=>
 keepX [] d e (opK pG E (xCall (fC 75) [q]) e fun r i=>
 keepX [] e i (R r i))))
def d8i:Hint:=(sQ (hS (.reg [(0,8,2),(1,16,8),(2,32,16),(4,64,32),(0,128,2),(16,256,128),(32,512,256),(72,1024,512),(136,2048,1088),(384,4096,2048),(1023,4,4096)] [68,68,64,64,68,68,4,0,0,0,68] (.early 0 (.early 1 (.early 4 (.early 5 (.load 2 (.load 6 (.step 3 (.step 7 (.step 8 (.step 9 (.early 10 .done)))))))))))) hN))
theorem d0v{x0:Value}(h:d8h x0 w R E):Cv pG 210 #[x0] w R E:=okF (h:=d8i) Tryz.func210 (by kernel_rfl) (by kernel_rfl) h
def c2z(x5 w)(R:RT)(_E:Pan):=
 ∀_τ:Fr,(R x5 w)
def d0w(x1 x5 x8 x9 x10 w)(next2:NT)(j1:NT)(_R:RT)(E):=
 opK pG E (bN .lss 3 10 9 x10 x9) w fun c a=>
 xcond c
 (oP E (iA 47 x8 x10) a fun d e=>
 oP E (lA 49 d) e fun f g=>
 oP E (xV (Instr.alloc 49 true (.tuple #[]))) g fun b i=>
 oP E (sA 49 b f) i fun _ j=>
 oP E (lA 49 b) j fun k l=>
 oP E (xCall x1 [k]) l fun m n=>
 oP E (xV (Instr.buildSlice 128 1 #[(0,m)])) n fun o p=>
 oP E (xBuiltin .append #[128,128] 128 [false,false] [x5,o]) p fun q r=>
 oP E (bC .add 3 10 x10 (vI 1)) r fun s t=>
 next2 [q,s] t)
 (j1 [x5] a)
def d8j(x0 x1 w)(R:RT)(E):=
 xcut (fun b c=>c2z (nth b 0) c R E) fun j1=>
 oP E (xBuiltin .len #[47] 3 [false] [x0]) w fun d e=>
 xloop [5,10] [(nS),(vI 0)] e fun a f next2=>
 d0w x1 (a 5) x0 d (a 10) f next2 j1 R E
def d8k:Hint:=(sQ (sQ (hU [5] (sQ (hB (hL [5,10] (sQ (hS (hC hN hN) (hS (hB (sQ hN)) hN)))))) (sQ hN))))
theorem d0x{x0 x1:Value}(h:d8j x0 x1 w R E):Cv pG 211 #[x0,x1] w R E:=okF (h:=d8k) Tryz.func211 (by kernel_rfl) (by kernel_rfl) h
def d8l(x0 w)(R:RT)(E):=
 opK pG E (xV (Instr.box 49 x0)) w fun a b=>
 oP E (lA 49 a) b fun c d=>
 oP E (xV (Instr.build 146 #[(0,c)])) d fun e f=>
 oP E (xV (Instr.makeInterface 146 e)) f fun g i=>
 R g i
def d8m:Hint:=(sQ (sQ hN))
theorem d0y{x0:Value}(h:d8l x0 w R E):Cv pG 212 #[x0] w R E:=okF (h:=d8m) Tryz.func212 (by kernel_rfl) (by kernel_rfl) h
def d8n(x0 w)(R:RT)(E):=
 opK pG E (xV (Instr.box 175 x0)) w fun b c=>
 oP E (fA 175 b 0) c fun d e=>
 oP E (fA 68 d 1) e fun f g=>
 oP E (lA 3 f) g fun i j=>
 oP E (bC .geq 3 5 i (vI 0)) j fun a k=>
 oP E (gT a (fA 175 b 0)) k fun l m=>
 oP E (gT a (fA 68 l 1)) m fun n o=>
 oP E (gT a (lA 3 n)) o fun p q=>
 oP E (gT a (bC .leq 3 10 p (vI 2147483647))) q fun r s=>
 oP E (xPick a r (vB false)) s fun t u=>
 R t u
def d8o:Hint:=(sQ (sQ hN))
theorem d0z{x0:Value}(h:d8n x0 w R E):Cv pG 213 #[x0] w R E:=okF (h:=d8o) Tryz.func213 (by kernel_rfl) (by kernel_rfl) h
def d8p(x0 w)(R:RT)(E):=
 opK pG E (xV (Instr.box 175 x0)) w fun _t1_1 a=>
 R (nS) a
def d8q:Hint:=(sQ (sQ hN))
theorem d0A{x0:Value}(h:d8p x0 w R E):Cv pG 214 #[x0] w R E:=okF (h:=d8q) Tryz.func214 (by kernel_rfl) (by kernel_rfl) h
def c2A(x4 x5 x35 x83 w)(R:RT)(E):=
 ∀_τ:Fr,(xcond x83
 (oP E (gT x5 (lA 264 x4)) w fun b c=>
 oP E (gT x5 (xV (Instr.build 264 #[(0,(vI 0)),(1,(vI 1))]))) c fun d e=>
 oP E (gT x5 (bN .eql 264 88 89 b d)) e fun f g=>
 oP E (xPick x5 f (vB false)) g fun i j=>
 R i j)
 (oP E (bC .eql 3 35 x35 (vI 7)) w fun k a=>
 xcond k
 (oP E (gT x5 (lA 264 x4)) a fun l m=>
 oP E (gT x5 (xV (Instr.build 264 #[]))) m fun n o=>
 oP E (gT x5 (bN .eql 264 96 97 l n)) o fun p q=>
 oP E (xPick x5 p (vB false)) q fun r s=>
 R r s)
 (R (vB false) a)))
def d8r(x0 w)(R:RT)(E):=
 opK pG E (xV (Instr.box 177 x0)) w fun a r=>
 oP E (fA 177 a 0) r fun s t=>
 oP E (fA 56 s 4) t fun u v=>
 oP E (lA 24 u) v fun y z=>
 oP E (xBuiltin .len #[24] 3 [false] [y]) z fun aa ab=>
 oP E (fA 177 a 0) ab fun ac ad=>
 oP E (fA 56 ac 5) ad fun ae af=>
 oP E (lA 24 ae) af fun ag ah=>
 oP E (xBuiltin .len #[24] 3 [false] [ag]) ah fun ai aj=>
 oP E (bN .add 3 9 13 aa ai) aj fun ak al=>
 oP E (bC .gtr 3 14 ak (vI 0)) al fun j am=>
 oP E (fA 177 a 0) am fun an ao=>
 oP E (fA 56 an 2) ao fun ap aq=>
 oP E (lA 38 ap) aq fun ar au=>
 oP E (xBuiltin .len #[38] 3 [false] [ar]) au fun av aw=>
 oP E (fA 177 a 0) aw fun ax ay=>
 oP E (fA 56 ax 3) ay fun az ba=>
 oP E (lA 47 az) ba fun bb bc=>
 oP E (xBuiltin .len #[47] 3 [false] [bb]) bc fun bd be=>
 oP E (xV (Instr.build 264 #[(0,av),(1,bd)])) be fun bf bg=>
 oP E (xV (Instr.alloc 264 true (.tuple #[]))) bg fun c bh=>
 oP E (sA 264 c bf) bh fun _ bi=>
 oP E (fA 177 a 0) bi fun bj bk=>
 oP E (fA 56 bj 1) bk fun bl bm=>
 oP E (lA 9 bl) bm fun bn bo=>
 oP E (bC .eql 9 27 bn (eS)) bo fun k bp=>
 oP E (gT k (xV (Op.unary .not (zT k j)))) bp fun bq br=>
 oP E (xPick k bq (vB false)) br fun bs bt=>
 oP E (fA 177 a 0) bt fun bu bv=>
 oP E (fA 56 bu 0) bv fun bw bz=>
 oP E (lA 3 bw) bz fun b ca=>
 oP E (bC .eql 3 35 b (vI 1)) ca fun cb l=>
 xcond cb
 (oP E (xV (Op.unary .not j)) l fun e cc=>
 oP E (gT e (lA 264 c)) cc fun cd ce=>
 oP E (gT e (xV (Instr.build 264 #[(0,(vI 1)),(1,(vI 0))]))) ce fun cf cg=>
 oP E (gT e (bN .eql 264 41 42 cd cf)) cg fun ch ci=>
 oP E (xPick e ch (vB false)) ci fun cj ck=>
 R cj ck)
 (oP E (bC .eql 3 35 b (vI 2)) l fun cl m=>
 xcond cl
 (oP E (xV (Op.unary .not j)) m fun f cm=>
 oP E (gT f (lA 264 c)) cm fun cn co=>
 oP E (gT f (xV (Instr.build 264 #[(0,(vI 2)),(1,(vI 0))]))) co fun cp cq=>
 oP E (gT f (bN .eql 264 50 51 cn cp)) cq fun cr cs=>
 oP E (xPick f cr (vB false)) cs fun ct cu=>
 R ct cu)
 (oP E (bC .eql 3 35 b (vI 3)) m fun cv n=>
 xcond cv
 (oP E (fA 177 a 0) n fun cw cx=>
 oP E (fA 56 cw 1) cx fun cy cz=>
 oP E (lA 9 cy) cz fun da db=>
 oP E (bC .eql 9 58 da (eS)) db fun g dc=>
 oP E (gT g (lA 264 c)) dc fun dd de=>
 oP E (gT g (xV (Instr.build 264 #[(0,(vI 0)),(1,(vI 1))]))) de fun df dg=>
 oP E (gT g (bN .eql 264 61 62 dd df)) dg fun dh di=>
 oP E (xPick g dh (vB false)) di fun dj dk=>
 R dj dk)
 (oP E (bC .eql 3 35 b (vI 4)) n fun dl o=>
 xcond dl
 (oP E (fA 177 a 0) o fun dm dn=>
 oP E (fA 56 dm 1) dn fun dp dq=>
 oP E (lA 9 dp) dq fun dr ds=>
 oP E (bC .eql 9 69 dr (eS)) ds fun d dt=>
 oP E (gT d (fA 177 a 0)) dt fun du dv=>
 oP E (gT d (fA 56 du 5)) dv fun dw dx=>
 oP E (gT d (lA 24 dw)) dx fun dy dz=>
 oP E (gT d (xBuiltin .len #[24] 3 [false] [dy])) dz fun ea eb=>
 oP E (gT d (bC .eql 3 75 ea (vI 0))) eb fun ec ed=>
 oP E (xPick d ec (vB false)) ed fun i ee=>
 oP E (gT i (lA 264 c)) ee fun ef eg=>
 oP E (gT i (xV (Instr.build 264 #[(0,(vI 0)),(1,(vI 1))]))) eg fun eh ei=>
 oP E (gT i (bN .eql 264 79 80 ef eh)) ei fun ej ek=>
 oP E (xPick i ej (vB false)) ek fun el em=>
 R el em)
 (xcut (fun en eo=>c2A c bs b (nth en 0) eo R E) fun j1=>
 oP E (bC .eql 3 35 b (vI 5)) o fun p q=>
 xcond p
 (j1 [p] q)
 (oP E (bC .eql 3 35 b (vI 6)) q fun ep eq=>
 j1 [ep] eq)))))
def d8s:Hint:=(sQ (sQ (sQ (sQ (hS (sQ (hB (sQ (hC (sQ hN) (sQ (hC (sQ hN) (sQ (hC (sQ hN) (sQ (hC (sQ hN) (hU [83] (sQ (hC hN hN)) (hC (sQ hN) (sQ (hC (sQ hN) hN)))))))))))))) (sQ hN))))))
theorem d0B{x0:Value}(h:d8r x0 w R E):Cv pG 215 #[x0] w R E:=okF (h:=d8s) Tryz.func215 (by kernel_rfl) (by kernel_rfl) h
def d8t(x0 w)(R:RT)(E):=
 opK pG E (xV (Instr.box 177 x0)) w fun c n=>
 dX n fun a=>
 qP pG (fA 177 c 0) fun o=>
 qP pG (fA 56 o 3) fun l=>
 qP pG (fA 177 c 0) fun p=>
 qP pG (fA 56 p 2) fun e=>
 qP pG (fA 177 c 0) fun q=>
 qP pG (fA 56 q 4) fun d=>
 qP pG (fA 177 c 0) fun r=>
 qP pG (fA 56 r 5) fun b=>
 qL pG a (blk l) (lA 47 l) fun s=>
 qL pG a (blk e) (lA 38 e) fun t=>
 qL pG a (blk d) (lA 24 d) fun u=>
 qL pG a (blk b) (lA 24 b) fun v=>
 oP E (xCall (fC 211) [s,(fC 212)]) a fun y f=>
 keepX [(blk b),(blk d),(blk e)] a f (opK pG E (xCall (fC 207) [t,(fC 208)]) f fun z g=>
 keepX [(blk b),(blk d)] f g (opK pG E (xCall (fC 78) [u,(fC 79)]) g fun aa i=>
 keepX [(blk b)] g i (opK pG E (xCall (fC 78) [v,(fC 79)]) i fun ab j=>
 keepX [] i j (opK pG E (xV (Instr.buildSlice 172 4 #[(0,y),(1,z),(2,aa),(3,ab)])) j fun ac k=>
 keepX [] j k (opK pG E (xCall (fC 75) [ac]) k fun ad m=>
 keepX [] k m (R ad m))))))
def d8u:Hint:=(sQ (hS (.reg [(0,8,2),(1,16,8),(2,32,16),(4,64,32),(0,128,2),(16,256,128),(32,512,256),(72,1024,512),(0,2048,2),(256,4096,2048),(512,8192,4096),(1152,16384,8192),(0,32768,2),(4096,65536,32768),(8192,131072,65536),(18432,262144,131072),(34952,524288,279616),(98304,1048576,524288),(262143,4,1048576)] [17476,17476,17472,17472,17476,17476,17412,17408,17476,17476,16452,16384,17476,17476,1092,0,0,0,17476] (.early 0 (.early 1 (.early 4 (.early 5 (.early 8 (.early 9 (.early 12 (.early 13 (.load 2 (.load 6 (.load 10 (.load 14 (.step 3 (.step 7 (.step 11 (.step 15 (.step 16 (.step 17 (.early 18 .done)))))))))))))))))))) hN))
theorem d0C{x0:Value}(h:d8t x0 w R E):Cv pG 216 #[x0] w R E:=okF (h:=d8u) Tryz.func216 (by kernel_rfl) (by kernel_rfl) h
end Go.Proofs.YthklmeihgmcljaaGreatDoor
