/- The second reading of some of the program's functions, printed by gen2.py off the code; each is held against the code by the kernel. -/
import Derived.KernelRfl
import Derived.Test.YthklmeihgmcljaaGreatDoorzEGz
namespace Go.Proofs.YthklmeihgmcljaaGreatDoor
open Go.RowKit
set_option maxRecDepth 100000
variable {w:World}{R:RT}{E:Pan}
def F3(x0 w)(R:RT)(E):=
 opK pG E (xCall (fC 8) []) w fun n o=>
 oP E (xV (Op.unary .not n)) o fun p f=>
 xcond p
 (R (vB false) f)
 (oP E (xCall (fC 9) [x0]) f fun d q=>
 oP E (xT d 0) q fun r s=>
 oP E (xT d 1) s fun t u=>
 oP E (xT d 2) u fun v y=>
 oP E (xV (Instr.alloc 26 true (.tuple #[]))) y fun b z=>
 oP E (xV (Instr.alloc 28 true (.tuple #[]))) z fun g aa=>
 oP E (sA 26 b r) aa fun _ ab=>
 oP E (sA 28 g t) ab fun _ ac=>
 oP E (xCall (fC 10) [x0]) ac fun e ad=>
 oP E (xT e 0) ad fun ae af=>
 oP E (xT e 1) af fun ag ah=>
 oP E (xT e 2) ah fun i ai=>
 oP E (xV (Instr.alloc 26 true (.tuple #[]))) ai fun j aj=>
 oP E (xV (Instr.alloc 28 true (.tuple #[]))) aj fun k ak=>
 oP E (sA 26 j ae) ak fun _ al=>
 oP E (sA 28 k ag) al fun _ am=>
 oP E (bN .neq 3 23 24 v i) am fun c an=>
 oP E (gF c (lA 28 g)) an fun ao ap=>
 oP E (gF c (lA 28 k)) ap fun aq ar=>
 oP E (gF c (bN .neq 28 27 28 ao aq)) ar fun au av=>
 oP E (xPick c (vB true) au) av fun aw l=>
 xcond aw
 (R (vB false) l)
 (oP E (bC .neq 3 31 i (vI 0)) l fun ax m=>
 xcond ax
 (oP E (fA 26 b 0) m fun ay az=>
 oP E (lA 23 ay) az fun ba bb=>
 oP E (xBuiltin .len #[23] 3 [false] [ba]) bb fun bc bd=>
 oP E (bC .eql 3 35 bc (vI 0)) bd fun a be=>
 oP E (gT a (fA 26 b 1)) be fun bf bg=>
 oP E (gT a (lA 24 bf)) bg fun bh bi=>
 oP E (gT a (xBuiltin .len #[24] 3 [false] [bh])) bi fun bj bk=>
 oP E (gT a (bC .eql 3 40 bj (vI 0))) bk fun bl bm=>
 oP E (xPick a bl (vB false)) bm fun bn bo=>
 R bn bo)
 (oP E (lA 26 b) m fun bp bq=>
 oP E (lA 26 j) bq fun br bs=>
 oP E (xCall (fC 11) [bp,br]) bs fun bt bu=>
 R bt bu)))
def h3:Hint:=(sQ (hS (sQ (hC (sQ hN) hN)) (sQ (sQ (hS (sQ (hC (sQ hN) hN)) (hS (sQ (hC (sQ hN) hN)) (sQ hN)))))))
theorem d5p{x0:Value}(h:F3 x0 w R E):Cv pG 3 #[x0] w R E:=okF (h:=h3) Tryz.func3 (by kernel_rfl) (by kernel_rfl) h
def d5q(x0 x5 x6 x9 x10 w)(R:RT)(E):=
 ∀_τ:Fr,(oP E (bN .add 9 54 55 x10 x9) w fun k l=>
 oP E (xCall (fC 9) [k]) l fun e m=>
 oP E (xT e 0) m fun n o=>
 oP E (xT e 1) o fun p q=>
 oP E (xT e 2) q fun i r=>
 oP E (xV (Instr.alloc 26 true (.tuple #[]))) r fun f s=>
 oP E (xV (Instr.alloc 28 true (.tuple #[]))) s fun g t=>
 oP E (sA 26 f n) t fun _ u=>
 oP E (sA 28 g p) u fun _ v=>
 oP E (bC .leq 3 61 x0 (vI 39)) v fun y j=>
 xcond y
 (oP E (bC .eql 29 63 i (vI 0)) j fun c z=>
 oP E (gT c (lA 28 g)) z fun aa ab=>
 oP E (gT c (xV (Instr.build 28 #[]))) ab fun ac ad=>
 oP E (gT c (bN .eql 28 66 67 aa ac)) ad fun ae af=>
 oP E (xPick c ae (vB false)) af fun d ag=>
 oP E (gT d (lA 26 f)) ag fun ah ai=>
 oP E (gT d (xCall (fC 12) [ah])) ai fun aj ak=>
 oP E (gT d (bC .eql 29 72 aj (vI 0))) ak fun al am=>
 oP E (xPick d al (vB false)) am fun an ao=>
 R an ao)
 (oP E (bC .eql 29 75 i (vI 41)) j fun b ap=>
 oP E (gT b (fA 26 f 1)) ap fun aq ar=>
 oP E (gT b (lA 24 aq)) ar fun au av=>
 oP E (gT b (xBuiltin .len #[24] 3 [false] [au])) av fun aw ax=>
 oP E (gT b (bC .eql 3 80 aw (vI 0))) ax fun ay az=>
 oP E (xPick b ay (vB false)) az fun a ba=>
 oP E (gT a (lA 28 g)) ba fun bb bc=>
 oP E (gT a (xBuiltin .len #[9] 3 [false] [(zT a x5)])) bc fun bd be=>
 oP E (gT a (xBuiltin .len #[9] 3 [false] [(zT a x6)])) be fun bf bg=>
 oP E (gT a (xBin .mul 3 (.const (vI 40)) (.tmp 88) (vI 40) bf)) bg fun bh bi=>
 oP E (gT a (bN .add 3 86 89 bd bh)) bi fun bj bk=>
 oP E (gT a (bC .add 3 90 bj (vI 1))) bk fun bl bm=>
 oP E (gT a (xV (Instr.build 28 #[(0,(vI 1)),(1,bl)]))) bm fun bn bo=>
 oP E (gT a (bN .eql 28 84 92 bb bn)) bo fun bp bq=>
 oP E (xPick a bp (vB false)) bq fun br bs=>
 R br bs))
def d5r(x0 _x5 _x6 x8 _x9 x10 x12:Value)(w)(next4:NT)(j3:NT)(_R:RT)(E):=
 opK pG E (bN .lss 3 45 46 x12 x0) w fun b a=>
 xcond b
 (oP E (bN .add 9 50 51 x10 x8) a fun c d=>
 oP E (bC .add 3 48 x12 (vI 1)) d fun e f=>
 next4 [c,e] f)
 (j3 [x10] a)
def d5s(x0 x5 x6 x7 x8 x9 x10 w)(R:RT)(E):=
 ∀_τ:Fr,(oP E (bN .add 9 42 43 x10 x7) w fun b c=>
 xcut (fun d e=>d5q x0 x5 x6 x9 (nth d 0) e R E) fun j3=>
 xloop [10,12] [b,(vI 0)] c fun a f next4=>
 d5r x0 x5 x6 x8 x9 (a 10) (a 12) f next4 j3 R E)
def d5t(x0 _x5 x6 _x7 _x8 _x9 x10 x11:Value)(w)(next5:NT)(j2:NT)(_R:RT)(E):=
 opK pG E (bN .lss 3 34 35 x11 x0) w fun b a=>
 xcond b
 (oP E (bN .add 9 39 40 x10 x6) a fun c d=>
 oP E (bC .add 3 37 x11 (vI 1)) d fun e f=>
 next5 [c,e] f)
 (j2 [x10] a)
def d5u(x0 x5 x6 x7 x8 x9 w)(R:RT)(E):=
 ∀_τ:Fr,(xcut (fun b c=>d5s x0 x5 x6 x7 x8 x9 (nth b 0) c R E) fun j2=>
 xloop [10,11] [x5,(vI 0)] w fun a d next5=>
 d5t x0 x5 x6 x7 x8 x9 (a 10) (a 11) d next5 j2 R E)
def F4(x0 x1 w)(R:RT)(E):=
 opK pG E (xCall (fC 8) []) w fun j k=>
 oP E (xV (Op.unary .not j)) k fun l c=>
 xcond l
 (R (vB false) c)
 (oP E (bC .lss 3 18 x0 (vI 0)) c fun b m=>
 oP E (gF b (bC .gtr 3 21 (zF b x0) (vI 200))) m fun n o=>
 oP E (xPick b (vB true) n) o fun p d=>
 xcond p
 (R (vB true) d)
 (xcut (fun a q=>d5u x0 (nth a 0) (nth a.tail 0) (nth a.tail.tail 0) (nth a.tail.tail.tail 0) (nth a.tail.tail.tail.tail 0) q R E) fun j1=>
 oP E (bC .eql 3 24 x1 (vI 1)) d fun r e=>
 xcond r
 (j1 [(Value.string ⟨#[120,32,61,32]⟩),(Value.string ⟨#[45]⟩),(Value.string ⟨#[49]⟩),(eS),(Value.string ⟨#[59]⟩)] e)
 (oP E (bC .eql 3 24 x1 (vI 2)) e fun s f=>
 xcond s
 (j1 [(Value.string ⟨#[97,115,115,101,114,116,32]⟩),(Value.string ⟨#[33]⟩),(Value.string ⟨#[116,114,117,101]⟩),(eS),(Value.string ⟨#[59]⟩)] f)
 (oP E (bC .eql 3 24 x1 (vI 3)) f fun t g=>
 xcond t
 (j1 [(Value.string ⟨#[97,115,115,101,114,116,32]⟩),(Value.string ⟨#[91]⟩),(Value.string ⟨#[120,32,60,32,49]⟩),(Value.string ⟨#[93]⟩),(Value.string ⟨#[59]⟩)] g)
 (oP E (bC .eql 3 24 x1 (vI 4)) g fun u i=>
 xcond u
 (j1 [(eS),(Value.string ⟨#[105,102,32,116,114,117,101,32,123]⟩),(Value.string ⟨#[115,107,105,112,59]⟩),(Value.string ⟨#[125]⟩),(eS)] i)
 (j1 [(Value.string ⟨#[120,32,61,32]⟩),(Value.string ⟨#[40]⟩),(Value.string ⟨#[49]⟩),(Value.string ⟨#[41]⟩),(Value.string ⟨#[59]⟩)] i))))))
def h4:Hint:=(sQ (hS (sQ (hC (sQ hN) hN)) (hS (sQ (hC (sQ hN) hN)) (sQ (hU [5,6,7,8,9] (sQ (hB (sQ (hC hN (sQ (hC hN (sQ (hC hN (sQ (hC hN hN)))))))))) (sQ (hU [10] (sQ (hB (hL [10,11] (hS (sQ (hC hN hN)) (hS (hB hN) hN))))) (sQ (hU [10] (sQ (hB (hL [10,12] (hS (sQ (hC hN hN)) (hS (hB hN) hN))))) (sQ (hS (sQ (hC (sQ hN) hN)) (sQ hN))))))))))))
def d5v(x9 x11 w)(R:RT)(E):=
 ∀_τ:Fr,(oP E (bC .eql 29 80 x11 (vI 0)) w fun a c=>
 oP E (gT a (fA 40 x9 0)) c fun d e=>
 oP E (gT a (lA 3 d)) e fun f g=>
 oP E (gT a (bC .eql 3 84 f (vI 1))) g fun i j=>
 oP E (xPick a i (vB false)) j fun b k=>
 oP E (gT b (fA 40 x9 1)) k fun l m=>
 oP E (gT b (lA 2 l)) m fun n o=>
 oP E (gT b (bC .eql 2 89 n (vI 7))) o fun p q=>
 oP E (xPick b p (vB false)) q fun r s=>
 R r s)
def d5w(x5 x9 x11 x12 w)(next4:NT)(j3:NT)(R:RT)(E):=
 opK pG E (bC .gtr 3 42 x12 (vI 1)) w fun g e=>
 xcond g
 (oP E (bC .neq 29 46 x11 (vI 0)) e fun c i=>
 oP E (gF c (fA 40 x9 0)) i fun j k=>
 oP E (gF c (lA 3 j)) k fun l m=>
 oP E (gF c (bN .neq 3 50 51 l (zF c x5))) m fun n o=>
 oP E (xPick c (vB true) n) o fun d p=>
 oP E (gF d (fA 40 x9 3)) p fun q r=>
 oP E (gF d (lA 38 q)) r fun s t=>
 oP E (gF d (xBuiltin .len #[38] 3 [false] [s])) t fun u v=>
 oP E (gF d (bC .neq 3 57 u (vI 2))) v fun y z=>
 oP E (xPick d (vB true) y) z fun a aa=>
 oP E (gF a (fA 40 x9 3)) aa fun ab ac=>
 oP E (gF a (lA 38 ab)) ac fun ad ae=>
 oP E (gF a (iA 38 ad (vI 1))) ae fun af ag=>
 oP E (gF a (fA 40 af 0)) ag fun ah ai=>
 oP E (gF a (lA 3 ah)) ai fun aj ak=>
 oP E (gF a (bC .neq 3 65 aj (vI 1))) ak fun al am=>
 oP E (xPick a (vB true) al) am fun b an=>
 oP E (gF b (fA 40 x9 3)) an fun ao ap=>
 oP E (gF b (lA 38 ao)) ap fun aq ar=>
 oP E (gF b (iA 38 aq (vI 1))) ar fun au av=>
 oP E (gF b (fA 40 au 1)) av fun aw ax=>
 oP E (gF b (lA 2 aw)) ax fun ay az=>
 oP E (gF b (bC .neq 2 73 ay (vI 7))) az fun ba bb=>
 oP E (xPick b (vB true) ba) bb fun bc f=>
 xcond bc
 (R (vB false) f)
 (oP E (fA 40 x9 3) f fun bd be=>
 oP E (lA 38 bd) be fun bf bg=>
 oP E (iA 38 bf (vI 0)) bg fun bh bi=>
 oP E (lA 40 bh) bi fun bj bk=>
 oP E (sA 40 x9 bj) bk fun _ bl=>
 oP E (bC .sub 3 44 x12 (vI 1)) bl fun bm bn=>
 next4 [bm] bn))
 (j3 [] e)
def d5x(x0 x5 x7 w)(R:RT)(E):=
 ∀_τ:Fr,(oP E (xCall (fC 13) [x7]) w fun a e=>
 oP E (xT a 0) e fun f g=>
 oP E (xT a 1) g fun i j=>
 oP E (xT a 2) j fun b k=>
 oP E (xV (Instr.alloc 40 true (.tuple #[]))) k fun c l=>
 oP E (xV (Instr.alloc 28 true (.tuple #[]))) l fun m n=>
 oP E (sA 40 c f) n fun _ o=>
 oP E (sA 28 m i) o fun _ p=>
 oP E (bC .gtr 3 37 x0 (vI 64)) p fun q d=>
 xcond q
 (oP E (bC .eql 29 39 b (vI 41)) d fun r s=>
 R r s)
 (xcut (fun _ t=>d5v c b t R E) fun j3=>
 xloop [12] [x0] d fun u v next4=>
 d5w x5 c b (u 12) v next4 j3 R E))
def d5y(x0 _x5 x6 x7 x8:Value)(w)(next5:NT)(j2:NT)(_R:RT)(E):=
 opK pG E (bN .lss 3 22 23 x8 x0) w fun b a=>
 xcond b
 (oP E (bN .add 9 27 28 x7 x6) a fun c d=>
 oP E (bC .add 9 29 c (Value.string ⟨#[55]⟩)) d fun e f=>
 oP E (bC .add 3 25 x8 (vI 1)) f fun g i=>
 next5 [e,g] i)
 (j2 [x7] a)
def d5z(x0 x5 x6 w)(R:RT)(E):=
 ∀_τ:Fr,(xcut (fun b c=>d5x x0 x5 (nth b 0) c R E) fun j2=>
 xloop [7,8] [(Value.string ⟨#[55]⟩),(vI 1)] w fun a d next5=>
 d5y x0 x5 x6 (a 7) (a 8) d next5 j2 R E)
def F5(x0 x1 w)(R:RT)(E):=
 opK pG E (xCall (fC 8) []) w fun e f=>
 oP E (xV (Op.unary .not e)) f fun g c=>
 xcond g
 (R (vB false) c)
 (oP E (bC .lss 3 15 x0 (vI 1)) c fun a i=>
 oP E (gF a (bC .gtr 3 18 (zF a x0) (vI 300))) i fun j k=>
 oP E (xPick a (vB true) j) k fun l b=>
 xcond l
 (R (vB true) b)
 (xcut (fun d m=>d5z x0 (nth d 0) (nth d.tail 0) m R E) fun j1=>
 xcond x1
 (j1 [(vI 7),(Value.string ⟨#[32,45,32]⟩)] b)
 (j1 [(vI 6),(Value.string ⟨#[32,43,32]⟩)] b)))
def h5:Hint:=(sQ (hS (sQ (hC (sQ hN) hN)) (hS (sQ (hC (sQ hN) hN)) (sQ (hU [5,6] (sQ (hC hN hN)) (sQ (hU [7] (sQ (hB (hL [7,8] (hS (sQ (hC hN hN)) (hS (hB hN) hN))))) (sQ (hS (sQ (hC (sQ hN) hN)) (hU [] (sQ (hB (hL [12] (hS (sQ (hC hN hN)) (hS (hB (hS (sQ (hC (sQ hN) hN)) hN)) hN))))) (sQ hN)))))))))))
def h6:Hint:=(sQ (hS (sQ (hC (sQ hN) hN)) (sQ (sQ (hS (sQ (hC (sQ hN) hN)) (sQ (sQ (sQ hN))))))))
def h7:Hint:=(sQ (hS (sQ (hC (sQ hN) hN)) (sQ (sQ (hS (sQ (hC (sQ hN) hN)) (hS (sQ (hC (sQ hN) hN)) (sQ hN)))))))
def F8(w)(R:RT)(E):=
 opK pG E (xCall (fC 9) [(Value.string ⟨#[118,97,114,32,120,59,32,120,32,61,32,49,32,43,32,50,32,42,32,120,59]⟩)]) w fun g l=>
 oP E (xT g 0) l fun m n=>
 oP E (xT g 1) n fun o p=>
 oP E (xT g 2) p fun q r=>
 oP E (xV (Instr.alloc 26 true (.tuple #[]))) r fun c s=>
 oP E (xV (Instr.alloc 28 true (.tuple #[]))) s fun t u=>
 oP E (sA 26 c m) u fun _ v=>
 oP E (sA 28 t o) v fun _ y=>
 oP E (xCall (fC 9) [(Value.string ⟨#[120,32,61,32,59]⟩)]) y fun i z=>
 oP E (xT i 0) z fun aa ab=>
 oP E (xT i 1) ab fun ac ad=>
 oP E (xT i 2) ad fun ae af=>
 oP E (xV (Instr.alloc 26 true (.tuple #[]))) af fun ag ah=>
 oP E (xV (Instr.alloc 28 true (.tuple #[]))) ah fun k ai=>
 oP E (sA 26 ag aa) ai fun _ aj=>
 oP E (sA 28 k ac) aj fun _ ak=>
 oP E (bC .eql 29 17 q (vI 0)) ak fun d al=>
 oP E (gT d (fA 26 c 0)) al fun am an=>
 oP E (gT d (lA 23 am)) an fun ao ap=>
 oP E (gT d (xBuiltin .len #[23] 3 [false] [ao])) ap fun aq ar=>
 oP E (gT d (bC .eql 3 22 aq (vI 1))) ar fun au av=>
 oP E (xPick d au (vB false)) av fun e aw=>
 oP E (gT e (fA 26 c 1)) aw fun ax ay=>
 oP E (gT e (lA 24 ax)) ay fun az ba=>
 oP E (gT e (xBuiltin .len #[24] 3 [false] [az])) ba fun bb bc=>
 oP E (gT e (bC .eql 3 28 bb (vI 1))) bc fun bd be=>
 oP E (xPick e bd (vB false)) be fun b bf=>
 oP E (gT b (fA 26 c 1)) bf fun bg bh=>
 oP E (gT b (lA 24 bg)) bh fun bi bj=>
 oP E (gT b (iA 24 bi (vI 0))) bj fun bk bl=>
 oP E (gT b (fA 56 bk 2)) bl fun bm bn=>
 oP E (gT b (lA 38 bm)) bn fun bo bp=>
 oP E (gT b (xBuiltin .len #[38] 3 [false] [bo])) bp fun bq br=>
 oP E (gT b (bC .eql 3 37 bq (vI 1))) br fun bs bt=>
 oP E (xPick b bs (vB false)) bt fun a bu=>
 oP E (gT a (fA 26 c 1)) bu fun bv bw=>
 oP E (gT a (lA 24 bv)) bw fun bz ca=>
 oP E (gT a (iA 24 bz (vI 0))) ca fun cb cc=>
 oP E (gT a (fA 56 cb 2)) cc fun cd ce=>
 oP E (gT a (lA 38 cd)) ce fun cf cg=>
 oP E (gT a (iA 38 cf (vI 0))) cg fun ch ci=>
 oP E (gT a (fA 40 ch 0)) ci fun cj ck=>
 oP E (gT a (lA 3 cj)) ck fun cl cm=>
 oP E (gT a (bC .eql 3 48 cl (vI 6))) cm fun cn co=>
 oP E (xPick a cn (vB false)) co fun j cp=>
 oP E (gT j (bC .eql 29 52 (zT j ae) (vI 40))) cp fun cq cr=>
 oP E (xPick j cq (vB false)) cr fun f cs=>
 oP E (gT f (lA 28 k)) cs fun ct cu=>
 oP E (gT f (xV (Instr.build 28 #[(0,(vI 1)),(1,(vI 5))]))) cu fun cv cw=>
 oP E (gT f (bN .eql 28 56 57 ct cv)) cw fun cx cy=>
 oP E (xPick f cx (vB false)) cy fun cz da=>
 R cz da
def h8:Hint:=(sQ (sQ (sQ (sQ hN))))
theorem d5A(h:F8  w R E):Cv pG 8 #[] w R E:=okF (h:=h8) Tryz.func8 (by kernel_rfl) (by kernel_rfl) h
def F9(x0 w)(R:RT)(E):=
 opK pG E (xV (Instr.alloc 26 true (.tuple #[]))) w fun c e=>
 oP E (xV (Instr.alloc 28 true (.tuple #[]))) e fun d f=>
 oP E (xCall (fC 20) [x0,(fC 21),(fC 12)]) f fun a g=>
 oP E (xT a 0) g fun i j=>
 oP E (xT a 1) j fun k l=>
 oP E (xT a 2) l fun m n=>
 oP E (sA 26 c i) n fun _ o=>
 oP E (sA 28 d k) o fun _ b=>
 xcell pG 26 c b fun p=>
 xcell pG 28 d b fun q=>
 R (Value.tuple #[p,q,m]) b
def h9:Hint:=(sQ (sQ hN))
theorem d5B{x0:Value}(h:F9 x0 w R E):Cv pG 9 #[x0] w R E:=okF (h:=h9) Tryz.func9 (by kernel_rfl) (by kernel_rfl) h
def c4v(x2 x3 x6 x7 x9 w)(R:RT)(E):=
 ∀_τ:Fr,(oP E (bC .neq 3 86 x7 (vI 0)) w fun f e=>
 xcond f
 (dX e fun b=>
 qP pG (xV (Instr.build 26 #[])) fun g=>
 qL pG b (blk x6) (lA 28 x6) fun i=>
 oP E (sA 26 x2 g) b fun _ c=>
 keepX [(blk x6)] b c (opK pG E (sA 28 x3 i) c fun _ a=>
 keepX [] c a (xcell pG 26 x2 a fun j=>
 xcell pG 28 x3 a fun k=>
 R (Value.tuple #[j,k,x7]) a)))
 (oP E (lA 26 x9) e fun l m=>
 oP E (xV (Instr.build 28 #[])) m fun n o=>
 oP E (sA 26 x2 l) o fun _ p=>
 oP E (sA 28 x3 n) p fun _ d=>
 xcell pG 26 x2 d fun q=>
 xcell pG 28 x3 d fun r=>
 R (Value.tuple #[q,r,(vI 0)]) d))
def c4w(x2 x3 x6 x8 x9 w)(R:RT)(E):=
 ∀_τ:Fr,(oP E (xCall (fC 27) [x8]) w fun a e=>
 oP E (xT a 0) e fun f g=>
 oP E (xT a 1) g fun b i=>
 oP E (sA 28 x6 f) i fun _ j=>
 xcut (fun k l=>c4v x2 x3 x6 (nth k 0) x9 l R E) fun j3=>
 oP E (bC .eql 3 77 b (vI 0)) j fun m c=>
 xcond m
 (oP E (lA 26 x9) c fun n o=>
 oP E (xCall (fC 29) [n]) o fun p q=>
 oP E (xCall (fC 28) [x8,p]) q fun d r=>
 oP E (xT d 0) r fun s t=>
 oP E (xT d 1) t fun u v=>
 oP E (sA 28 x6 s) v fun _ y=>
 j3 [u] y)
 (j3 [b] c))
def d1T(_x2 _x3 _x6 x8 x9:Value)(w)(next4:NT)(j2:NT)(_R:RT)(E):=
 opK pG E (xNil x8) w fun j k=>
 oP E (fA 66 j 2) k fun l m=>
 oP E (lA 3 l) m fun n o=>
 oP E (bC .eql 3 59 n (vI 0)) o fun b p=>
 oP E (gT b (xCall (fC 25) [(zT b x8)])) p fun q r=>
 oP E (xPick b q (vB false)) r fun s g=>
 xcond s
 (dX g fun c=>
 qP pG (fA 26 x9 1) fun a=>
 qL pG c (blk a) (lA 24 a) fun t=>
 oP E (xCall (fC 26) [x8,(vI 1)]) c fun u d=>
 keepX [(blk a)] c d (opK pG E (xV (Instr.buildSlice 24 1 #[(0,u)])) d fun v e=>
 keepX [(blk a)] d e (opK pG E (xBuiltin .append #[24,24] 24 [false,false] [t,v]) e fun y f=>
 keepX [] e f (qP pG (fA 26 x9 1) fun z=>
 oP E (sA 24 z y) f fun _ i=>
 keepX [] f i (next4 [] i)))))
 (j2 [] g)
def c4x(x2 x3 x6 x8 x9 w)(R:RT)(E):=
 ∀_τ:Fr,(xcut (fun _ a=>c4w x2 x3 x6 x8 x9 a R E) fun j2=>
 xloop [] [] w fun _ b next4=>
 d1T x2 x3 x6 x8 x9 b next4 j2 R E)
def d1U(_x2 _x3 _x6 x8 x9:Value)(w)(next5:NT)(j1:NT)(_R:RT)(E):=
 opK pG E (xNil x8) w fun k l=>
 oP E (fA 66 k 2) l fun m n=>
 oP E (lA 3 m) n fun o p=>
 oP E (bC .eql 3 29 o (vI 0)) p fun a q=>
 oP E (gT a (xCall (fC 23) [(zT a x8),(Value.string ⟨#[118,97,114]⟩)])) q fun c r=>
 oP E (gsem (asB (zT a c)) false (xCall (fC 23) [(gval (asB (zT a c)) false x8),(Value.string ⟨#[97,114,114,97,121]⟩)])) r fun s t=>
 oP E (gT a (xPick (zT a c) (vB true) s)) t fun u v=>
 oP E (xPick a u (vB false)) v fun y i=>
 xcond y
 (oP E (xCall (fC 23) [x8,(Value.string ⟨#[97,114,114,97,121]⟩)]) i fun z aa=>
 oP E (xNil x8) aa fun ab ac=>
 oP E (fA 66 ab 1) ac fun ad ae=>
 oP E (lA 3 ad) ae fun af ag=>
 oP E (bC .add 3 44 af (vI 1)) ag fun ah ai=>
 oP E (xNil x8) ai fun aj ak=>
 oP E (fA 66 aj 1) ak fun al am=>
 oP E (sA 3 al ah) am fun _ an=>
 dX an fun d=>
 qP pG (fA 26 x9 0) fun b=>
 qL pG d (blk b) (lA 23 b) fun ao=>
 oP E (xCall (fC 24) [x8,z]) d fun ap e=>
 keepX [(blk b)] d e (opK pG E (xV (Instr.buildSlice 23 1 #[(0,ap)])) e fun aq f=>
 keepX [(blk b)] e f (opK pG E (xBuiltin .append #[23,23] 23 [false,false] [ao,aq]) f fun ar g=>
 keepX [] f g (qP pG (fA 26 x9 0) fun au=>
 oP E (sA 23 au ar) g fun _ j=>
 keepX [] g j (next5 [] j)))))
 (j1 [] i)
def F10(x0 w)(R:RT)(E):=
 opK pG E (xV (Instr.alloc 26 true (.tuple #[]))) w fun b m=>
 oP E (xV (Instr.alloc 28 true (.tuple #[]))) m fun c n=>
 oP E (xCall (fC 22) [x0]) n fun e o=>
 oP E (xT e 0) o fun p q=>
 oP E (xT e 1) q fun r s=>
 oP E (xT e 2) s fun j t=>
 oP E (xV (Instr.alloc 28 true (.tuple #[]))) t fun a u=>
 oP E (sA 28 a r) u fun _ v=>
 oP E (bC .neq 3 17 j (vI 0)) v fun y k=>
 xcond y
 (dX k fun f=>
 qP pG (xV (Instr.build 26 #[])) fun z=>
 qL pG f (blk a) (lA 28 a) fun aa=>
 oP E (sA 26 b z) f fun _ g=>
 keepX [(blk a)] f g (opK pG E (sA 28 c aa) g fun _ d=>
 keepX [] g d (xcell pG 26 b d fun ab=>
 xcell pG 28 c d fun ac=>
 R (Value.tuple #[ab,ac,j]) d)))
 (oP E (xV (Instr.build 66 #[(0,p)])) k fun ad ae=>
 oP E (xV (Instr.box 66 ad)) ae fun l af=>
 oP E (xV (Instr.build 26 #[])) af fun ag ah=>
 oP E (xV (Instr.alloc 26 true (.tuple #[]))) ah fun i ai=>
 oP E (sA 26 i ag) ai fun _ aj=>
 xcut (fun _ ak=>c4x b c a l i ak R E) fun j1=>
 xloop [] [] aj fun _ al next5=>
 d1U b c a l i al next5 j1 R E)
def h10:Hint:=(sQ (sQ (hS (sQ (hC (hS (.reg [(0,524288,0),(0,1048576,64),(0,2097152,128),(1,0,524292),(11,0,1048584),(31,16,2097152)] [2,0,2,2,0,2] (.early 0 (.early 2 (.load 1 (.step 3 (.step 4 (.early 5 .done))))))) hN) hN)) (sQ (sQ (hU [] (hB (hL [] (hS (sQ (hC hN hN)) (hB (sQ (sQ (.reg [(0,281474976710656,512),(1,562949953421312,281474976710656),(0,1125899906842624,256),(0,2251799813685248,1024),(12,4503599627370496,3377699720527872),(16,9007199254740992,4503599627370496),(50,18014398509481984,9570149208162304),(127,36028797018963968,512),(255,0,54043195528445952)] [2,0,2,2,2,2,0,2,0] (.early 0 (.early 2 (.early 3 (.load 1 (.step 4 (.step 5 (.step 6 (.early 7 (.step 8 .done)))))))))))))))) (hU [] (hB (hL [] (hS (sQ (hC hN hN)) (hB (.reg [(0,36893488147419103232,512),(1,73786976294838206464,36893488147419103232),(0,147573952589676412928,256),(4,295147905179352825856,147573952589676412928),(8,590295810358705651712,295147905179352825856),(26,1180591620717411303424,664082786653543858176),(63,2361183241434822606848,512),(127,0,3541774862152233910272)] [2,0,2,2,2,0,2,0] (.early 0 (.early 2 (.load 1 (.step 3 (.step 4 (.step 5 (.early 6 (.step 7 .done))))))))))))) (sQ (hU [7] (sQ (hC hN hN)) (hS (sQ (hC (hS (.reg [(0,309485009821345068724781056,0),(0,618970019642690137449562112,64),(0,1237940039285380274899124224,128),(1,0,309485009821345068724781060),(11,0,618970019642690137449562120),(31,16,1237940039285380274899124224)] [2,0,2,2,0,2] (.early 0 (.early 2 (.load 1 (.step 3 (.step 4 (.early 5 .done))))))) hN) hN)) (sQ hN)))))))))))
theorem d1V{x0:Value}(h:F10 x0 w R E):Cv pG 10 #[x0] w R E:=okF (h:=h10) Tryz.func10 (by kernel_rfl) (by kernel_rfl) h
def c4y(w)(R:RT)(_E:Pan):=
 ∀_τ:Fr,(R (vB true) w)
def d1W(x2 x3 x5 w)(next2:NT)(j1:NT)(R:RT)(E):=
 opK pG E (fA 26 x2 0) w fun g i=>
 oP E (lA 23 g) i fun j k=>
 oP E (xBuiltin .len #[23] 3 [false] [j]) k fun l m=>
 oP E (bN .lss 3 31 34 x5 l) m fun n b=>
 xcond n
 (dX b fun a=>
 qP pG (fA 26 x2 0) fun c=>
 qP pG (fA 26 x3 0) fun d=>
 qL pG a (blk c) (lA 23 c) fun o=>
 qP pG (iA 23 o x5) fun e=>
 qL pG a (blk e) (lA 68 e) fun p=>
 qL pG a (blk d) (lA 23 d) fun q=>
 qP pG (iA 23 q x5) fun f=>
 qL pG a (blk f) (lA 68 f) fun r=>
 qP pG (bN .neq 68 42 47 p r) fun s=>
 xcond s
 (R (vB false) a)
 (oP E (bC .add 3 36 x5 (vI 1)) a fun t u=>
 next2 [t] u))
 (j1 [] b)
def F11(x0 x1 w)(R:RT)(E):=
 opK pG E (xV (Instr.box 26 x0)) w fun c g=>
 oP E (xV (Instr.box 26 x1)) g fun d i=>
 oP E (lA 26 c) i fun j k=>
 oP E (xCall (fC 30) [j]) k fun l m=>
 oP E (xV (Op.unary .not l)) m fun e n=>
 oP E (gF e (lA 26 d)) n fun o p=>
 oP E (gF e (xCall (fC 30) [o])) p fun q r=>
 oP E (gF e (xV (Op.unary .not q))) r fun s t=>
 oP E (xPick e (vB true) s) t fun a u=>
 oP E (gF a (fA 26 c 0)) u fun v y=>
 oP E (gF a (lA 23 v)) y fun z aa=>
 oP E (gF a (xBuiltin .len #[23] 3 [false] [z])) aa fun ab ac=>
 oP E (gF a (fA 26 d 0)) ac fun ad ae=>
 oP E (gF a (lA 23 ad)) ae fun af ag=>
 oP E (gF a (xBuiltin .len #[23] 3 [false] [af])) ag fun ah ai=>
 oP E (gF a (bN .neq 3 17 20 ab ah)) ai fun aj ak=>
 oP E (xPick a (vB true) aj) ak fun b al=>
 oP E (gF b (fA 26 c 1)) al fun am an=>
 oP E (gF b (lA 24 am)) an fun ao ap=>
 oP E (gF b (fA 26 d 1)) ap fun aq ar=>
 oP E (gF b (lA 24 aq)) ar fun au av=>
 oP E (gF b (xCall (fC 31) [ao,au])) av fun aw ax=>
 oP E (gF b (xV (Op.unary .not aw))) ax fun ay az=>
 oP E (xPick b (vB true) ay) az fun ba f=>
 xcond ba
 (R (vB false) f)
 (xcut (fun _ bb=>c4y bb R E) fun j1=>
 xloop [5] [(vI 0)] f fun bc bd next2=>
 d1W c d (bc 5) bd next2 j1 R E)
def h11:Hint:=(sQ (hS (sQ (hC (sQ hN) hN)) (hU [] (sQ (hB (hL [5] (hS (sQ (hC hN hN)) (hS (hB (hS (.reg [(0,274877906944,4),(1,549755813888,274877906944),(0,1099511627776,32),(6,2199023255552,1649267441664),(8,4398046511104,2199023255552),(0,8796093022208,8),(32,17592186044416,8796093022208),(0,35184372088832,32),(192,70368744177664,52776558133248),(256,140737488355328,70368744177664),(528,281474976710656,145135534866432)] [594,592,594,594,578,594,530,594,594,82,594] (.early 0 (.early 2 (.early 5 (.early 7 (.load 1 (.early 3 (.load 4 (.load 6 (.early 8 (.load 9 (.early 10 .done)))))))))))) (hC (sQ hN) hN))) hN))))) (sQ hN))))
theorem d1X{x0 x1:Value}(h:F11 x0 x1 w R E):Cv pG 11 #[x0,x1] w R E:=okF (h:=h11) Tryz.func11 (by kernel_rfl) (by kernel_rfl) h
def F12(x0 w)(R:RT)(E):=
 opK pG E (xV (Instr.box 26 x0)) w fun a b=>
 oP E (lA 26 a) b fun c d=>
 oP E (xCall (fC 32) [c]) d fun e f=>
 oP E (xNil e) f fun g i=>
 oP E (fA 79 g 2) i fun j k=>
 oP E (lA 29 j) k fun l m=>
 R l m
def h12:Hint:=(sQ (sQ hN))
theorem d1Y{x0:Value}(h:F12 x0 w R E):Cv pG 12 #[x0] w R E:=okF (h:=h12) Tryz.func12 (by kernel_rfl) (by kernel_rfl) h
def c4z(w)(R:RT)(_E:Pan):=
 ∀_τ:Fr,(R (vB true) w)
def d1Z(x2 x3 x5 w)(next2:NT)(j1:NT)(R:RT)(E):=
 opK pG E (fA 40 x2 3) w fun i j=>
 oP E (lA 38 i) j fun k l=>
 oP E (xBuiltin .len #[38] 3 [false] [k]) l fun m n=>
 oP E (bN .lss 3 34 37 x5 m) n fun o c=>
 xcond o
 (dX c fun a=>
 qP pG (fA 40 x2 3) fun d=>
 qP pG (fA 40 x3 3) fun e=>
 qL pG a (blk d) (lA 38 d) fun p=>
 qP pG (iA 38 p x5) fun f=>
 qL pG a (blk f) (lA 40 f) fun q=>
 qL pG a (blk e) (lA 38 e) fun r=>
 qP pG (iA 38 r x5) fun g=>
 qL pG a (blk g) (lA 40 g) fun s=>
 oP E (xCall (fC 15) [q,s]) a fun t b=>
 keepX [] a b (qP pG (xV (Op.unary .not t)) fun u=>
 xcond u
 (R (vB false) b)
 (oP E (bC .add 3 39 x5 (vI 1)) b fun v y=>
 next2 [v] y)))
 (j1 [] c)
def F15(x0 x1 w)(R:RT)(E):=
 opK pG E (xV (Instr.box 40 x0)) w fun d g=>
 oP E (xV (Instr.box 40 x1)) g fun e i=>
 oP E (fA 40 d 0) i fun j k=>
 oP E (lA 3 j) k fun l m=>
 oP E (fA 40 e 0) m fun n o=>
 oP E (lA 3 n) o fun p q=>
 oP E (bN .neq 3 7 9 l p) q fun b r=>
 oP E (gF b (fA 40 d 1)) r fun s t=>
 oP E (gF b (lA 2 s)) t fun u v=>
 oP E (gF b (fA 40 e 1)) v fun y z=>
 oP E (gF b (lA 2 y)) z fun aa ab=>
 oP E (gF b (bN .neq 2 13 15 u aa)) ab fun ac ad=>
 oP E (xPick b (vB true) ac) ad fun c ae=>
 oP E (gF c (fA 40 d 2)) ae fun af ag=>
 oP E (gF c (lA 9 af)) ag fun ah ai=>
 oP E (gF c (fA 40 e 2)) ai fun aj ak=>
 oP E (gF c (lA 9 aj)) ak fun al am=>
 oP E (gF c (bN .neq 9 20 22 ah al)) am fun an ao=>
 oP E (xPick c (vB true) an) ao fun a ap=>
 oP E (gF a (fA 40 d 3)) ap fun aq ar=>
 oP E (gF a (lA 38 aq)) ar fun au av=>
 oP E (gF a (xBuiltin .len #[38] 3 [false] [au])) av fun aw ax=>
 oP E (gF a (fA 40 e 3)) ax fun ay az=>
 oP E (gF a (lA 38 ay)) az fun ba bb=>
 oP E (gF a (xBuiltin .len #[38] 3 [false] [ba])) bb fun bc bd=>
 oP E (gF a (bN .neq 3 28 31 aw bc)) bd fun be bf=>
 oP E (xPick a (vB true) be) bf fun bg f=>
 xcond bg
 (R (vB false) f)
 (xcut (fun _ bh=>c4z bh R E) fun j1=>
 xloop [5] [(vI 0)] f fun bi bj next2=>
 d1Z d e (bi 5) bj next2 j1 R E)
def h15:Hint:=(sQ (hS (sQ (hC (sQ hN) hN)) (hU [] (sQ (hB (hL [5] (hS (sQ (hC hN hN)) (hS (hB (hS (.reg [(0,2199023255552,4),(1,4398046511104,2199023255552),(0,8796093022208,32),(6,17592186044416,13194139533312),(8,35184372088832,17592186044416),(0,70368744177664,8),(32,140737488355328,70368744177664),(0,281474976710656,32),(192,562949953421312,422212465065984),(256,1125899906842624,562949953421312),(528,2251799813685248,1161084278931456),(1024,4503599627370496,2251799813685248)] [594,592,594,594,578,594,530,594,594,82,0,594] (.early 0 (.early 2 (.early 5 (.early 7 (.load 1 (.early 3 (.load 4 (.load 6 (.early 8 (.load 9 (.step 10 (.early 11 .done))))))))))))) (hC (sQ hN) hN))) hN))))) (sQ hN))))
theorem d2a{x0 x1:Value}(h:F15 x0 x1 w R E):Cv pG 15 #[x0,x1] w R E:=okF (h:=h15) Tryz.func15 (by kernel_rfl) (by kernel_rfl) h
def c4A(w)(R:RT)(_E:Pan):=
 ∀_τ:Fr,(R (vB true) w)
def d2b(x2 x3 x6 w)(next3:NT)(j2:NT)(R:RT)(E):=
 opK pG E (fA 49 x2 3) w fun i j=>
 oP E (lA 47 i) j fun k l=>
 oP E (xBuiltin .len #[47] 3 [false] [k]) l fun m n=>
 oP E (bN .lss 3 56 59 x6 m) n fun o c=>
 xcond o
 (dX c fun a=>
 qP pG (fA 49 x2 3) fun d=>
 qP pG (fA 49 x3 3) fun e=>
 qL pG a (blk d) (lA 47 d) fun p=>
 qP pG (iA 47 p x6) fun f=>
 qL pG a (blk f) (lA 49 f) fun q=>
 qL pG a (blk e) (lA 47 e) fun r=>
 qP pG (iA 47 r x6) fun g=>
 qL pG a (blk g) (lA 49 g) fun s=>
 oP E (xCall (fC 18) [q,s]) a fun t b=>
 keepX [] a b (qP pG (xV (Op.unary .not t)) fun u=>
 xcond u
 (R (vB false) b)
 (oP E (bC .add 3 61 x6 (vI 1)) b fun v y=>
 next3 [v] y)))
 (j2 [] c)
def c4B(x2 x3 w)(R:RT)(E):=
 ∀_τ:Fr,(xcut (fun _ a=>c4A a R E) fun j2=>
 xloop [6] [(vI 0)] w fun b c next3=>
 d2b x2 x3 (b 6) c next3 j2 R E)
def d2c(x2 x3 x5 w)(next4:NT)(j1:NT)(R:RT)(E):=
 opK pG E (fA 49 x2 2) w fun i j=>
 oP E (lA 38 i) j fun k l=>
 oP E (xBuiltin .len #[38] 3 [false] [k]) l fun m n=>
 oP E (bN .lss 3 37 40 x5 m) n fun o c=>
 xcond o
 (dX c fun a=>
 qP pG (fA 49 x2 2) fun d=>
 qP pG (fA 49 x3 2) fun e=>
 qL pG a (blk d) (lA 38 d) fun p=>
 qP pG (iA 38 p x5) fun f=>
 qL pG a (blk f) (lA 40 f) fun q=>
 qL pG a (blk e) (lA 38 e) fun r=>
 qP pG (iA 38 r x5) fun g=>
 qL pG a (blk g) (lA 40 g) fun s=>
 oP E (xCall (fC 15) [q,s]) a fun t b=>
 keepX [] a b (qP pG (xV (Op.unary .not t)) fun u=>
 xcond u
 (R (vB false) b)
 (oP E (bC .add 3 42 x5 (vI 1)) b fun v y=>
 next4 [v] y)))
 (j1 [] c)
def F18(x0 x1 w)(R:RT)(E):=
 opK pG E (xV (Instr.box 49 x0)) w fun c g=>
 oP E (xV (Instr.box 49 x1)) g fun d i=>
 oP E (fA 49 c 0) i fun j k=>
 oP E (lA 3 j) k fun l m=>
 oP E (fA 49 d 0) m fun n o=>
 oP E (lA 3 n) o fun p q=>
 oP E (bN .neq 3 8 10 l p) q fun e r=>
 oP E (gF e (fA 49 c 1)) r fun s t=>
 oP E (gF e (lA 3 s)) t fun u v=>
 oP E (gF e (fA 49 d 1)) v fun y z=>
 oP E (gF e (lA 3 y)) z fun aa ab=>
 oP E (gF e (bN .neq 3 14 16 u aa)) ab fun ac ad=>
 oP E (xPick e (vB true) ac) ad fun a ae=>
 oP E (gF a (fA 49 c 2)) ae fun af ag=>
 oP E (gF a (lA 38 af)) ag fun ah ai=>
 oP E (gF a (xBuiltin .len #[38] 3 [false] [ah])) ai fun aj ak=>
 oP E (gF a (fA 49 d 2)) ak fun al am=>
 oP E (gF a (lA 38 al)) am fun an ao=>
 oP E (gF a (xBuiltin .len #[38] 3 [false] [an])) ao fun ap aq=>
 oP E (gF a (bN .neq 3 22 25 aj ap)) aq fun ar au=>
 oP E (xPick a (vB true) ar) au fun b av=>
 oP E (gF b (fA 49 c 3)) av fun aw ax=>
 oP E (gF b (lA 47 aw)) ax fun ay az=>
 oP E (gF b (xBuiltin .len #[47] 3 [false] [ay])) az fun ba bb=>
 oP E (gF b (fA 49 d 3)) bb fun bc bd=>
 oP E (gF b (lA 47 bc)) bd fun be bf=>
 oP E (gF b (xBuiltin .len #[47] 3 [false] [be])) bf fun bg bh=>
 oP E (gF b (bN .neq 3 31 34 ba bg)) bh fun bi bj=>
 oP E (xPick b (vB true) bi) bj fun bk f=>
 xcond bk
 (R (vB false) f)
 (xcut (fun _ bl=>c4B c d bl R E) fun j1=>
 xloop [5] [(vI 0)] f fun bm bn next4=>
 d2c c d (bm 5) bn next4 j1 R E)
def h18:Hint:=(sQ (hS (sQ (hC (sQ hN) hN)) (hU [] (sQ (hB (hL [5] (hS (sQ (hC hN hN)) (hS (hB (hS (.reg [(0,17592186044416,4),(1,35184372088832,17592186044416),(0,70368744177664,32),(6,140737488355328,105553116266496),(8,281474976710656,140737488355328),(0,562949953421312,8),(32,1125899906842624,562949953421312),(0,2251799813685248,32),(192,4503599627370496,3377699720527872),(256,9007199254740992,4503599627370496),(528,18014398509481984,9288674231451648),(1024,36028797018963968,18014398509481984)] [594,592,594,594,578,594,530,594,594,82,0,594] (.early 0 (.early 2 (.early 5 (.early 7 (.load 1 (.early 3 (.load 4 (.load 6 (.early 8 (.load 9 (.step 10 (.early 11 .done))))))))))))) (hC (sQ hN) hN))) hN))))) (hU [] (sQ (hB (hL [6] (hS (sQ (hC hN hN)) (hS (hB (hS (.reg [(0,9223372036854775808,4),(1,18446744073709551616,9223372036854775808),(0,36893488147419103232,64),(6,73786976294838206464,55340232221128654848),(8,147573952589676412928,73786976294838206464),(0,295147905179352825856,8),(32,590295810358705651712,295147905179352825856),(0,1180591620717411303424,64),(192,2361183241434822606848,1770887431076116955136),(256,4722366482869645213696,2361183241434822606848),(528,9444732965739290427392,4869940435459321626624),(1024,18889465931478580854784,9444732965739290427392)] [594,592,594,594,578,594,530,594,594,82,0,594] (.early 0 (.early 2 (.early 5 (.early 7 (.load 1 (.early 3 (.load 4 (.load 6 (.early 8 (.load 9 (.step 10 (.early 11 .done))))))))))))) (hC (sQ hN) hN))) hN))))) (sQ hN)))))
theorem d2d{x0 x1:Value}(h:F18 x0 x1 w R E):Cv pG 18 #[x0,x1] w R E:=okF (h:=h18) Tryz.func18 (by kernel_rfl) (by kernel_rfl) h
def c4C(x2 x3 w)(R:RT)(E):=
 ∀_τ:Fr,(oP E (lA 26 x3) w fun b c=>
 oP E (sA 26 x2 b) c fun _ a=>
 xcell pG 26 x2 a fun d=>
 R d a)
def d2e(x0 _x2 x3:Value)(w)(next3:NT)(j2:NT)(_R:RT)(E):=
 opK pG E (xCall (fC 51) [x0]) w fun i j=>
 oP E (xV (Instr.field 103 i 0)) j fun k l=>
 oP E (bC .neq 3 19 k (vI 5)) l fun m f=>
 xcond m
 (oP E (xCall (fC 56) [x0]) f fun n o=>
 oP E (xCall (fC 55) [x0,(vI 1),n]) o fun _t24_20 p=>
 dX p fun b=>
 qP pG (fA 26 x3 1) fun a=>
 qL pG b (blk a) (lA 24 a) fun q=>
 oP E (xCall (fC 57) [x0,(vI 1)]) b fun r c=>
 keepX [(blk a)] b c (opK pG E (xV (Instr.buildSlice 24 1 #[(0,r)])) c fun s d=>
 keepX [(blk a)] c d (opK pG E (xBuiltin .append #[24,24] 24 [false,false] [q,s]) d fun t e=>
 keepX [] d e (qP pG (fA 26 x3 1) fun u=>
 oP E (sA 24 u t) e fun _ g=>
 keepX [] e g (next3 [] g)))))
 (j2 [] f)
def c4D(x0 x2 x3 w)(R:RT)(E):=
 ∀_τ:Fr,(xcut (fun _ a=>c4C x2 x3 a R E) fun j2=>
 xloop [] [] w fun _ b next3=>
 d2e x0 x2 x3 b next3 j2 R E)
def d2f(x0 _x2 x3:Value)(w)(next4:NT)(j1:NT)(_R:RT)(E):=
 opK pG E (xCall (fC 53) [x0,(Value.string ⟨#[118,97,114]⟩)]) w fun b j=>
 oP E (gF b (xCall (fC 53) [(zF b x0),(Value.string ⟨#[97,114,114,97,121]⟩)])) j fun k l=>
 oP E (xPick b (vB true) k) l fun m g=>
 xcond m
 (dX g fun c=>
 qP pG (fA 26 x3 0) fun a=>
 qL pG c (blk a) (lA 23 a) fun n=>
 oP E (xCall (fC 54) [x0]) c fun o d=>
 keepX [(blk a)] c d (opK pG E (xV (Instr.buildSlice 23 1 #[(0,o)])) d fun p e=>
 keepX [(blk a)] d e (opK pG E (xBuiltin .append #[23,23] 23 [false,false] [n,p]) e fun q f=>
 keepX [] e f (qP pG (fA 26 x3 0) fun r=>
 oP E (sA 23 r q) f fun _ i=>
 keepX [] f i (next4 [] i)))))
 (j1 [] g)
def F21(x0 w)(R:RT)(E):=
 opK pG E (xV (Instr.alloc 26 true (.tuple #[]))) w fun a c=>
 oP E (xV (Instr.alloc 26 true (.tuple #[]))) c fun b d=>
 xcut (fun _ e=>c4D x0 a b e R E) fun j1=>
 xloop [] [] d fun _ f next4=>
 d2f x0 a b f next4 j1 R E
def h21:Hint:=(sQ (sQ (hU [] (hB (hL [] (hS (sQ (hC hN hN)) (hB (.reg [(0,1024,8),(1,2048,1024),(0,4096,1),(4,8192,4096),(8,16384,8192),(26,32768,18432),(63,65536,8),(127,0,98304)] [2,0,2,2,2,0,2,0] (.early 0 (.early 2 (.load 1 (.step 3 (.step 4 (.step 5 (.early 6 (.step 7 .done))))))))))))) (hU [] (hB (hL [] (hS (sQ (hC hN hN)) (hB (sQ (.reg [(0,33554432,8),(1,67108864,33554432),(0,134217728,1),(4,268435456,134217728),(8,536870912,268435456),(26,1073741824,603979776),(63,2147483648,8),(127,0,3221225472)] [2,0,2,2,2,0,2,0] (.early 0 (.early 2 (.load 1 (.step 3 (.step 4 (.step 5 (.early 6 (.step 7 .done)))))))))))))) (sQ hN)))))
theorem d2g{x0:Value}(h:F21 x0 w R E):Cv pG 21 #[x0] w R E:=okF (h:=h21) Tryz.func21 (by kernel_rfl) (by kernel_rfl) h
def d2h(x0 x3 x7 x8 x9 w)(next1:NT)(R:RT)(E):=
 opK pG E (xCall (fC 60) [x0,x9]) w fun a o=>
 oP E (lA 28 x8) o fun p q=>
 oP E (xCall (fC 61) [x0,p,x9,a]) q fun r s=>
 oP E (sA 28 x8 r) s fun _ t=>
 oP E (xBuiltin .len #[9] 3 [false] [x0]) t fun u v=>
 oP E (bN .geq 3 38 40 a u) v fun y i=>
 xcond y
 (oP E (lA 28 x8) i fun z aa=>
 oP E (xV (Instr.build 103 #[(0,(vI 5)),(3,z)])) aa fun ab ac=>
 oP E (xV (Instr.buildSlice 61 1 #[(0,ab)])) ac fun ad ae=>
 oP E (xBuiltin .append #[61,61] 61 [false,false] [x7,ad]) ae fun af ag=>
 oP E (xV (Instr.build 28 #[])) ag fun ah ai=>
 oP E (sA 28 x3 ah) ai fun _ j=>
 xcell pG 28 x3 j fun aj=>
 R (Value.tuple #[af,aj,(vI 0)]) j)
 (oP E (xBuiltin .len #[61] 3 [false] [x7]) i fun ak al=>
 oP E (bC .eql 3 49 ak (vI 32768)) al fun am k=>
 xcond am
 (dX k fun b=>
 qL pG b (blk x8) (lA 28 x8) fun an=>
 oP E (sA 28 x3 an) b fun _ c=>
 keepX [] b c (xcell pG 28 x3 c fun ao=>
 R (Value.tuple #[(nS),ao,(vI 23)]) c))
 (oP E (xCall (fC 62) [x0,a]) k fun d ap=>
 oP E (xT d 0) ap fun aq ar=>
 oP E (xT d 1) ar fun l au=>
 oP E (xT d 2) au fun m av=>
 oP E (xV (Instr.alloc 103 true (.tuple #[]))) av fun e aw=>
 oP E (sA 103 e aq) aw fun _ ax=>
 oP E (bC .neq 3 59 m (vI 0)) ax fun ay n=>
 xcond ay
 (dX n fun f=>
 qL pG f (blk x8) (lA 28 x8) fun az=>
 oP E (sA 28 x3 az) f fun _ g=>
 keepX [] f g (xcell pG 28 x3 g fun ba=>
 R (Value.tuple #[(nS),ba,m]) g))
 (oP E (lA 28 x8) n fun bb bc=>
 oP E (fA 103 e 3) bc fun bd be=>
 oP E (sA 28 bd bb) be fun _ bf=>
 oP E (lA 103 e) bf fun bg bh=>
 oP E (xV (Instr.buildSlice 61 1 #[(0,bg)])) bh fun bi bj=>
 oP E (xBuiltin .append #[61,61] 61 [false,false] [x7,bi]) bj fun bk bl=>
 oP E (lA 28 x8) bl fun bm bn=>
 oP E (xCall (fC 61) [x0,bm,a,l]) bn fun bo bp=>
 oP E (sA 28 x8 bo) bp fun _ bq=>
 next1 [bk,l] bq)))
def F22(x0 w)(R:RT)(E):=
 opK pG E (xV (Instr.alloc 28 true (.tuple #[]))) w fun a k=>
 oP E (xCall (fC 58) [x0]) k fun c l=>
 oP E (xT c 0) l fun m n=>
 oP E (xT c 1) n fun b o=>
 oP E (bC .eql 3 19 b (vI 10)) o fun p d=>
 xcond p
 (oP E (xV (Instr.build 28 #[(0,(vI 1)),(1,(vI 1))])) d fun q r=>
 oP E (sA 28 a q) r fun _ e=>
 xcell pG 28 a e fun s=>
 R (Value.tuple #[(nS),s,b]) e)
 (oP E (bC .neq 3 23 b (vI 0)) d fun t f=>
 xcond t
 (oP E (xCall (fC 59) [x0,m]) f fun u v=>
 oP E (sA 28 a u) v fun _ g=>
 xcell pG 28 a g fun y=>
 R (Value.tuple #[(nS),y,b]) g)
 (oP E (xV (Instr.build 28 #[(0,(vI 1)),(1,(vI 1))])) f fun z aa=>
 oP E (xV (Instr.alloc 28 true (.tuple #[]))) aa fun i ab=>
 oP E (sA 28 i z) ab fun _ ac=>
 xloop [7,9] [(nS),(vI 0)] ac fun j ad next1=>
 d2h x0 a (j 7) i (j 9) ad next1 R E))
def h22:Hint:=(sQ (sQ (hS (sQ (hC (sQ hN) hN)) (hS (sQ (hC (sQ hN) hN)) (sQ (sQ (sQ (hB (hL [7,9] (hB (sQ (sQ (hS (sQ (hC (sQ hN) hN)) (hS (sQ (hC (hS (.reg [(0,2251799813685248,256),(0,4,0),(3,0,2251799813685256),(7,16,0)] [0,1,0,1] (.early 1 (.load 0 (.step 2 (.early 3 .done))))) hN) hN)) (sQ (hS (sQ (hC (hS (.reg [(0,2305843009213693952,256),(0,4611686018427387904,8192),(0,4,0),(5,0,2305843009213693960),(15,16,4611686018427387904)] [0,1,1,0,1] (.early 1 (.early 2 (.load 0 (.step 3 (.early 4 .done)))))) hN) hN)) (sQ (sQ (sQ hN)))))))))))))))))))
theorem d2i{x0:Value}(h:F22 x0 w R E):Cv pG 22 #[x0] w R E:=okF (h:=h22) Tryz.func22 (by kernel_rfl) (by kernel_rfl) h
def F23(x0 x1 w)(R:RT)(E):=
 opK pG E (xCall (fC 63) [x0]) w fun e f=>
 oP E (xV (Instr.alloc 103 true (.tuple #[]))) f fun c g=>
 oP E (sA 103 c e) g fun _ i=>
 oP E (xNil x0) i fun j k=>
 oP E (fA 66 j 2) k fun l m=>
 oP E (lA 3 l) m fun n o=>
 oP E (bC .eql 3 11 n (vI 0)) o fun a p=>
 oP E (gT a (fA 103 c 0)) p fun q r=>
 oP E (gT a (lA 3 q)) r fun s t=>
 oP E (gT a (bC .eql 3 15 s (vI 3))) t fun d u=>
 oP E (gsem (asB (zT a d)) false (fA 103 c 0)) u fun v y=>
 oP E (gsem (asB (zT a d)) false (lA 3 v)) y fun z aa=>
 oP E (gsem (asB (zT a d)) false (bC .eql 3 19 z (vI 4))) aa fun ab ac=>
 oP E (gT a (xPick (zT a d) (vB true) ab)) ac fun ad ae=>
 oP E (xPick a ad (vB false)) ae fun b af=>
 oP E (gT b (fA 103 c 1)) af fun ag ah=>
 oP E (gT b (lA 9 ag)) ah fun ai aj=>
 oP E (gT b (bN .eql 9 25 26 ai (zT b x1))) aj fun ak al=>
 oP E (xPick b ak (vB false)) al fun am an=>
 R am an
def h23:Hint:=(sQ (sQ (sQ hN)))
theorem d2j{x0 x1:Value}(h:F23 x0 x1 w R E):Cv pG 23 #[x0,x1] w R E:=okF (h:=h23) Tryz.func23 (by kernel_rfl) (by kernel_rfl) h
def c4E(x0 x4 x5 w)(R:RT)(E):=
 ∀_τ:Fr,(oP E (xCall (fC 65) [x0,(Value.string ⟨#[59]⟩)]) w fun _t55_11 b=>
 oP E (lA 68 x5) b fun c d=>
 oP E (sA 68 x4 c) d fun _ a=>
 xcell pG 68 x4 a fun e=>
 R e a)
def c4F(x0 _x4 _x5:Value)(w)(j1:NT)(_R:RT)(E):=
 ∀_τ:Fr,(oP E (xCall (fC 65) [x0,(Value.string ⟨#[93]⟩)]) w fun _t53_28 a=>
 j1 [] a)
def c4G(x0 x4 x5 x6 w)(j1:NT)(R:RT)(E):=
 ∀_τ:Fr,(xcut (fun _ b=>c4F x0 x4 x5 b j1 R E) fun j3=>
 oP E (xNil x0) w fun c d=>
 oP E (fA 66 c 2) d fun e f=>
 oP E (lA 3 e) f fun g i=>
 oP E (bC .eql 3 40 g (vI 0)) i fun j a=>
 xcond j
 (oP E (fA 103 x6 2) a fun k l=>
 oP E (lA 2 k) l fun m n=>
 oP E (fA 68 x5 1) n fun o p=>
 oP E (sA 3 o m) p fun _ q=>
 oP E (xNil x0) q fun r s=>
 oP E (fA 66 r 1) s fun t u=>
 oP E (lA 3 t) u fun v y=>
 oP E (bC .add 3 48 v (vI 1)) y fun z aa=>
 oP E (xNil x0) aa fun ab ac=>
 oP E (fA 66 ab 1) ac fun ad ae=>
 oP E (sA 3 ad z) ae fun _ af=>
 j3 [] af)
 (j3 [] a))
def F24(x0 x1 w)(R:RT)(E):=
 opK pG E (xV (Instr.alloc 68 true (.tuple #[]))) w fun f j=>
 oP E (xCall (fC 64) [x0]) j fun k l=>
 oP E (xV (Instr.build 68 #[(0,k)])) l fun m n=>
 oP E (xV (Instr.alloc 68 true (.tuple #[]))) n fun e o=>
 oP E (sA 68 e m) o fun _ g=>
 xcut (fun _ p=>c4E x0 f e p R E) fun j1=>
 xcond x1
 (oP E (xCall (fC 65) [x0,(Value.string ⟨#[91]⟩)]) g fun _t12_20 q=>
 oP E (xCall (fC 63) [x0]) q fun r s=>
 oP E (xV (Instr.alloc 103 true (.tuple #[]))) s fun b t=>
 oP E (sA 103 b r) t fun _ u=>
 xcut (fun _ v=>c4G x0 f e b v j1 R E) fun j2=>
 oP E (xNil x0) u fun y z=>
 oP E (fA 66 y 2) z fun aa ab=>
 oP E (lA 3 aa) ab fun ac ad=>
 oP E (bC .eql 3 18 ac (vI 0)) ad fun a ae=>
 oP E (gT a (fA 103 b 0)) ae fun af ag=>
 oP E (gT a (lA 3 af)) ag fun ah ai=>
 oP E (gT a (bC .neq 3 22 ah (vI 2))) ai fun c aj=>
 oP E (gsem (asB (zT a c)) false (fA 103 b 2)) aj fun ak al=>
 oP E (gsem (asB (zT a c)) false (lA 2 ak)) al fun am an=>
 oP E (gsem (asB (zT a c)) false (bC .lss 2 26 am (vI 1))) an fun ao ap=>
 oP E (gT a (xPick (zT a c) (vB true) ao)) ap fun d aq=>
 oP E (gsem (asB (zT a d)) false (fA 103 b 2)) aq fun ar au=>
 oP E (gsem (asB (zT a d)) false (lA 2 ar)) au fun av aw=>
 oP E (gsem (asB (zT a d)) false (bC .gtr 2 31 av (vI 2147483647))) aw fun ax ay=>
 oP E (gT a (xPick (zT a d) (vB true) ax)) ay fun az ba=>
 oP E (xPick a az (vB false)) ba fun bb i=>
 xcond bb
 (oP E (xCall (fC 66) [x0,(vI 40)]) i fun _t36_96 bc=>
 j2 [] bc)
 (j2 [] i))
 (j1 [] g)
def h24:Hint:=(sQ (sQ (hU [] (sQ (hC (sQ (sQ (hU [] (sQ (hC hN hN)) (hU [] (sQ (hC (sQ hN) hN)) hN)))) hN)) (sQ (sQ hN)))))
theorem d2k{x0 x1:Value}(h:F24 x0 x1 w R E):Cv pG 24 #[x0,x1] w R E:=okF (h:=h24) Tryz.func24 (by kernel_rfl) (by kernel_rfl) h
def F25(x0 w)(R:RT)(E):=
 opK pG E (xCall (fC 63) [x0]) w fun f g=>
 oP E (xV (Instr.field 103 f 0)) g fun i j=>
 oP E (bC .eql 3 5 i (vI 1)) j fun a k=>
 oP E (gF a (xCall (fC 23) [(zF a x0),(Value.string ⟨#[105,102]⟩)])) k fun l m=>
 oP E (xPick a (vB true) l) m fun b n=>
 oP E (gF b (xCall (fC 23) [(zF b x0),(Value.string ⟨#[119,104,105,108,101]⟩)])) n fun o p=>
 oP E (xPick b (vB true) o) p fun c q=>
 oP E (gF c (xCall (fC 23) [(zF c x0),(Value.string ⟨#[97,115,115,101,114,116]⟩)])) q fun r s=>
 oP E (xPick c (vB true) r) s fun d t=>
 oP E (gF d (xCall (fC 23) [(zF d x0),(Value.string ⟨#[97,115,115,117,109,101]⟩)])) t fun u v=>
 oP E (xPick d (vB true) u) v fun e y=>
 oP E (gF e (xCall (fC 23) [(zF e x0),(Value.string ⟨#[115,107,105,112]⟩)])) y fun z aa=>
 oP E (xPick e (vB true) z) aa fun ab ac=>
 R ab ac
def h25:Hint:=(sQ (sQ hN))
theorem d2l{x0:Value}(h:F25 x0 w R E):Cv pG 25 #[x0] w R E:=okF (h:=h25) Tryz.func25 (by kernel_rfl) (by kernel_rfl) h
def c4H(x4 x6 w)(R:RT)(E):=
 ∀_τ:Fr,(oP E (lA 56 x6) w fun b c=>
 oP E (sA 56 x4 b) c fun _ a=>
 xcell pG 56 x4 a fun d=>
 R d a)
def c4I(x0 x1 x4 x7 w)(R:RT)(E):=
 ∀_τ:Fr,(oP E (xCall (fC 65) [x0,(Value.string ⟨#[61]⟩)]) w fun _t78_98 i=>
 dX i fun b=>
 qP pG (fA 56 x7 2) fun a=>
 qL pG b (blk a) (lA 38 a) fun j=>
 oP E (xCall (fC 37) [x0,x1]) b fun k c=>
 keepX [(blk a)] b c (opK pG E (xV (Instr.buildSlice 38 1 #[(0,k)])) c fun l d=>
 keepX [(blk a)] c d (opK pG E (xBuiltin .append #[38,38] 38 [false,false] [j,l]) d fun m e=>
 keepX [] d e (qP pG (fA 56 x7 2) fun n=>
 oP E (sA 38 n m) e fun _ f=>
 keepX [] e f (opK pG E (xCall (fC 65) [x0,(Value.string ⟨#[59]⟩)]) f fun _t88_112 o=>
 oP E (lA 56 x7) o fun p q=>
 oP E (sA 56 x4 p) q fun _ g=>
 xcell pG 56 x4 g fun r=>
 R r g)))))
def F26(x0 x1 w)(R:RT)(E):=
 opK pG E (xV (Instr.alloc 56 true (.tuple #[]))) w fun a ag=>
 oP E (xCall (fC 67) [x0,(Value.string ⟨#[115,107,105,112]⟩)]) ag fun ah r=>
 xcond ah
 (oP E (xCall (fC 65) [x0,(Value.string ⟨#[59]⟩)]) r fun _t12_5 ai=>
 oP E (xV (Instr.build 56 #[(0,(vI 7))])) ai fun aj ak=>
 oP E (sA 56 a aj) ak fun _ s=>
 xcell pG 56 a s fun al=>
 R al s)
 (oP E (xCall (fC 67) [x0,(Value.string ⟨#[97,115,115,101,114,116]⟩)]) r fun am t=>
 xcond am
 (oP E (xCall (fC 68) [x0,(vI 5),x1]) t fun an ao=>
 oP E (sA 56 a an) ao fun _ u=>
 xcell pG 56 a u fun ap=>
 R ap u)
 (oP E (xCall (fC 67) [x0,(Value.string ⟨#[97,115,115,117,109,101]⟩)]) t fun aq v=>
 xcond aq
 (oP E (xCall (fC 68) [x0,(vI 6),x1]) v fun ar au=>
 oP E (sA 56 a ar) au fun _ y=>
 xcell pG 56 a y fun av=>
 R av y)
 (oP E (xCall (fC 67) [x0,(Value.string ⟨#[119,104,105,108,101]⟩)]) v fun aw z=>
 xcond aw
 (oP E (xCall (fC 43) [x0,x1]) z fun ax ay=>
 oP E (xV (Instr.alloc 49 true (.tuple #[]))) ay fun b az=>
 oP E (sA 49 b ax) az fun _ ba=>
 dX ba fun c=>
 qP pG (bC .add 3 35 x1 (vI 1)) fun aa=>
 qL pG c (blk b) (lA 49 b) fun ab=>
 (oP E (xV (Instr.buildSlice 47 1 #[(0,ab)])) c fun bb g=>
 keepX [] c g (opK pG E (xCall (fC 69) [x0,aa]) g fun bc i=>
 keepX [(blk b)] g i (qP pG (xV (Instr.build 56 #[(0,(vI 4)),(3,bb),(4,bc)])) fun bd=>
 oP E (sA 56 a bd) i fun _ j=>
 keepX [] i j (xcell pG 56 a j fun be=>
 R be j))))∧
 (oP E (xCall (fC 69) [x0,aa]) c fun bf k=>
 keepX [(blk b)] c k (opK pG E (xV (Instr.buildSlice 47 1 #[(0,ab)])) k fun bg l=>
 keepX [] k l (qP pG (xV (Instr.build 56 #[(0,(vI 4)),(3,bg),(4,bf)])) fun bh=>
 oP E (sA 56 a bh) l fun _ m=>
 keepX [] l m (xcell pG 56 a m fun bi=>
 R bi m)))))
 (oP E (xCall (fC 67) [x0,(Value.string ⟨#[105,102]⟩)]) z fun bj ac=>
 xcond bj
 (oP E (xCall (fC 43) [x0,x1]) ac fun bk bl=>
 oP E (xV (Instr.buildSlice 47 1 #[(0,bk)])) bl fun bm bn=>
 oP E (xV (Instr.build 56 #[(0,(vI 3)),(3,bm)])) bn fun bo bp=>
 oP E (xV (Instr.alloc 56 true (.tuple #[]))) bp fun e bq=>
 oP E (sA 56 e bo) bq fun _ br=>
 oP E (bC .add 3 48 x1 (vI 1)) br fun bs bt=>
 oP E (xCall (fC 69) [x0,bs]) bt fun bu bv=>
 oP E (fA 56 e 4) bv fun bw bz=>
 oP E (sA 24 bw bu) bz fun _ ca=>
 xcut (fun _ cb=>c4H a e cb R E) fun j1=>
 oP E (xCall (fC 67) [x0,(Value.string ⟨#[101,108,115,101]⟩)]) ca fun cc ad=>
 xcond cc
 (oP E (bC .add 3 55 x1 (vI 1)) ad fun cd ce=>
 oP E (xCall (fC 69) [x0,cd]) ce fun cf cg=>
 oP E (fA 56 e 5) cg fun ch ci=>
 oP E (sA 24 ch cf) ci fun _ cj=>
 j1 [] cj)
 (j1 [] ad))
 (oP E (xCall (fC 64) [x0]) ac fun ck cl=>
 oP E (xV (Instr.build 56 #[(0,(vI 1)),(1,ck)])) cl fun cm cn=>
 oP E (xV (Instr.alloc 56 true (.tuple #[]))) cn fun d co=>
 oP E (sA 56 d cm) co fun _ cp=>
 xcut (fun _ cq=>c4I x0 x1 a d cq R E) fun j2=>
 oP E (xCall (fC 67) [x0,(Value.string ⟨#[91]⟩)]) cp fun cr ae=>
 xcond cr
 (oP E (fA 56 d 0) ae fun cs ct=>
 oP E (sA 3 cs (vI 2)) ct fun _ cu=>
 dX cu fun n=>
 qP pG (fA 56 d 2) fun f=>
 qP pG (bC .add 3 69 x1 (vI 1)) fun cv=>
 qL pG n (blk f) (lA 38 f) fun cw=>
 oP E (xCall (fC 37) [x0,cv]) n fun cx o=>
 keepX [(blk f)] n o (opK pG E (xV (Instr.buildSlice 38 1 #[(0,cx)])) o fun cy p=>
 keepX [(blk f)] o p (opK pG E (xBuiltin .append #[38,38] 38 [false,false] [cw,cy]) p fun cz q=>
 keepX [] p q (qP pG (fA 56 d 2) fun da=>
 oP E (sA 38 da cz) q fun _ af=>
 keepX [] q af (opK pG E (xCall (fC 65) [x0,(Value.string ⟨#[93]⟩)]) af fun _t76_140 db=>
 j2 [] db)))))
 (j2 [] ae))))))
def h26:Hint:=(sQ (hS (hB (sQ (hC (sQ (sQ hN)) (sQ (hC (sQ hN) (sQ (hC (sQ hN) (sQ (hC (sQ (hS (.reg [(0,4294967296,32),(1,8589934592,4294967296),(0,17179869184,1),(0,34359738368,2),(8,68719476736,34359738368),(20,137438953472,85899345920),(34,274877906944,146028888064),(127,0,274877906960)] [0,0,1,1,1,1,1,0] (.early 2 (.early 3 (.early 4 (.load 0 (.alt 1 (.step 5 (.early 6 (.step 7 .done))) (.step 5 (.step 1 (.early 6 (.step 7 .done)))))))))) hN)) (sQ (hC (sQ (sQ (hU [] (sQ (hC hN hN)) (sQ hN)))) hN))))))))))) (sQ (hU [] (sQ (hC (sQ (hS (.reg [(0,73786976294838206464,128),(1,147573952589676412928,73786976294838206464),(0,295147905179352825856,1),(0,590295810358705651712,2),(8,1180591620717411303424,590295810358705651712),(20,2361183241434822606848,1475739525896764129280),(32,4722366482869645213696,2361183241434822606848),(98,9444732965739290427392,4869940435459321626624),(255,18889465931478580854784,128),(511,0,28334198897217871282176)] [2,0,2,2,2,2,2,0,2,0] (.early 0 (.early 2 (.early 3 (.early 4 (.load 1 (.step 5 (.step 6 (.step 7 (.early 8 (.step 9 .done))))))))))) hN)) hN)) (sQ (hS (.reg [(0,604462909807314587353088,128),(1,1208925819614629174706176,604462909807314587353088),(0,2417851639229258349412352,1),(0,4835703278458516698824704,2),(12,9671406556917033397649408,7253554917687775048237056),(16,19342813113834066795298816,9671406556917033397649408),(50,38685626227668133590597632,20551738933448695970004992),(127,77371252455336267181195264,128),(255,0,116056878683004400771792896)] [2,0,2,2,2,2,0,2,0] (.early 0 (.early 2 (.early 3 (.load 1 (.step 4 (.step 5 (.step 6 (.early 7 (.step 8 .done)))))))))) (sQ (sQ hN))))))))
theorem d2m{x0 x1:Value}(h:F26 x0 x1 w R E):Cv pG 26 #[x0,x1] w R E:=okF (h:=h26) Tryz.func26 (by kernel_rfl) (by kernel_rfl) h
def c4J(x0 x2 w)(R:RT)(E):=
 ∀_τ:Fr,(dX w fun a=>
 qP pG (xNil x0) fun e=>
 qP pG (fA 66 e 3) fun d=>
 qP pG (xNil x0) fun f=>
 qP pG (fA 66 f 2) fun b=>
 qL pG a (blk d) (lA 28 d) fun g=>
 qL pG a (blk b) (lA 3 b) fun i=>
 oP E (sA 28 x2 g) a fun _ c=>
 keepX [(blk b)] a c (xcell pG 28 x2 c fun j=>
 R (Value.tuple #[j,i]) c))
def F27(x0 w)(R:RT)(E):=
 opK pG E (xV (Instr.alloc 28 true (.tuple #[]))) w fun c d=>
 xcut (fun _ e=>c4J x0 c e R E) fun j1=>
 oP E (xNil x0) d fun f g=>
 oP E (fA 66 f 2) g fun i j=>
 oP E (lA 3 i) j fun k l=>
 oP E (bC .eql 3 7 k (vI 0)) l fun a m=>
 oP E (gT a (xCall (fC 63) [(zT a x0)])) m fun n o=>
 oP E (gT a (xV (Instr.field 103 n 0))) o fun p q=>
 oP E (gT a (bC .neq 3 12 p (vI 5))) q fun r s=>
 oP E (xPick a r (vB false)) s fun t b=>
 xcond t
 (oP E (xCall (fC 66) [x0,(vI 40)]) b fun _t16_31 u=>
 j1 [] u)
 (j1 [] b)
def h27:Hint:=(sQ (hU [] (sQ (hC hN hN)) (hS (.reg [(0,131072,1),(1,262144,131072),(2,524288,262144),(4,1048576,524288),(0,2097152,1),(16,4194304,2097152),(32,8388608,4194304),(64,16777216,8388608),(15,0,1048580),(511,8,16777216)] [136,136,136,128,136,136,136,8,128,136] (.early 0 (.early 1 (.early 2 (.early 4 (.early 5 (.early 6 (.load 3 (.load 7 (.step 8 (.early 9 .done))))))))))) hN)))
theorem d2n{x0:Value}(h:F27 x0 w R E):Cv pG 27 #[x0] w R E:=okF (h:=h27) Tryz.func27 (by kernel_rfl) (by kernel_rfl) h
def F28(x0 x1 w)(R:RT)(E):=
 opK pG E (xV (Instr.alloc 28 true (.tuple #[]))) w fun a p=>
 oP E (bC .eql 3 6 x1 (vI 32)) p fun q f=>
 xcond q
 (dX f fun b=>
 qP pG (xNil x0) fun r=>
 qP pG (fA 66 r 0) fun g=>
 qP pG (xNil x0) fun s=>
 qP pG (fA 66 s 0) fun i=>
 qL pG b (blk g) (lA 61 g) fun t=>
 qL pG b (blk i) (lA 61 i) fun u=>
 qP pG (xBuiltin .len #[61] 3 [false] [u]) fun v=>
 qP pG (bC .sub 3 17 v (vI 1)) fun y=>
 qP pG (iA 61 t y) fun z=>
 qP pG (fA 103 z 3) fun j=>
 qL pG b (blk j) (lA 28 j) fun aa=>
 oP E (sA 28 a aa) b fun _ d=>
 keepX [] b d (xcell pG 28 a d fun ab=>
 R (Value.tuple #[ab,(vI 41)]) d))
 (oP E (bC .eql 3 6 x1 (vI 33)) f fun ac k=>
 xcond ac
 (dX k fun c=>
 qP pG (xNil x0) fun ad=>
 qP pG (fA 66 ad 0) fun l=>
 qP pG (xNil x0) fun ae=>
 qP pG (fA 66 ae 0) fun m=>
 qL pG c (blk l) (lA 61 l) fun af=>
 qL pG c (blk m) (lA 61 m) fun ag=>
 qP pG (xBuiltin .len #[61] 3 [false] [ag]) fun ah=>
 qP pG (bC .sub 3 32 ah (vI 1)) fun ai=>
 qP pG (iA 61 af ai) fun aj=>
 qP pG (fA 103 aj 3) fun n=>
 qL pG c (blk n) (lA 28 n) fun ak=>
 oP E (sA 28 a ak) c fun _ e=>
 keepX [] c e (xcell pG 28 a e fun al=>
 R (Value.tuple #[al,(vI 42)]) e))
 (oP E (xV (Instr.build 28 #[])) k fun am an=>
 oP E (sA 28 a am) an fun _ o=>
 xcell pG 28 a o fun ao=>
 R (Value.tuple #[ao,(vI 0)]) o))
def h28:Hint:=(sQ (hS (sQ (hB (sQ (hC (hS (.reg [(0,512,1),(1,1024,512),(2,2048,1024),(4,4096,2048),(0,8192,1),(16,16384,8192),(32,32768,16384),(64,65536,32768),(128,131072,65536),(256,262144,131072),(520,524288,266240),(1024,1048576,524288),(2048,2097152,1048576),(8191,0,2097168),(16383,32,0)] [4232,4232,4232,4224,4232,4232,4232,4104,4232,4232,4232,4232,136,0,4232] (.early 0 (.early 1 (.early 2 (.early 4 (.early 5 (.early 6 (.load 3 (.load 7 (.early 8 (.early 9 (.early 10 (.early 11 (.load 12 (.step 13 (.early 14 .done)))))))))))))))) hN) (sQ (hC (hS (.reg [(0,16777216,1),(1,33554432,16777216),(2,67108864,33554432),(4,134217728,67108864),(0,268435456,1),(16,536870912,268435456),(32,1073741824,536870912),(64,2147483648,1073741824),(128,4294967296,2147483648),(256,8589934592,4294967296),(520,17179869184,8724152320),(1024,34359738368,17179869184),(2048,68719476736,34359738368),(8191,0,68719476752),(16383,32,0)] [4232,4232,4232,4224,4232,4232,4232,4104,4232,4232,4232,4232,136,0,4232] (.early 0 (.early 1 (.early 2 (.early 4 (.early 5 (.early 6 (.load 3 (.load 7 (.early 8 (.early 9 (.early 10 (.early 11 (.load 12 (.step 13 (.early 14 .done)))))))))))))))) hN) hN)))))) (sQ hN)))
theorem d2o{x0 x1:Value}(h:F28 x0 x1 w R E):Cv pG 28 #[x0,x1] w R E:=okF (h:=h28) Tryz.func28 (by kernel_rfl) (by kernel_rfl) h
def c4K(x4 w)(R:RT)(E):=
 ∀_τ:Fr,(oP E (lA 123 x4) w fun a b=>
 oP E (xCall (fC 73) [a]) b fun c d=>
 R c d)
def d2p(x1 x4 x6 w)(next3:NT)(j2:NT)(_R:RT)(E):=
 opK pG E (fA 26 x1 1) w fun c d=>
 oP E (lA 24 c) d fun e f=>
 oP E (xBuiltin .len #[24] 3 [false] [e]) f fun g i=>
 oP E (bN .lss 3 50 53 x6 g) i fun a j=>
 oP E (gT a (fA 123 x4 0)) j fun k l=>
 oP E (gT a (lA 4 k)) l fun m n=>
 oP E (xPick a m (vB false)) n fun o b=>
 xcond o
 (oP E (fA 26 x1 1) b fun p q=>
 oP E (lA 24 p) q fun r s=>
 oP E (iA 24 r x6) s fun t u=>
 oP E (lA 56 t) u fun v y=>
 oP E (xCall (fC 72) [x4,v]) y fun _t66_55 z=>
 oP E (bC .add 3 59 x6 (vI 1)) z fun aa ab=>
 next3 [aa] ab)
 (j2 [] b)
def c4L(x1 x4 w)(R:RT)(E):=
 ∀_τ:Fr,(xcut (fun _ a=>c4K x4 a R E) fun j2=>
 xloop [6] [(vI 0)] w fun b c next3=>
 d2p x1 x4 (b 6) c next3 j2 R E)
def d2q(x1 x4 x5 w)(next4:NT)(j1:NT)(_R:RT)(E):=
 opK pG E (fA 26 x1 0) w fun d e=>
 oP E (lA 23 d) e fun f g=>
 oP E (xBuiltin .len #[23] 3 [false] [f]) g fun i j=>
 oP E (bN .lss 3 15 18 x5 i) j fun k c=>
 xcond k
 (oP E (fA 123 x4 0) c fun l m=>
 oP E (lA 4 l) m fun a n=>
 oP E (gT a (fA 26 x1 0)) n fun o p=>
 oP E (gT a (lA 23 o)) p fun q r=>
 oP E (gT a (iA 23 q (zT a x5))) r fun s t=>
 oP E (gT a (fA 68 s 1)) t fun u v=>
 oP E (gT a (lA 3 u)) v fun y z=>
 oP E (gT a (bC .geq 3 30 y (vI 0))) z fun aa ab=>
 oP E (xPick a aa (vB false)) ab fun b ac=>
 oP E (gT b (fA 26 x1 0)) ac fun ad ae=>
 oP E (gT b (lA 23 ad)) ae fun af ag=>
 oP E (gT b (iA 23 af (zT b x5))) ag fun ah ai=>
 oP E (gT b (fA 68 ah 1)) ai fun aj ak=>
 oP E (gT b (lA 3 aj)) ak fun al am=>
 oP E (gT b (bC .leq 3 39 al (vI 2147483647))) am fun an ao=>
 oP E (xPick b an (vB false)) ao fun ap aq=>
 oP E (fA 123 x4 0) aq fun ar au=>
 oP E (sA 4 ar ap) au fun _ av=>
 oP E (fA 26 x1 0) av fun aw ax=>
 oP E (lA 23 aw) ax fun ay az=>
 oP E (iA 23 ay x5) az fun ba bb=>
 oP E (fA 68 ba 0) bb fun bc bd=>
 oP E (lA 9 bc) bd fun be bf=>
 oP E (xCall (fC 71) [x4,be,(vB true)]) bf fun _t49_117 bg=>
 oP E (bC .add 3 20 x5 (vI 1)) bg fun bh bi=>
 next4 [bh] bi)
 (j1 [] c)
def F29(x0 w)(R:RT)(E):=
 opK pG E (xV (Instr.box 26 x0)) w fun a e=>
 oP E (lA 26 a) e fun f g=>
 oP E (xCall (fC 70) [f]) g fun i j=>
 oP E (xV (Instr.alloc 120 true (.tuple #[]))) j fun b k=>
 oP E (sA 120 b i) k fun _ l=>
 oP E (fA 120 b 2) l fun m n=>
 oP E (lA 3 m) n fun o p=>
 oP E (bC .neq 3 10 o (vI 0)) p fun q d=>
 xcond q
 (oP E (fA 120 b 2) d fun r s=>
 oP E (lA 3 r) s fun t u=>
 R t u)
 (oP E (xV (Instr.build 123 #[(0,(vB true)),(1,(vB true))])) d fun v y=>
 oP E (xV (Instr.alloc 123 true (.tuple #[]))) y fun c z=>
 oP E (sA 123 c v) z fun _ aa=>
 xcut (fun _ ab=>c4L a c ab R E) fun j1=>
 xloop [5] [(vI 0)] aa fun ac ad next4=>
 d2q a c (ac 5) ad next4 j1 R E)
def h29:Hint:=(sQ (sQ (hS (sQ (hC (sQ hN) hN)) (sQ (hU [] (sQ (hB (hL [5] (hS (sQ (hC hN hN)) (hS (hB (sQ hN)) hN))))) (hU [] (sQ (hB (hL [6] (hS (sQ (hC hN hN)) (hS (hB hN) hN))))) (sQ hN)))))))
theorem d2r{x0:Value}(h:F29 x0 w R E):Cv pG 29 #[x0] w R E:=okF (h:=h29) Tryz.func29 (by kernel_rfl) (by kernel_rfl) h
def F30(x0 w)(R:RT)(E):=
 opK pG E (xV (Instr.box 26 x0)) w fun a b=>
 oP E (lA 26 a) b fun c d=>
 oP E (xCall (fC 70) [c]) d fun e f=>
 oP E (xV (Instr.field 120 e 2)) f fun g i=>
 oP E (bC .eql 3 5 g (vI 0)) i fun j k=>
 R j k
def h30:Hint:=(sQ (sQ hN))
theorem d2s{x0:Value}(h:F30 x0 w R E):Cv pG 30 #[x0] w R E:=okF (h:=h30) Tryz.func30 (by kernel_rfl) (by kernel_rfl) h
def c4M(w)(R:RT)(_E:Pan):=
 ∀_τ:Fr,(R (vB true) w)
def c4N(_x0 _x1 x5:Value)(w)(next2:NT)(_R:RT)(E):=
 ∀_τ:Fr,(oP E (bC .add 3 19 x5 (vI 1)) w fun a b=>
 next2 [a] b)
def d2t(_x0 _x1 _x5 x6 x7 x9:Value)(w)(next6:NT)(j3:NT)(R:RT)(E):=
 opK pG E (fA 56 x6 2) w fun i j=>
 oP E (lA 38 i) j fun k l=>
 oP E (xBuiltin .len #[38] 3 [false] [k]) l fun m n=>
 oP E (bN .lss 3 94 97 x9 m) n fun o c=>
 xcond o
 (dX c fun a=>
 qP pG (fA 56 x6 2) fun d=>
 qP pG (fA 56 x7 2) fun e=>
 qL pG a (blk d) (lA 38 d) fun p=>
 qP pG (iA 38 p x9) fun f=>
 qL pG a (blk f) (lA 40 f) fun q=>
 qL pG a (blk e) (lA 38 e) fun r=>
 qP pG (iA 38 r x9) fun g=>
 qL pG a (blk g) (lA 40 g) fun s=>
 oP E (xCall (fC 15) [q,s]) a fun t b=>
 keepX [] a b (qP pG (xV (Op.unary .not t)) fun u=>
 xcond u
 (R (vB false) b)
 (oP E (bC .add 3 99 x9 (vI 1)) b fun v y=>
 next6 [v] y)))
 (j3 [] c)
def c4O(x0 x1 x5 x6 x7 w)(j3:NT)(R:RT)(E):=
 ∀_τ:Fr,(xloop [9] [(vI 0)] w fun a b next6=>
 d2t x0 x1 x5 x6 x7 (a 9) b next6 j3 R E)
def d2u(_x0 _x1 _x5 x6 x7 x8:Value)(w)(next7:NT)(j5:NT)(R:RT)(E):=
 opK pG E (fA 56 x6 3) w fun i j=>
 oP E (lA 47 i) j fun k l=>
 oP E (xBuiltin .len #[47] 3 [false] [k]) l fun m n=>
 oP E (bN .lss 3 75 78 x8 m) n fun o c=>
 xcond o
 (dX c fun a=>
 qP pG (fA 56 x6 3) fun d=>
 qP pG (fA 56 x7 3) fun e=>
 qL pG a (blk d) (lA 47 d) fun p=>
 qP pG (iA 47 p x8) fun f=>
 qL pG a (blk f) (lA 49 f) fun q=>
 qL pG a (blk e) (lA 47 e) fun r=>
 qP pG (iA 47 r x8) fun g=>
 qL pG a (blk g) (lA 49 g) fun s=>
 oP E (xCall (fC 18) [q,s]) a fun t b=>
 keepX [] a b (qP pG (xV (Op.unary .not t)) fun u=>
 xcond u
 (R (vB false) b)
 (oP E (bC .add 3 80 x8 (vI 1)) b fun v y=>
 next7 [v] y)))
 (j5 [] c)
def c4P(x0 x1 x5 x6 x7 w)(j3:NT)(R:RT)(E):=
 ∀_τ:Fr,(oP E (fA 56 x6 0) w fun g i=>
 oP E (lA 3 g) i fun j k=>
 oP E (fA 56 x7 0) k fun l m=>
 oP E (lA 3 l) m fun n o=>
 oP E (bN .neq 3 30 32 j n) o fun e p=>
 oP E (gF e (fA 56 x6 1)) p fun q r=>
 oP E (gF e (lA 9 q)) r fun s t=>
 oP E (gF e (fA 56 x7 1)) t fun u v=>
 oP E (gF e (lA 9 u)) v fun y z=>
 oP E (gF e (bN .neq 9 36 38 s y)) z fun aa ab=>
 oP E (xPick e (vB true) aa) ab fun a ac=>
 oP E (gF a (fA 56 x6 3)) ac fun ad ae=>
 oP E (gF a (lA 47 ad)) ae fun af ag=>
 oP E (gF a (xBuiltin .len #[47] 3 [false] [af])) ag fun ah ai=>
 oP E (gF a (fA 56 x7 3)) ai fun aj ak=>
 oP E (gF a (lA 47 aj)) ak fun al am=>
 oP E (gF a (xBuiltin .len #[47] 3 [false] [al])) am fun an ao=>
 oP E (gF a (bN .neq 3 44 47 ah an)) ao fun ap aq=>
 oP E (xPick a (vB true) ap) aq fun b ar=>
 oP E (gF b (fA 56 x6 2)) ar fun au av=>
 oP E (gF b (lA 38 au)) av fun aw ax=>
 oP E (gF b (xBuiltin .len #[38] 3 [false] [aw])) ax fun ay az=>
 oP E (gF b (fA 56 x7 2)) az fun ba bb=>
 oP E (gF b (lA 38 ba)) bb fun bc bd=>
 oP E (gF b (xBuiltin .len #[38] 3 [false] [bc])) bd fun be bf=>
 oP E (gF b (bN .neq 3 53 56 ay be)) bf fun bg bh=>
 oP E (xPick b (vB true) bg) bh fun c bi=>
 oP E (gF c (fA 56 x6 4)) bi fun bj bk=>
 oP E (gF c (lA 24 bj)) bk fun bl bm=>
 oP E (gF c (fA 56 x7 4)) bm fun bn bo=>
 oP E (gF c (lA 24 bn)) bo fun bp bq=>
 oP E (gF c (xCall (fC 31) [bl,bp])) bq fun br bs=>
 oP E (gF c (xV (Op.unary .not br))) bs fun bt bu=>
 oP E (xPick c (vB true) bt) bu fun d bv=>
 oP E (gF d (fA 56 x6 5)) bv fun bw bz=>
 oP E (gF d (lA 24 bw)) bz fun ca cb=>
 oP E (gF d (fA 56 x7 5)) cb fun cc cd=>
 oP E (gF d (lA 24 cc)) cd fun ce cf=>
 oP E (gF d (xCall (fC 31) [ca,ce])) cf fun cg ch=>
 oP E (gF d (xV (Op.unary .not cg))) ch fun ci cj=>
 oP E (xPick d (vB true) ci) cj fun ck f=>
 xcond ck
 (R (vB false) f)
 (xcut (fun _ cl=>c4O x0 x1 x5 x6 x7 cl j3 R E) fun j5=>
 xloop [8] [(vI 0)] f fun cm cn next7=>
 d2u x0 x1 x5 x6 x7 (cm 8) cn next7 j5 R E))
def d2v(x0 x1 x5 w)(next2:NT)(j1:NT)(R:RT)(E):=
 opK pG E (xBuiltin .len #[24] 3 [false] [x0]) w fun u v=>
 oP E (bN .lss 3 15 17 x5 u) v fun y k=>
 xcond y
 (xcut (fun _ z=>c4N x0 x1 x5 z next2 R E) fun j3=>
 xcut (fun l aa=>c4P x0 x1 x5 (nth l 0) (nth l.tail 0) aa j3 R E) fun j4=>
 dX k fun b=>
 qP pG (iA 24 x0 x5) fun c=>
 qP pG (iA 24 x1 x5) fun a=>
 qL pG b (blk c) (lA 56 c) fun m=>
 qL pG b (blk a) (lA 56 a) fun n=>
 (oP E (xV (Instr.alloc 56 true (.tuple #[]))) b fun o d=>
 keepX [(blk a),(blk c)] b d (opK pG E (xV (Instr.alloc 56 true (.tuple #[]))) d fun p e=>
 keepX [(blk a),(blk c)] d e (opK pG E (sA 56 o m) e fun _ f=>
 keepX [(blk a)] e f (opK pG E (sA 56 p n) f fun _ q=>
 keepX [] f q (j4 [o,p] q)))))∧
 (oP E (xV (Instr.alloc 56 true (.tuple #[]))) b fun r g=>
 keepX [(blk a),(blk c)] b g (opK pG E (xV (Instr.alloc 56 true (.tuple #[]))) g fun s i=>
 keepX [(blk a),(blk c)] g i (opK pG E (sA 56 s m) i fun _ j=>
 keepX [(blk a)] i j (opK pG E (sA 56 r n) j fun _ t=>
 keepX [] j t (j4 [s,r] t))))))
 (j1 [] k)
def F31(x0 x1 w)(R:RT)(E):=
 opK pG E (xBuiltin .len #[24] 3 [false] [x0]) w fun b c=>
 oP E (xBuiltin .len #[24] 3 [false] [x1]) c fun d e=>
 oP E (bN .neq 3 11 13 b d) e fun f a=>
 xcond f
 (R (vB false) a)
 (xcut (fun _ g=>c4M g R E) fun j1=>
 xloop [5] [(vI 0)] a fun i j next2=>
 d2v x0 x1 (i 5) j next2 j1 R E)
def h31:Hint:=(sQ (hS (sQ (hC (sQ hN) hN)) (hU [] (sQ (hB (hL [5] (hS (sQ (hC hN hN)) (hU [] (hB (hU [6,7] (.reg [(0,2097152,1),(0,4194304,32),(3,8388608,6291456),(4,16777216,8388608),(0,33554432,2),(0,67108864,32),(48,134217728,100663296),(64,268435456,134217728),(0,64,0),(0,128,0),(783,0,16777280),(2047,0,268435584)] [136,136,136,128,136,136,136,8,136,136,128,0] (.early 0 (.early 1 (.early 2 (.early 4 (.early 5 (.early 6 (.load 3 (.load 7 (.alt 8 (.step 9 (.step 10 (.step 11 .done))) (.step 9 (.step 8 (.step 10 (.step 11 .done)))))))))))))) (hS (sQ (hC (sQ hN) hN)) (hU [] (sQ (hB (hL [8] (hS (sQ (hC hN hN)) (hS (hB (hS (.reg [(0,4835703278458516698824704,64),(1,9671406556917033397649408,4835703278458516698824704),(0,19342813113834066795298816,256),(6,38685626227668133590597632,29014219670751100192948224),(8,77371252455336267181195264,38685626227668133590597632),(0,154742504910672534362390528,128),(32,309485009821345068724781056,154742504910672534362390528),(0,618970019642690137449562112,256),(192,1237940039285380274899124224,928455029464035206174343168),(256,2475880078570760549798248448,1237940039285380274899124224),(528,4951760157141521099596496896,2553251331026096816979443712),(1024,9903520314283042199192993792,4951760157141521099596496896)] [594,592,594,594,578,594,530,594,594,82,0,594] (.early 0 (.early 2 (.early 5 (.early 7 (.load 1 (.early 3 (.load 4 (.load 6 (.early 8 (.load 9 (.step 10 (.early 11 .done))))))))))))) (hC (sQ hN) hN))) hN))))) (sQ (hB (hL [9] (hS (sQ (hC hN hN)) (hS (hB (hS (.reg [(0,2535301200456458802993406410752,64),(1,5070602400912917605986812821504,2535301200456458802993406410752),(0,10141204801825835211973625643008,512),(6,20282409603651670423947251286016,15211807202738752817960438464512),(8,40564819207303340847894502572032,20282409603651670423947251286016),(0,81129638414606681695789005144064,128),(32,162259276829213363391578010288128,81129638414606681695789005144064),(0,324518553658426726783156020576256,512),(192,649037107316853453566312041152512,486777830487640090174734030864384),(256,1298074214633706907132624082305024,649037107316853453566312041152512),(528,2596148429267413814265248164610048,1338639033841010247980518584877056),(1024,5192296858534827628530496329220096,2596148429267413814265248164610048)] [594,592,594,594,578,594,530,594,594,82,0,594] (.early 0 (.early 2 (.early 5 (.early 7 (.load 1 (.early 3 (.load 4 (.load 6 (.early 8 (.load 9 (.step 10 (.early 11 .done))))))))))))) (hC (sQ hN) hN))) hN))))))))) hN))))) (sQ hN))))
theorem d2w{x0 x1:Value}(h:F31 x0 x1 w R E):Cv pG 31 #[x0,x1] w R E:=okF (h:=h31) Tryz.func31 (by kernel_rfl) (by kernel_rfl) h
def F32(x0 w)(R:RT)(E):=
 opK pG E (xV (Instr.box 26 x0)) w fun g k=>
 dX k fun a=>
 qP pG (fA 26 g 0) fun i=>
 qP pG (fA 26 g 1) fun b=>
 qL pG a (blk i) (lA 23 i) fun l=>
 qL pG a (blk b) (lA 24 b) fun m=>
 oP E (xCall (fC 76) [l,(fC 77)]) a fun n c=>
 keepX [(blk b)] a c (opK pG E (xCall (fC 78) [m,(fC 79)]) c fun o d=>
 keepX [] c d (opK pG E (xV (Instr.buildSlice 172 2 #[(0,n),(1,o)])) d fun p e=>
 keepX [] d e (opK pG E (xCall (fC 75) [p]) e fun q f=>
 keepX [] e f (opK pG E (xCall (fC 74) [q]) f fun r j=>
 keepX [] f j (R r j)))))
def h32:Hint:=(sQ (hS (.reg [(0,8,2),(1,16,8),(2,32,16),(0,64,2),(8,128,64),(20,256,128),(36,512,288),(96,1024,512),(128,2048,1024),(511,4,2048)] [18,16,16,18,2,0,0,0,0,18] (.early 0 (.early 3 (.load 1 (.load 4 (.step 2 (.step 5 (.step 6 (.step 7 (.step 8 (.early 9 .done))))))))))) hN))
theorem d2x{x0:Value}(h:F32 x0 w R E):Cv pG 32 #[x0] w R E:=okF (h:=h32) Tryz.func32 (by kernel_rfl) (by kernel_rfl) h
def F35(x0 x1 w)(R:RT)(E):=
 opK pG E (xV (Instr.alloc 40 true (.tuple #[]))) w fun a c=>
 oP E (xV (Instr.buildSlice 77 2 #[(0,(Value.string ⟨#[43]⟩)),(1,(Value.string ⟨#[45]⟩))])) c fun d e=>
 oP E (xV (Instr.buildSlice 137 2 #[(0,(vI 6)),(1,(vI 7))])) e fun f g=>
 oP E (xV (Instr.makeFunc (.func 82) #[x0] #[])) g fun i j=>
 oP E (xV (Instr.build 139 #[(0,d),(1,f),(2,i)])) j fun k l=>
 oP E (xCall (fC 81) [x0,x1,k]) l fun m n=>
 oP E (sA 40 a m) n fun _ b=>
 xcell pG 40 a b fun o=>
 R o b
def h35:Hint:=(sQ (sQ hN))
theorem d2y{x0 x1:Value}(h:F35 x0 x1 w R E):Cv pG 35 #[x0,x1] w R E:=okF (h:=h35) Tryz.func35 (by kernel_rfl) (by kernel_rfl) h
def c4Q(x4 x5 w)(R:RT)(E):=
 ∀_τ:Fr,(oP E (lA 40 x5) w fun b c=>
 oP E (sA 40 x4 b) c fun _ a=>
 xcell pG 40 x4 a fun d=>
 R d a)
def c4R(x0 x1 _x4 x5 x6:Value)(w)(next2:NT)(_R:RT)(E):=
 ∀_τ:Fr,(oP E (xNil x0) w fun e f=>
 oP E (fA 66 e 1) f fun g i=>
 oP E (lA 3 g) i fun j k=>
 oP E (bC .add 3 21 j (vI 1)) k fun l m=>
 oP E (xNil x0) m fun n o=>
 oP E (fA 66 n 1) o fun p q=>
 oP E (sA 3 p l) q fun _ r=>
 dX r fun a=>
 qL pG a (blk x5) (lA 40 x5) fun s=>
 oP E (xCall (fC 83) [x0,x1]) a fun t b=>
 keepX [(blk x5)] a b (opK pG E (xV (Instr.buildSlice 38 2 #[(0,s),(1,t)])) b fun u c=>
 keepX [] b c (qP pG (xV (Instr.build 40 #[(0,x6),(3,u)])) fun v=>
 oP E (sA 40 x5 v) c fun _ d=>
 keepX [] c d (next2 [] d))))
def d2z(x0 x1 x4 x5 w)(next2:NT)(j1:NT)(R:RT)(E):=
 opK pG E (xCall (fC 23) [x0,(Value.string ⟨#[43]⟩)]) w fun a d=>
 oP E (gF a (xCall (fC 23) [(zF a x0),(Value.string ⟨#[45]⟩)])) d fun e f=>
 oP E (xPick a (vB true) e) f fun g b=>
 xcond g
 (xcut (fun i j=>c4R x0 x1 x4 x5 (nth i 0) j next2 R E) fun j3=>
 oP E (xCall (fC 23) [x0,(Value.string ⟨#[45]⟩)]) b fun k c=>
 xcond k
 (j3 [(vI 7)] c)
 (j3 [(vI 6)] c))
 (j1 [] b)
def F37(x0 x1 w)(R:RT)(E):=
 opK pG E (xV (Instr.alloc 40 true (.tuple #[]))) w fun b c=>
 oP E (xCall (fC 83) [x0,x1]) c fun d e=>
 oP E (xV (Instr.alloc 40 true (.tuple #[]))) e fun a f=>
 oP E (sA 40 a d) f fun _ g=>
 xcut (fun _ i=>c4Q b a i R E) fun j1=>
 xloop [] [] g fun _ j next2=>
 d2z x0 x1 b a j next2 j1 R E
def h37:Hint:=(sQ (sQ (hU [] (hB (hL [] (hS (sQ (hC hN hN)) (hB (sQ (hU [6] (sQ (hC hN hN)) (sQ (.reg [(0,33554432,64),(0,67108864,32),(0,134217728,1),(0,268435456,2),(12,536870912,402653184),(18,1073741824,603979776),(33,2147483648,1107296256),(127,0,2147483680)] [2,0,2,2,2,0,2,0] (.early 0 (.early 2 (.early 3 (.load 1 (.step 4 (.step 5 (.early 6 (.step 7 .done)))))))))))))))) (sQ hN))))
theorem d2A{x0 x1:Value}(h:F37 x0 x1 w R E):Cv pG 37 #[x0,x1] w R E:=okF (h:=h37) Tryz.func37 (by kernel_rfl) (by kernel_rfl) h
def F41(x0 x1 w)(R:RT)(E):=
 opK pG E (xV (Instr.box 60 x0)) w fun a d=>
 oP E (xV (Instr.alloc 49 true (.tuple #[]))) d fun b e=>
 oP E (xV (Instr.makeFunc (.func 87) #[] #[a])) e fun f g=>
 oP E (lA 60 a) g fun i j=>
 oP E (xCall (fC 88) [i,x1,(Value.string ⟨#[124,124]⟩),(vI 6),f]) j fun k l=>
 oP E (sA 49 b k) l fun _ c=>
 xcell pG 49 b c fun m=>
 R m c
def h41:Hint:=(sQ (sQ (sQ hN)))
theorem d2B{x0 x1:Value}(h:F41 x0 x1 w R E):Cv pG 41 #[x0,x1] w R E:=okF (h:=h41) Tryz.func41 (by kernel_rfl) (by kernel_rfl) h
def c4S(x4 x5 w)(R:RT)(E):=
 ∀_τ:Fr,(oP E (lA 49 x5) w fun b c=>
 oP E (sA 49 x4 b) c fun _ a=>
 xcell pG 49 x4 a fun d=>
 R d a)
def d2C(x0 x1 _x4 x5:Value)(w)(next2:NT)(j1:NT)(_R:RT)(E):=
 opK pG E (xCall (fC 67) [x0,(Value.string ⟨#[124,124]⟩)]) w fun f d=>
 xcond f
 (dX d fun a=>
 qL pG a (blk x5) (lA 49 x5) fun g=>
 oP E (xCall (fC 90) [x0,x1]) a fun i b=>
 keepX [(blk x5)] a b (opK pG E (xV (Instr.buildSlice 47 2 #[(0,g),(1,i)])) b fun j c=>
 keepX [] b c (qP pG (xV (Instr.build 49 #[(0,(vI 6)),(3,j)])) fun k=>
 oP E (sA 49 x5 k) c fun _ e=>
 keepX [] c e (next2 [] e))))
 (j1 [] d)
def F43(x0 x1 w)(R:RT)(E):=
 opK pG E (xV (Instr.alloc 49 true (.tuple #[]))) w fun b c=>
 oP E (xCall (fC 90) [x0,x1]) c fun d e=>
 oP E (xV (Instr.alloc 49 true (.tuple #[]))) e fun a f=>
 oP E (sA 49 a d) f fun _ g=>
 xcut (fun _ i=>c4S b a i R E) fun j1=>
 xloop [] [] g fun _ j next2=>
 d2C x0 x1 b a j next2 j1 R E
def h43:Hint:=(sQ (sQ (hU [] (hB (hL [] (hS (sQ (hC hN hN)) (hB (.reg [(0,2048,32),(0,4096,1),(0,8192,2),(6,16384,12288),(9,32768,18432),(16,65536,32768),(63,0,65568)] [0,1,1,1,0,1,0] (.early 1 (.early 2 (.load 0 (.step 3 (.step 4 (.early 5 (.step 6 .done)))))))))))) (sQ hN))))
theorem d2D{x0 x1:Value}(h:F43 x0 x1 w R E):Cv pG 43 #[x0,x1] w R E:=okF (h:=h43) Tryz.func43 (by kernel_rfl) (by kernel_rfl) h
def c4T(x3 x7 w)(R:RT)(E):=
 ∀_τ:Fr,(dX w fun a=>
 qP pG (xNil x7) fun g=>
 qP pG (fA 155 g 3) fun b=>
 qP pG (xNil x7) fun i=>
 qP pG (fA 155 i 2) fun f=>
 qP pG (xV (Instr.build 28 #[])) fun j=>
 qL pG a (blk b) (lA 61 b) fun k=>
 qL pG a (blk f) (lA 28 f) fun l=>
 qP pG (xV (Instr.build 103 #[(0,(vI 5)),(3,l)])) fun m=>
 oP E (xV (Instr.buildSlice 61 1 #[(0,m)])) a fun n c=>
 keepX [(blk b)] a c (opK pG E (xBuiltin .append #[61,61] 61 [false,false] [k,n]) c fun o d=>
 keepX [] c d (opK pG E (sA 28 x3 j) d fun _ e=>
 keepX [] d e (xcell pG 28 x3 e fun p=>
 R (Value.tuple #[o,p,(vI 0)]) e))))
def c4U(x0 x3 x7 w)(next2:NT)(j1:NT)(R:RT)(E):=
 opK pG E (xNil x7) w fun s t=>
 oP E (fA 155 s 1) t fun u v=>
 oP E (lA 3 u) v fun y z=>
 oP E (xBuiltin .len #[9] 3 [false] [x0]) z fun aa ab=>
 oP E (bN .lss 3 34 36 y aa) ab fun ac l=>
 xcond ac
 (oP E (xNil x7) l fun ad ae=>
 oP E (fA 155 ad 2) ae fun af ag=>
 oP E (lA 28 af) ag fun ah ai=>
 oP E (xV (Instr.alloc 28 true (.tuple #[]))) ai fun a aj=>
 oP E (sA 28 a ah) aj fun _ ak=>
 oP E (xNil x7) ak fun al am=>
 oP E (fA 155 al 3) am fun an ao=>
 oP E (lA 61 an) ao fun ap aq=>
 oP E (xBuiltin .len #[61] 3 [false] [ap]) aq fun ar au=>
 oP E (bC .eql 3 48 ar (vI 32768)) au fun av m=>
 xcond av
 (dX m fun d=>
 qL pG d (blk a) (lA 28 a) fun aw=>
 oP E (sA 28 x3 aw) d fun _ e=>
 keepX [] d e (xcell pG 28 x3 e fun ax=>
 R (Value.tuple #[(nS),ax,(vI 23)]) e))
 (oP E (xCall (fC 100) [x7]) m fun n ay=>
 oP E (xT n 0) ay fun az ba=>
 oP E (xT n 1) ba fun _t55_81 bb=>
 oP E (xCall (fC 101) [x7,az]) bb fun bc bd=>
 oP E (xCall bc []) bd fun o be=>
 oP E (xT o 0) be fun bf bg=>
 oP E (xT o 1) bg fun p bh=>
 oP E (xV (Instr.alloc 103 true (.tuple #[]))) bh fun b bi=>
 oP E (sA 103 b bf) bi fun _ bj=>
 oP E (bC .neq 29 63 p (vI 0)) bj fun bk q=>
 xcond bk
 (dX q fun f=>
 qL pG f (blk a) (lA 28 a) fun bl=>
 oP E (sA 28 x3 bl) f fun _ g=>
 keepX [] f g (xcell pG 28 x3 g fun bm=>
 R (Value.tuple #[(nS),bm,p]) g))
 (oP E (lA 28 a) q fun bn bo=>
 oP E (fA 103 b 3) bo fun bp bq=>
 oP E (sA 28 bp bn) bq fun _ br=>
 dX br fun c=>
 qP pG (xNil x7) fun bs=>
 qP pG (fA 155 bs 3) fun i=>
 qL pG c (blk i) (lA 61 i) fun bt=>
 qL pG c (blk b) (lA 103 b) fun bu=>
 oP E (xV (Instr.buildSlice 61 1 #[(0,bu)])) c fun bv j=>
 keepX [(blk i)] c j (opK pG E (xBuiltin .append #[61,61] 61 [false,false] [bt,bv]) j fun bw k=>
 keepX [] j k (qP pG (xNil x7) fun bz=>
 qP pG (fA 155 bz 3) fun ca=>
 oP E (sA 61 ca bw) k fun _ r=>
 keepX [] k r (opK pG E (xCall (fC 99) [x7]) r fun _t39_121 cb=>
 next2 [] cb))))))
 (j1 [] l)
def F49(x0 w)(R:RT)(E):=
 opK pG E (xV (Instr.alloc 28 true (.tuple #[]))) w fun a g=>
 oP E (xCall (fC 97) [x0]) g fun c i=>
 oP E (xT c 0) i fun j k=>
 oP E (xT c 1) k fun d l=>
 oP E (bC .neq 29 18 d (vI 0)) l fun m e=>
 xcond m
 (oP E (xCall (fC 98) [x0,j]) e fun n o=>
 oP E (sA 28 a n) o fun _ f=>
 xcell pG 28 a f fun p=>
 R (Value.tuple #[(nS),p,d]) f)
 (oP E (xCall (fC 98) [x0,(vI 0)]) e fun q r=>
 oP E (xV (Instr.build 155 #[(0,x0),(2,q)])) r fun s t=>
 oP E (xV (Instr.box 155 s)) t fun b u=>
 xcut (fun _ v=>c4T a b v R E) fun j1=>
 oP E (xCall (fC 99) [b]) u fun _t30_40 y=>
 xloop [] [] y fun _ z next2=>
 c4U x0 a b z next2 j1 R E)
def h49:Hint:=(sQ (hS (sQ (sQ (hC (sQ hN) hN))) (sQ (hU [] (sQ (hB (hL [] (hS (sQ (hC hN hN)) (hS (hB (sQ (hS (sQ (hC (hS (.reg [(0,1125899906842624,256),(0,4,0),(3,0,1125899906842632),(7,16,0)] [0,1,0,1] (.early 1 (.load 0 (.step 2 (.early 3 .done))))) hN) hN)) (sQ (sQ (hS (sQ (hC (hS (.reg [(0,36893488147419103232,256),(0,73786976294838206464,4096),(0,4,0),(5,0,36893488147419103240),(15,16,73786976294838206464)] [0,1,1,0,1] (.early 1 (.early 2 (.load 0 (.step 3 (.early 4 .done)))))) hN) hN)) (sQ (.reg [(0,590295810358705651712,128),(0,1180591620717411303424,128),(2,2361183241434822606848,1180591620717411303424),(4,4722366482869645213696,2361183241434822606848),(8,9444732965739290427392,4722366482869645213696),(0,18889465931478580854784,2048),(32,37778931862957161709568,18889465931478580854784),(80,75557863725914323419136,47223664828696452136960),(255,151115727451828646838272,590295810358705651712),(511,302231454903657293676544,151115727451828646838272),(767,0,377789318629571617095680)] [48,48,48,48,32,16,16,0,48,48,0] (.early 0 (.early 1 (.early 2 (.early 3 (.load 4 (.load 5 (.step 6 (.step 7 (.early 8 (.early 9 (.step 10 .done))))))))))))))))))) hN))))) (hS (.reg [(0,604462909807314587353088,128),(1,1208925819614629174706176,604462909807314587353088),(2,2417851639229258349412352,1208925819614629174706176),(4,4835703278458516698824704,2417851639229258349412352),(0,9671406556917033397649408,128),(16,19342813113834066795298816,9671406556917033397649408),(32,38685626227668133590597632,19342813113834066795298816),(64,77371252455336267181195264,38685626227668133590597632),(128,154742504910672534362390528,77371252455336267181195264),(256,309485009821345068724781056,154742504910672534362390528),(520,618970019642690137449562112,314320713099803585423605760),(0,1237940039285380274899124224,0),(2047,4,618970019642690137449562112),(8191,0,1237940039285380274899124232),(16383,16,0)] [136,136,136,128,136,136,136,8,136,8,0,136,136,0,136] (.early 0 (.early 1 (.early 2 (.early 4 (.early 5 (.early 6 (.early 11 (.load 3 (.load 7 (.early 8 (.step 9 (.step 10 (.early 12 (.step 13 (.early 14 .done)))))))))))))))) hN)))))
theorem d2E{x0:Value}(h:F49 x0 w R E):Cv pG 49 #[x0] w R E:=okF (h:=h49) Tryz.func49 (by kernel_rfl) (by kernel_rfl) h
def F51(x0 w)(R:RT)(E):=
 opK pG E (xV (Instr.alloc 103 true (.tuple #[]))) w fun c g=>
 dX g fun a=>
 qP pG (xNil x0) fun i=>
 qP pG (fA 101 i 0) fun d=>
 qP pG (xNil x0) fun j=>
 qP pG (fA 101 j 1) fun e=>
 qL pG a (blk d) (lA 61 d) fun k=>
 qL pG a (blk e) (lA 3 e) fun l=>
 qP pG (iA 61 k l) fun f=>
 qL pG a (blk f) (lA 103 f) fun m=>
 oP E (sA 103 c m) a fun _ b=>
 keepX [] a b (xcell pG 103 c b fun n=>
 R n b)
def h51:Hint:=(sQ (hS (.reg [(0,8,1),(1,16,8),(2,32,16),(4,64,32),(0,128,1),(16,256,128),(32,512,256),(64,1024,512),(136,2048,1088),(256,4096,2048),(1023,0,4100)] [648,648,648,640,648,648,648,520,648,136,0] (.early 0 (.early 1 (.early 2 (.early 4 (.early 5 (.early 6 (.load 3 (.load 7 (.early 8 (.load 9 (.step 10 .done)))))))))))) hN))
theorem d2F{x0:Value}(h:F51 x0 w R E):Cv pG 51 #[x0] w R E:=okF (h:=h51) Tryz.func51 (by kernel_rfl) (by kernel_rfl) h
def F52(x0 w)(R:RT)(E):=
 opK pG E (xCall (fC 51) [x0]) w fun a b=>
 oP E (xV (Instr.field 103 a 3)) b fun c d=>
 oP E (xV (Instr.build 98 #[(0,c),(1,(vI 40))])) d fun e f=>
 oP E (xV (Instr.makeInterface 98 e)) f fun g i=>
 oP E (xV (Instr.panic g)) i fun _ j=>
 R (Value.tuple #[]) j
def h52:Hint:=hN
theorem d2G{x0:Value}(h:F52 x0 w R E):Cv pG 52 #[x0] w R E:=okF (h:=h52) Tryz.func52 (by kernel_rfl) (by kernel_rfl) h
def F53(x0 x1 w)(R:RT)(E):=
 opK pG E (xCall (fC 51) [x0]) w fun d e=>
 oP E (xV (Instr.alloc 103 true (.tuple #[]))) e fun b f=>
 oP E (sA 103 b d) f fun _ g=>
 oP E (fA 103 b 0) g fun i j=>
 oP E (lA 3 i) j fun k l=>
 oP E (bC .eql 3 9 k (vI 3)) l fun c m=>
 oP E (gF c (fA 103 b 0)) m fun n o=>
 oP E (gF c (lA 3 n)) o fun p q=>
 oP E (gF c (bC .eql 3 13 p (vI 4))) q fun r s=>
 oP E (xPick c (vB true) r) s fun a t=>
 oP E (gT a (fA 103 b 1)) t fun u v=>
 oP E (gT a (lA 9 u)) v fun y z=>
 oP E (gT a (bN .eql 9 18 19 y (zT a x1))) z fun aa ab=>
 oP E (xPick a aa (vB false)) ab fun ac ad=>
 R ac ad
def h53:Hint:=(sQ (sQ (sQ hN)))
theorem d2H{x0 x1:Value}(h:F53 x0 x1 w R E):Cv pG 53 #[x0,x1] w R E:=okF (h:=h53) Tryz.func53 (by kernel_rfl) (by kernel_rfl) h
def c4V(x0 x2 x4 w)(R:RT)(E):=
 ∀_τ:Fr,(oP E (xCall (fC 103) [x0,(Value.string ⟨#[59]⟩)]) w fun _t46_29 b=>
 oP E (lA 68 x4) b fun c d=>
 oP E (sA 68 x2 c) d fun _ a=>
 xcell pG 68 x2 a fun e=>
 R e a)
def c4W(x0 _x2 x4:Value)(w)(j1:NT)(_R:RT)(E):=
 ∀_τ:Fr,(oP E (xCall (fC 104) [x0]) w fun a b=>
 oP E (xV (Instr.field 103 a 2)) b fun c d=>
 oP E (fA 68 x4 1) d fun e f=>
 oP E (sA 3 e c) f fun _ g=>
 oP E (xCall (fC 103) [x0,(Value.string ⟨#[93]⟩)]) g fun _t44_48 i=>
 j1 [] i)
def F54(x0 w)(R:RT)(E):=
 opK pG E (xV (Instr.alloc 68 true (.tuple #[]))) w fun e i=>
 oP E (xCall (fC 53) [x0,(Value.string ⟨#[97,114,114,97,121]⟩)]) i fun j k=>
 oP E (xNil x0) k fun l m=>
 oP E (fA 101 l 1) m fun n o=>
 oP E (lA 3 n) o fun p q=>
 oP E (bC .add 3 11 p (vI 1)) q fun r s=>
 oP E (xNil x0) s fun t u=>
 oP E (fA 101 t 1) u fun v y=>
 oP E (sA 3 v r) y fun _ z=>
 oP E (xCall (fC 102) [x0,(vI 1)]) z fun aa ab=>
 oP E (xV (Instr.field 103 aa 1)) ab fun ac ad=>
 oP E (xV (Instr.build 68 #[(0,ac)])) ad fun ae af=>
 oP E (xV (Instr.alloc 68 true (.tuple #[]))) af fun d ag=>
 oP E (sA 68 d ae) ag fun _ f=>
 xcut (fun _ ah=>c4V x0 e d ah R E) fun j1=>
 xcond j
 (oP E (xCall (fC 103) [x0,(Value.string ⟨#[91]⟩)]) f fun _t21_38 ai=>
 xcut (fun _ aj=>c4W x0 e d aj j1 R E) fun j2=>
 oP E (xCall (fC 51) [x0]) ai fun ak al=>
 oP E (xV (Instr.alloc 103 true (.tuple #[]))) al fun a am=>
 oP E (sA 103 a ak) am fun _ an=>
 oP E (fA 103 a 0) an fun ao ap=>
 oP E (lA 3 ao) ap fun aq ar=>
 oP E (bC .neq 3 25 aq (vI 2)) ar fun b au=>
 oP E (gF b (fA 103 a 2)) au fun av aw=>
 oP E (gF b (lA 2 av)) aw fun ax ay=>
 oP E (gF b (bC .lss 2 29 ax (vI 1))) ay fun az ba=>
 oP E (xPick b (vB true) az) ba fun c bb=>
 oP E (gF c (fA 103 a 2)) bb fun bc bd=>
 oP E (gF c (lA 2 bc)) bd fun be bf=>
 oP E (gF c (bC .gtr 2 34 be (vI 2147483647))) bf fun bg bh=>
 oP E (xPick c (vB true) bg) bh fun bi g=>
 xcond bi
 (oP E (xCall (fC 52) [x0]) g fun _t38_80 bj=>
 j2 [] bj)
 (j2 [] g))
 (j1 [] f)
def h54:Hint:=(sQ (sQ (sQ (sQ (hU [] (sQ (hC (sQ (hU [] (sQ (sQ (hC hN hN))) (sQ hN))) hN)) (sQ (sQ hN)))))))
theorem d2I{x0:Value}(h:F54 x0 w R E):Cv pG 54 #[x0] w R E:=okF (h:=h54) Tryz.func54 (by kernel_rfl) (by kernel_rfl) h
def c4X(x0 x1 w)(R:RT)(E):=
 ∀_τ:Fr,(oP E (bC .gtr 3 10 x1 (vI 40)) w fun b a=>
 xcond b
 (oP E (xCall (fC 51) [x0]) a fun c d=>
 oP E (xV (Instr.field 103 c 3)) d fun e f=>
 oP E (xV (Instr.build 98 #[(0,e),(1,(vI 41))])) f fun g i=>
 oP E (xV (Instr.makeInterface 98 g)) i fun j k=>
 oP E (xV (Instr.panic j)) k fun _ l=>
 R (Value.tuple #[]) l)
 (R (Value.tuple #[]) a))
def F55(x0 x1 x2 w)(R:RT)(E):=
 xcut (fun _ b=>c4X x0 x1 b R E) fun j1=>
 oP E (xV (Op.unary .not x2)) w fun c a=>
 xcond c
 (oP E (xCall (fC 52) [x0]) a fun _t9_17 d=>
 j1 [] d)
 (j1 [] a)
def h55:Hint:=(hU [] (sQ (hC hN hN)) (sQ (hC hN hN)))
theorem d2J{x0 x1 x2:Value}(h:F55 x0 x1 x2 w R E):Cv pG 55 #[x0,x1,x2] w R E:=okF (h:=h55) Tryz.func55 (by kernel_rfl) (by kernel_rfl) h
def F56(x0 w)(R:RT)(E):=
 opK pG E (xCall (fC 51) [x0]) w fun f g=>
 oP E (xV (Instr.field 103 f 0)) g fun i j=>
 oP E (bC .eql 3 5 i (vI 1)) j fun a k=>
 oP E (gF a (xCall (fC 53) [(zF a x0),(Value.string ⟨#[105,102]⟩)])) k fun l m=>
 oP E (xPick a (vB true) l) m fun b n=>
 oP E (gF b (xCall (fC 53) [(zF b x0),(Value.string ⟨#[119,104,105,108,101]⟩)])) n fun o p=>
 oP E (xPick b (vB true) o) p fun c q=>
 oP E (gF c (xCall (fC 53) [(zF c x0),(Value.string ⟨#[97,115,115,101,114,116]⟩)])) q fun r s=>
 oP E (xPick c (vB true) r) s fun d t=>
 oP E (gF d (xCall (fC 53) [(zF d x0),(Value.string ⟨#[97,115,115,117,109,101]⟩)])) t fun u v=>
 oP E (xPick d (vB true) u) v fun e y=>
 oP E (gF e (xCall (fC 53) [(zF e x0),(Value.string ⟨#[115,107,105,112]⟩)])) y fun z aa=>
 oP E (xPick e (vB true) z) aa fun ab ac=>
 R ab ac
def h56:Hint:=(sQ (sQ hN))
theorem d2K{x0:Value}(h:F56 x0 w R E):Cv pG 56 #[x0] w R E:=okF (h:=h56) Tryz.func56 (by kernel_rfl) (by kernel_rfl) h
def c4Y(x0 x4 x5 w)(R:RT)(E):=
 ∀_τ:Fr,(oP E (xCall (fC 103) [x0,(Value.string ⟨#[59]⟩)]) w fun _t96_11 b=>
 oP E (lA 56 x5) b fun c d=>
 oP E (sA 56 x4 c) d fun _ a=>
 xcell pG 56 x4 a fun e=>
 R e a)
def c4Z(x0 x1 _x4 x5:Value)(w)(j1:NT)(_R:RT)(E):=
 ∀_τ:Fr,(oP E (xCall (fC 103) [x0,(Value.string ⟨#[61]⟩)]) w fun _t30_35 g=>
 dX g fun b=>
 qP pG (fA 56 x5 2) fun a=>
 qL pG b (blk a) (lA 38 a) fun i=>
 oP E (xCall (fC 35) [x0,x1]) b fun j c=>
 keepX [(blk a)] b c (opK pG E (xV (Instr.buildSlice 38 1 #[(0,j)])) c fun k d=>
 keepX [(blk a)] c d (opK pG E (xBuiltin .append #[38,38] 38 [false,false] [i,k]) d fun l e=>
 keepX [] d e (qP pG (fA 56 x5 2) fun m=>
 oP E (sA 38 m l) e fun _ f=>
 keepX [] e f (j1 [] f)))))
def c5a(x4 x5 w)(R:RT)(E):=
 ∀_τ:Fr,(oP E (lA 56 x5) w fun b c=>
 oP E (sA 56 x4 b) c fun _ a=>
 xcell pG 56 x4 a fun d=>
 R d a)
def F57(x0 x1 w)(R:RT)(E):=
 opK pG E (xV (Instr.alloc 56 true (.tuple #[]))) w fun c y=>
 oP E (xV (Instr.alloc 56 true (.tuple #[]))) y fun a z=>
 oP E (xCall (fC 104) [x0]) z fun aa ab=>
 oP E (xV (Instr.alloc 103 true (.tuple #[]))) ab fun b ac=>
 oP E (sA 103 b aa) ac fun _ ad=>
 xcut (fun _ ae=>c4Y x0 c a ae R E) fun j1=>
 oP E (fA 103 b 0) ad fun af ag=>
 oP E (lA 3 af) ag fun ah ai=>
 oP E (bC .eql 3 12 ah (vI 1)) ai fun aj m=>
 xcond aj
 (dX m fun e=>
 qP pG (fA 103 b 1) fun f=>
 qP pG (fA 56 a 0) fun ak=>
 qL pG e (blk f) (lA 9 f) fun al=>
 oP E (sA 3 ak (vI 1)) e fun _ g=>
 keepX [(blk f)] e g (qP pG (fA 56 a 1) fun am=>
 oP E (sA 9 am al) g fun _ n=>
 keepX [] g n (xcut (fun _ an=>c4Z x0 x1 c a an j1 R E) fun j2=>
 oP E (xCall (fC 105) [x0,(Value.string ⟨#[91]⟩)]) n fun ao o=>
 xcond ao
 (oP E (fA 56 a 0) o fun ap aq=>
 oP E (sA 3 ap (vI 2)) aq fun _ ar=>
 dX ar fun i=>
 qP pG (fA 56 a 2) fun d=>
 qL pG i (blk d) (lA 38 d) fun au=>
 oP E (xCall (fC 106) [x0,x1,(Value.string ⟨#[93]⟩)]) i fun av j=>
 keepX [(blk d)] i j (opK pG E (xV (Instr.buildSlice 38 1 #[(0,av)])) j fun aw k=>
 keepX [(blk d)] j k (opK pG E (xBuiltin .append #[38,38] 38 [false,false] [au,aw]) k fun ax l=>
 keepX [] k l (qP pG (fA 56 a 2) fun ay=>
 oP E (sA 38 ay ax) l fun _ p=>
 keepX [] l p (j2 [] p)))))
 (j2 [] o))))
 (oP E (fA 103 b 1) m fun az ba=>
 oP E (lA 9 az) ba fun bb bc=>
 oP E (bC .eql 9 41 bb (Value.string ⟨#[105,102]⟩)) bc fun bd q=>
 xcond bd
 (oP E (xCall (fC 41) [x0,x1]) q fun be bf=>
 oP E (xV (Instr.buildSlice 47 1 #[(0,be)])) bf fun bg bh=>
 oP E (fA 56 a 0) bh fun bi bj=>
 oP E (sA 3 bi (vI 3)) bj fun _ bk=>
 oP E (fA 56 a 3) bk fun bl bm=>
 oP E (sA 47 bl bg) bm fun _ bn=>
 oP E (xCall (fC 107) [x0,x1]) bn fun bo bp=>
 oP E (fA 56 a 4) bp fun bq br=>
 oP E (sA 24 bq bo) br fun _ bs=>
 xcut (fun _ bt=>c5a c a bt R E) fun j3=>
 oP E (xCall (fC 105) [x0,(Value.string ⟨#[101,108,115,101]⟩)]) bs fun bu r=>
 xcond bu
 (oP E (xCall (fC 107) [x0,x1]) r fun bv bw=>
 oP E (fA 56 a 5) bw fun bz ca=>
 oP E (sA 24 bz bv) ca fun _ cb=>
 j3 [] cb)
 (j3 [] r))
 (oP E (fA 103 b 1) q fun cc cd=>
 oP E (lA 9 cc) cd fun ce cf=>
 oP E (bC .eql 9 62 ce (Value.string ⟨#[119,104,105,108,101]⟩)) cf fun cg s=>
 xcond cg
 (oP E (xCall (fC 41) [x0,x1]) s fun ch ci=>
 oP E (xV (Instr.buildSlice 47 1 #[(0,ch)])) ci fun cj ck=>
 oP E (fA 56 a 0) ck fun cl cm=>
 oP E (sA 3 cl (vI 4)) cm fun _ cn=>
 oP E (fA 56 a 3) cn fun co cp=>
 oP E (sA 47 co cj) cp fun _ cq=>
 oP E (xCall (fC 107) [x0,x1]) cq fun cr cs=>
 oP E (fA 56 a 4) cs fun ct cu=>
 oP E (sA 24 ct cr) cu fun _ cv=>
 oP E (lA 56 a) cv fun cw cx=>
 oP E (sA 56 c cw) cx fun _ t=>
 xcell pG 56 c t fun cy=>
 R cy t)
 (oP E (fA 103 b 1) s fun cz da=>
 oP E (lA 9 cz) da fun db dc=>
 oP E (bC .eql 9 77 db (Value.string ⟨#[97,115,115,101,114,116]⟩)) dc fun dd u=>
 xcond dd
 (oP E (xCall (fC 41) [x0,x1]) u fun de df=>
 oP E (xV (Instr.buildSlice 47 1 #[(0,de)])) df fun dg dh=>
 oP E (fA 56 a 0) dh fun di dj=>
 oP E (sA 3 di (vI 5)) dj fun _ dk=>
 oP E (fA 56 a 3) dk fun dl dm=>
 oP E (sA 47 dl dg) dm fun _ dn=>
 j1 [] dn)
 (oP E (fA 103 b 1) u fun dp dq=>
 oP E (lA 9 dp) dq fun dr ds=>
 oP E (bC .eql 9 87 dr (Value.string ⟨#[97,115,115,117,109,101]⟩)) ds fun dt v=>
 xcond dt
 (oP E (xCall (fC 41) [x0,x1]) v fun du dv=>
 oP E (xV (Instr.buildSlice 47 1 #[(0,du)])) dv fun dw dx=>
 oP E (fA 56 a 0) dx fun dy dz=>
 oP E (sA 3 dy (vI 6)) dz fun _ ea=>
 oP E (fA 56 a 3) ea fun eb ec=>
 oP E (sA 47 eb dw) ec fun _ ed=>
 j1 [] ed)
 (oP E (fA 56 a 0) v fun ee ef=>
 oP E (sA 3 ee (vI 7)) ef fun _ eg=>
 j1 [] eg)))))
def h57:Hint:=(sQ (sQ (sQ (hU [] (hB (sQ (hC (hS (.reg [(0,16384,64),(1,32768,16384),(0,65536,32),(4,0,65536),(15,131072,32),(31,0,163840)] [2,0,2,2,2,0] (.early 0 (.early 2 (.load 1 (.step 3 (.early 4 (.step 5 .done))))))) (hU [] (sQ (hC (sQ (.reg [(0,2097152,32),(1,4194304,2097152),(0,8388608,1),(0,16777216,2),(12,33554432,25165824),(16,67108864,33554432),(50,134217728,71303168),(127,268435456,32),(255,0,402653184)] [2,0,2,2,2,2,0,2,0] (.early 0 (.early 2 (.early 3 (.load 1 (.step 4 (.step 5 (.step 6 (.early 7 (.step 8 .done))))))))))) hN)) (sQ (.reg [(0,2147483648,32),(1,4294967296,2147483648),(0,8589934592,1),(0,17179869184,2),(12,34359738368,25769803776),(16,68719476736,34359738368),(50,137438953472,73014444032),(127,274877906944,32),(255,0,412316860416)] [2,0,2,2,2,2,0,2,0] (.early 0 (.early 2 (.early 3 (.load 1 (.step 4 (.step 5 (.step 6 (.early 7 (.step 8 .done))))))))))))) (sQ (hC (sQ (sQ (hU [] (sQ (hC hN hN)) (sQ hN)))) (sQ (hC (sQ (sQ (sQ hN))) (sQ (hC hN (sQ (hC hN hN))))))))))) (sQ (sQ hN))))))
theorem d2L{x0 x1:Value}(h:F57 x0 x1 w R E):Cv pG 57 #[x0,x1] w R E:=okF (h:=h57) Tryz.func57 (by kernel_rfl) (by kernel_rfl) h
end Go.Proofs.YthklmeihgmcljaaGreatDoor
