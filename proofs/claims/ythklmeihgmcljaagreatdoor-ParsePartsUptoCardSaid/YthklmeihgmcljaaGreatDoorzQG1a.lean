/- The second reading of some of the program's functions, printed by gen2.py off the code; each is held against the code by the kernel. -/
import Derived.KernelRfl
import Derived.Test.YthklmeihgmcljaaGreatDoorzQGz
namespace Go.Proofs.YthklmeihgmcljaaGreatDoor
open Go.RowKit
set_option maxRecDepth 100000
variable {w:World} {R:RT} {E:Pan}
def F3 (x0 w) (R:RT) (E):=
 oP E (xCall (fC 8) []) w fun n o=>
 oP E (xV (Op.unary .not n)) o fun p f=>
 xcond p
 (R (vB false) f)
 (oP E (xCall (fC 9) [x0]) f fun d q=>
 oP E (xT d 0) q fun r s=>
 oP E (xT d 1) s fun t u=>
 oP E (xT d 2) u fun v y=>
 oP E (xV (Instr.alloc 26 true (.tuple #[]))) y fun b z=>
 oP E (xV (Instr.alloc 28 true (.tuple #[]))) z fun g aa=>
 oP E (sA 26 b r) aa fun _ ab=>
 oP E (sA 28 g t) ab fun _ ac=>
 oP E (xCall (fC 10) [x0]) ac fun e ad=>
 oP E (xT e 0) ad fun ae af=>
 oP E (xT e 1) af fun ag ah=>
 oP E (xT e 2) ah fun i ai=>
 oP E (xV (Instr.alloc 26 true (.tuple #[]))) ai fun j aj=>
 oP E (xV (Instr.alloc 28 true (.tuple #[]))) aj fun k ak=>
 oP E (sA 26 j ae) ak fun _ al=>
 oP E (sA 28 k ag) al fun _ am=>
 oP E (bN .neq 3 23 24 v i) am fun c an=>
 oP E (gF c (lA 28 g)) an fun ao ap=>
 oP E (gF c (lA 28 k)) ap fun aq ar=>
 oP E (gF c (bN .neq 28 27 28 ao aq)) ar fun au av=>
 oP E (xPick c (vB true) au) av fun aw l=>
 xcond aw
 (R (vB false) l)
 (oP E (bC .neq 3 31 i (vI 0)) l fun ax m=>
 xcond ax
 (oP E (fA 26 b 0) m fun ay az=>
 oP E (lA 23 ay) az fun ba bb=>
 oP E (xBuiltin .len #[23] 3 [false] [ba]) bb fun bc bd=>
 oP E (bC .eql 3 35 bc (vI 0)) bd fun a be=>
 oP E (gT a (fA 26 b 1)) be fun bf bg=>
 oP E (gT a (lA 24 bf)) bg fun bh bi=>
 oP E (gT a (xBuiltin .len #[24] 3 [false] [bh])) bi fun bj bk=>
 oP E (gT a (bC .eql 3 40 bj (vI 0))) bk fun bl bm=>
 oP E (xPick a bl (vB false)) bm fun bn bo=>
 R bn bo)
 (oP E (lA 26 b) m fun bp bq=>
 oP E (lA 26 j) bq fun br bs=>
 oP E (xCall (fC 11) [bp,br]) bs fun bt bu=>
 R bt bu)))
def h3:Hint:=(sQ (hS (sQ (hC (sQ hN) hN)) (sQ (sQ (hS (sQ (hC (sQ hN) hN)) (hS (sQ (hC (sQ hN) hN)) (sQ hN)))))))
def d3z (x0 x5 x6 x9 x10 w) (R:RT) (E):=
 ∀_τ:Fr,(oP E (bN .add 9 54 55 x10 x9) w fun k l=>
 oP E (xCall (fC 9) [k]) l fun e m=>
 oP E (xT e 0) m fun n o=>
 oP E (xT e 1) o fun p q=>
 oP E (xT e 2) q fun i r=>
 oP E (xV (Instr.alloc 26 true (.tuple #[]))) r fun f s=>
 oP E (xV (Instr.alloc 28 true (.tuple #[]))) s fun g t=>
 oP E (sA 26 f n) t fun _ u=>
 oP E (sA 28 g p) u fun _ v=>
 oP E (bC .leq 3 61 x0 (vI 39)) v fun y j=>
 xcond y
 (oP E (bC .eql 29 63 i (vI 0)) j fun c z=>
 oP E (gT c (lA 28 g)) z fun aa ab=>
 oP E (gT c (xV (Instr.build 28 #[]))) ab fun ac ad=>
 oP E (gT c (bN .eql 28 66 67 aa ac)) ad fun ae af=>
 oP E (xPick c ae (vB false)) af fun d ag=>
 oP E (gT d (lA 26 f)) ag fun ah ai=>
 oP E (gT d (xCall (fC 12) [ah])) ai fun aj ak=>
 oP E (gT d (bC .eql 29 72 aj (vI 0))) ak fun al am=>
 oP E (xPick d al (vB false)) am fun an ao=>
 R an ao)
 (oP E (bC .eql 29 75 i (vI 41)) j fun b ap=>
 oP E (gT b (fA 26 f 1)) ap fun aq ar=>
 oP E (gT b (lA 24 aq)) ar fun au av=>
 oP E (gT b (xBuiltin .len #[24] 3 [false] [au])) av fun aw ax=>
 oP E (gT b (bC .eql 3 80 aw (vI 0))) ax fun ay az=>
 oP E (xPick b ay (vB false)) az fun a ba=>
 oP E (gT a (lA 28 g)) ba fun bb bc=>
 oP E (gT a (xBuiltin .len #[9] 3 [false] [(zT a x5)])) bc fun bd be=>
 oP E (gT a (xBuiltin .len #[9] 3 [false] [(zT a x6)])) be fun bf bg=>
 oP E (gT a (xBin .mul 3 (.const (vI 40)) (.tmp 88) (vI 40) bf)) bg fun bh bi=>
 oP E (gT a (bN .add 3 86 89 bd bh)) bi fun bj bk=>
 oP E (gT a (bC .add 3 90 bj (vI 1))) bk fun bl bm=>
 oP E (gT a (xV (Instr.build 28 #[(0,(vI 1)),(1,bl)]))) bm fun bn bo=>
 oP E (gT a (bN .eql 28 84 92 bb bn)) bo fun bp bq=>
 oP E (xPick a bp (vB false)) bq fun br bs=>
 R br bs))
def d3A (x0 _x5 _x6 x8 _x9 x10 x12:Value) (w) (next4:NT) (j3:NT) (_R:RT) (E):=
 oP E (bN .lss 3 45 46 x12 x0) w fun b a=>
 xcond b
 (oP E (bN .add 9 50 51 x10 x8) a fun c d=>
 oP E (bC .add 3 48 x12 (vI 1)) d fun e f=>
 next4 [c,e] f)
 (j3 [x10] a)
def d3B (x0 x5 x6 x7 x8 x9 x10 w) (R:RT) (E):=
 ∀_τ:Fr,(oP E (bN .add 9 42 43 x10 x7) w fun b c=>
 xcut (fun d e=>d3z x0 x5 x6 x9 (nth d 0) e R E) fun j3=>
 xloop [10,12] [b,(vI 0)] c fun a f next4=>
 d3A x0 x5 x6 x8 x9 (a 10) (a 12) f next4 j3 R E)
def d3C (x0 _x5 x6 _x7 _x8 _x9 x10 x11:Value) (w) (next5:NT) (j2:NT) (_R:RT) (E):=
 oP E (bN .lss 3 34 35 x11 x0) w fun b a=>
 xcond b
 (oP E (bN .add 9 39 40 x10 x6) a fun c d=>
 oP E (bC .add 3 37 x11 (vI 1)) d fun e f=>
 next5 [c,e] f)
 (j2 [x10] a)
def d3D (x0 x5 x6 x7 x8 x9 w) (R:RT) (E):=
 ∀_τ:Fr,(xcut (fun b c=>d3B x0 x5 x6 x7 x8 x9 (nth b 0) c R E) fun j2=>
 xloop [10,11] [x5,(vI 0)] w fun a d next5=>
 d3C x0 x5 x6 x7 x8 x9 (a 10) (a 11) d next5 j2 R E)
def F4 (x0 x1 w) (R:RT) (E):=
 oP E (xCall (fC 8) []) w fun j k=>
 oP E (xV (Op.unary .not j)) k fun l c=>
 xcond l
 (R (vB false) c)
 (oP E (bC .lss 3 18 x0 (vI 0)) c fun b m=>
 oP E (gF b (bC .gtr 3 21 (zF b x0) (vI 200))) m fun n o=>
 oP E (xPick b (vB true) n) o fun p d=>
 xcond p
 (R (vB true) d)
 (xcut (fun a q=>d3D x0 (nth a 0) (nth a.tail 0) (nth a.tail.tail 0) (nth a.tail.tail.tail 0) (nth a.tail.tail.tail.tail 0) q R E) fun j1=>
 oP E (bC .eql 3 24 x1 (vI 1)) d fun r e=>
 xcond r
 (j1 [(Value.string ⟨#[120,32,61,32]⟩),(Value.string ⟨#[45]⟩),(Value.string ⟨#[49]⟩),(eS),(Value.string ⟨#[59]⟩)] e)
 (oP E (bC .eql 3 24 x1 (vI 2)) e fun s f=>
 xcond s
 (j1 [(Value.string ⟨#[97,115,115,101,114,116,32]⟩),(Value.string ⟨#[33]⟩),(Value.string ⟨#[116,114,117,101]⟩),(eS),(Value.string ⟨#[59]⟩)] f)
 (oP E (bC .eql 3 24 x1 (vI 3)) f fun t g=>
 xcond t
 (j1 [(Value.string ⟨#[97,115,115,101,114,116,32]⟩),(Value.string ⟨#[91]⟩),(Value.string ⟨#[120,32,60,32,49]⟩),(Value.string ⟨#[93]⟩),(Value.string ⟨#[59]⟩)] g)
 (oP E (bC .eql 3 24 x1 (vI 4)) g fun u i=>
 xcond u
 (j1 [(eS),(Value.string ⟨#[105,102,32,116,114,117,101,32,123]⟩),(Value.string ⟨#[115,107,105,112,59]⟩),(Value.string ⟨#[125]⟩),(eS)] i)
 (j1 [(Value.string ⟨#[120,32,61,32]⟩),(Value.string ⟨#[40]⟩),(Value.string ⟨#[49]⟩),(Value.string ⟨#[41]⟩),(Value.string ⟨#[59]⟩)] i))))))
def h4:Hint:=(sQ (hS (sQ (hC (sQ hN) hN)) (hS (sQ (hC (sQ hN) hN)) (sQ (hU [5,6,7,8,9] (sQ (hB (sQ (hC hN (sQ (hC hN (sQ (hC hN (sQ (hC hN hN)))))))))) (sQ (hU [10] (sQ (hB (hL [10,11] (hS (sQ (hC hN hN)) (hS (hB hN) hN))))) (sQ (hU [10] (sQ (hB (hL [10,12] (hS (sQ (hC hN hN)) (hS (hB hN) hN))))) (sQ (hS (sQ (hC (sQ hN) hN)) (sQ hN))))))))))))
def d3E (x9 x11 w) (R:RT) (E):=
 ∀_τ:Fr,(oP E (bC .eql 29 80 x11 (vI 0)) w fun a c=>
 oP E (gT a (fA 40 x9 0)) c fun d e=>
 oP E (gT a (lA 3 d)) e fun f g=>
 oP E (gT a (bC .eql 3 84 f (vI 1))) g fun i j=>
 oP E (xPick a i (vB false)) j fun b k=>
 oP E (gT b (fA 40 x9 1)) k fun l m=>
 oP E (gT b (lA 2 l)) m fun n o=>
 oP E (gT b (bC .eql 2 89 n (vI 7))) o fun p q=>
 oP E (xPick b p (vB false)) q fun r s=>
 R r s)
def d3F (x5 x9 x11 x12 w) (next4:NT) (j3:NT) (R:RT) (E):=
 oP E (bC .gtr 3 42 x12 (vI 1)) w fun g e=>
 xcond g
 (oP E (bC .neq 29 46 x11 (vI 0)) e fun c i=>
 oP E (gF c (fA 40 x9 0)) i fun j k=>
 oP E (gF c (lA 3 j)) k fun l m=>
 oP E (gF c (bN .neq 3 50 51 l (zF c x5))) m fun n o=>
 oP E (xPick c (vB true) n) o fun d p=>
 oP E (gF d (fA 40 x9 3)) p fun q r=>
 oP E (gF d (lA 38 q)) r fun s t=>
 oP E (gF d (xBuiltin .len #[38] 3 [false] [s])) t fun u v=>
 oP E (gF d (bC .neq 3 57 u (vI 2))) v fun y z=>
 oP E (xPick d (vB true) y) z fun a aa=>
 oP E (gF a (fA 40 x9 3)) aa fun ab ac=>
 oP E (gF a (lA 38 ab)) ac fun ad ae=>
 oP E (gF a (iA 38 ad (vI 1))) ae fun af ag=>
 oP E (gF a (fA 40 af 0)) ag fun ah ai=>
 oP E (gF a (lA 3 ah)) ai fun aj ak=>
 oP E (gF a (bC .neq 3 65 aj (vI 1))) ak fun al am=>
 oP E (xPick a (vB true) al) am fun b an=>
 oP E (gF b (fA 40 x9 3)) an fun ao ap=>
 oP E (gF b (lA 38 ao)) ap fun aq ar=>
 oP E (gF b (iA 38 aq (vI 1))) ar fun au av=>
 oP E (gF b (fA 40 au 1)) av fun aw ax=>
 oP E (gF b (lA 2 aw)) ax fun ay az=>
 oP E (gF b (bC .neq 2 73 ay (vI 7))) az fun ba bb=>
 oP E (xPick b (vB true) ba) bb fun bc f=>
 xcond bc
 (R (vB false) f)
 (oP E (fA 40 x9 3) f fun bd be=>
 oP E (lA 38 bd) be fun bf bg=>
 oP E (iA 38 bf (vI 0)) bg fun bh bi=>
 oP E (lA 40 bh) bi fun bj bk=>
 oP E (sA 40 x9 bj) bk fun _ bl=>
 oP E (bC .sub 3 44 x12 (vI 1)) bl fun bm bn=>
 next4 [bm] bn))
 (j3 [] e)
def d3G (x0 x5 x7 w) (R:RT) (E):=
 ∀_τ:Fr,(oP E (xCall (fC 13) [x7]) w fun a e=>
 oP E (xT a 0) e fun f g=>
 oP E (xT a 1) g fun i j=>
 oP E (xT a 2) j fun b k=>
 oP E (xV (Instr.alloc 40 true (.tuple #[]))) k fun c l=>
 oP E (xV (Instr.alloc 28 true (.tuple #[]))) l fun m n=>
 oP E (sA 40 c f) n fun _ o=>
 oP E (sA 28 m i) o fun _ p=>
 oP E (bC .gtr 3 37 x0 (vI 64)) p fun q d=>
 xcond q
 (oP E (bC .eql 29 39 b (vI 41)) d fun r s=>
 R r s)
 (xcut (fun _ t=>d3E c b t R E) fun j3=>
 xloop [12] [x0] d fun u v next4=>
 d3F x5 c b (u 12) v next4 j3 R E))
def d3H (x0 _x5 x6 x7 x8:Value) (w) (next5:NT) (j2:NT) (_R:RT) (E):=
 oP E (bN .lss 3 22 23 x8 x0) w fun b a=>
 xcond b
 (oP E (bN .add 9 27 28 x7 x6) a fun c d=>
 oP E (bC .add 9 29 c (Value.string ⟨#[55]⟩)) d fun e f=>
 oP E (bC .add 3 25 x8 (vI 1)) f fun g i=>
 next5 [e,g] i)
 (j2 [x7] a)
def d3I (x0 x5 x6 w) (R:RT) (E):=
 ∀_τ:Fr,(xcut (fun b c=>d3G x0 x5 (nth b 0) c R E) fun j2=>
 xloop [7,8] [(Value.string ⟨#[55]⟩),(vI 1)] w fun a d next5=>
 d3H x0 x5 x6 (a 7) (a 8) d next5 j2 R E)
def F5 (x0 x1 w) (R:RT) (E):=
 oP E (xCall (fC 8) []) w fun e f=>
 oP E (xV (Op.unary .not e)) f fun g c=>
 xcond g
 (R (vB false) c)
 (oP E (bC .lss 3 15 x0 (vI 1)) c fun a i=>
 oP E (gF a (bC .gtr 3 18 (zF a x0) (vI 300))) i fun j k=>
 oP E (xPick a (vB true) j) k fun l b=>
 xcond l
 (R (vB true) b)
 (xcut (fun d m=>d3I x0 (nth d 0) (nth d.tail 0) m R E) fun j1=>
 xcond x1
 (j1 [(vI 7),(Value.string ⟨#[32,45,32]⟩)] b)
 (j1 [(vI 6),(Value.string ⟨#[32,43,32]⟩)] b)))
def h5:Hint:=(sQ (hS (sQ (hC (sQ hN) hN)) (hS (sQ (hC (sQ hN) hN)) (sQ (hU [5,6] (sQ (hC hN hN)) (sQ (hU [7] (sQ (hB (hL [7,8] (hS (sQ (hC hN hN)) (hS (hB hN) hN))))) (sQ (hS (sQ (hC (sQ hN) hN)) (hU [] (sQ (hB (hL [12] (hS (sQ (hC hN hN)) (hS (hB (hS (sQ (hC (sQ hN) hN)) hN)) hN))))) (sQ hN)))))))))))
def F6 (x0 w) (R:RT) (E):=
 oP E (xCall (fC 8) []) w fun ae af=>
 oP E (xV (Op.unary .not ae)) af fun ag aa=>
 xcond ag
 (R (vB false) aa)
 (oP E (xCall (fC 13) [x0]) aa fun s ah=>
 oP E (xT s 0) ah fun ai aj=>
 oP E (xT s 1) aj fun ak al=>
 oP E (xT s 2) al fun am an=>
 oP E (xV (Instr.alloc 40 true (.tuple #[]))) an fun l ao=>
 oP E (xV (Instr.alloc 28 true (.tuple #[]))) ao fun m ap=>
 oP E (sA 40 l ai) ap fun _ aq=>
 oP E (sA 28 m ak) aq fun _ ar=>
 oP E (xCall (fC 14) [x0]) ar fun t au=>
 oP E (xT t 0) au fun av aw=>
 oP E (xT t 1) aw fun ax ay=>
 oP E (xT t 2) ay fun u az=>
 oP E (xV (Instr.alloc 40 true (.tuple #[]))) az fun ab ba=>
 oP E (xV (Instr.alloc 28 true (.tuple #[]))) ba fun n bb=>
 oP E (sA 40 ab av) bb fun _ bc=>
 oP E (sA 28 n ax) bc fun _ bd=>
 oP E (bN .neq 3 25 26 am u) bd fun o be=>
 oP E (gF o (lA 28 m)) be fun bf bg=>
 oP E (gF o (lA 28 n)) bg fun bh bi=>
 oP E (gF o (bN .neq 28 29 30 bf bh)) bi fun bj bk=>
 oP E (xPick o (vB true) bj) bk fun b bl=>
 oP E (gF b (bC .neq 3 34 (zF b u) (vI 0))) bl fun c bm=>
 oP E (gsem (asB (zF b c)) true (fA 40 l 0)) bm fun bn bo=>
 oP E (gsem (asB (zF b c)) true (lA 3 bn)) bo fun bp bq=>
 oP E (gsem (asB (zF b c)) true (bC .neq 3 38 bp (vI 0))) bq fun f br=>
 oP E (gsem (asB (gval (asB (zF b c)) true f)) false (fA 40 l 3)) br fun bs bt=>
 oP E (gsem (asB (gval (asB (zF b c)) true f)) false (lA 38 bs)) bt fun bu bv=>
 oP E (gsem (asB (gval (asB (zF b c)) true f)) false (xBuiltin .len #[38] 3 [false] [bu])) bv fun bw bz=>
 oP E (gsem (asB (gval (asB (zF b c)) true f)) false (bC .gtr 3 43 bw (vI 0))) bz fun ca cb=>
 oP E (gsem (asB (zF b c)) true (xPick (gval (asB (zF b c)) true f) (vB true) ca)) cb fun cc cd=>
 oP E (gF b (xPick (zF b c) cc (vB false))) cd fun ce cf=>
 oP E (xPick b (vB true) ce) cf fun d cg=>
 oP E (gF d (bC .eql 3 49 (zF d u) (vI 0))) cg fun g ch=>
 oP E (gsem (asB (zF d g)) true (lA 40 l)) ch fun ci cj=>
 oP E (gsem (asB (zF d g)) true (lA 40 ab)) cj fun ck cl=>
 oP E (gsem (asB (zF d g)) true (xCall (fC 15) [ci,ck])) cl fun cm cn=>
 oP E (gsem (asB (zF d g)) true (xV (Op.unary .not cm))) cn fun co cp=>
 oP E (gF d (xPick (zF d g) co (vB false))) cp fun cq cr=>
 oP E (xPick d (vB true) cq) cr fun cs ac=>
 xcond cs
 (R (vB false) ac)
 (oP E (xCall (fC 16) [x0]) ac fun v ct=>
 oP E (xT v 0) ct fun cu cv=>
 oP E (xT v 1) cv fun cw cx=>
 oP E (xT v 2) cx fun cy cz=>
 oP E (xV (Instr.alloc 49 true (.tuple #[]))) cz fun i da=>
 oP E (sA 49 i cu) da fun _ db=>
 oP E (sA 28 m cw) db fun _ dc=>
 oP E (xCall (fC 17) [x0]) dc fun y dd=>
 oP E (xT y 0) dd fun de df=>
 oP E (xT y 1) df fun dg dh=>
 oP E (xT y 2) dh fun z di=>
 oP E (xV (Instr.alloc 49 true (.tuple #[]))) di fun ad dj=>
 oP E (sA 49 ad de) dj fun _ dk=>
 oP E (sA 28 n dg) dk fun _ dl=>
 oP E (bN .eql 3 70 71 cy z) dl fun p dm=>
 oP E (gT p (lA 28 m)) dm fun dn dp=>
 oP E (gT p (lA 28 n)) dp fun dq dr=>
 oP E (gT p (bN .eql 28 74 75 dn dq)) dr fun ds dt=>
 oP E (xPick p ds (vB false)) dt fun a du=>
 oP E (gT a (bC .neq 3 79 (zT a z) (vI 0))) du fun q dv=>
 oP E (gsem (asB (zT a q)) true (fA 49 i 0)) dv fun dw dx=>
 oP E (gsem (asB (zT a q)) true (lA 3 dw)) dx fun dy dz=>
 oP E (gsem (asB (zT a q)) true (bC .eql 3 83 dy (vI 0))) dz fun ea eb=>
 oP E (gT a (xPick (zT a q) ea (vB false))) eb fun j ec=>
 oP E (gsem (asB (zT a j)) true (fA 49 i 3)) ec fun ed ee=>
 oP E (gsem (asB (zT a j)) true (lA 47 ed)) ee fun ef eg=>
 oP E (gsem (asB (zT a j)) true (xBuiltin .len #[47] 3 [false] [ef])) eg fun eh ei=>
 oP E (gsem (asB (zT a j)) true (bC .eql 3 89 eh (vI 0))) ei fun ej ek=>
 oP E (gT a (xPick (zT a j) ej (vB false))) ek fun k el=>
 oP E (gsem (asB (zT a k)) true (fA 49 i 2)) el fun em en=>
 oP E (gsem (asB (zT a k)) true (lA 38 em)) en fun eo ep=>
 oP E (gsem (asB (zT a k)) true (xBuiltin .len #[38] 3 [false] [eo])) ep fun eq er=>
 oP E (gsem (asB (zT a k)) true (bC .eql 3 95 eq (vI 0))) er fun es et=>
 oP E (gT a (xPick (zT a k) es (vB false))) et fun e eu=>
 oP E (gsem (asB (zT a e)) false (xBin .eql 3 (.tmp 99) (.const (vI 0)) (gval (asB (zT a e)) false z) (vI 0))) eu fun r ev=>
 oP E (gsem (asB (gval (asB (zT a e)) false r)) true (lA 49 i)) ev fun ew ex=>
 oP E (gsem (asB (gval (asB (zT a e)) false r)) true (lA 49 ad)) ex fun ey ez=>
 oP E (gsem (asB (gval (asB (zT a e)) false r)) true (xCall (fC 18) [ew,ey])) ez fun fa fb=>
 oP E (gsem (asB (zT a e)) false (xPick (gval (asB (zT a e)) false r) fa (vB false))) fb fun fc fd=>
 oP E (gT a (xPick (zT a e) (vB true) fc)) fd fun fe ff=>
 oP E (xPick a fe (vB false)) ff fun fg fh=>
 R fg fh))
def h6:Hint:=(sQ (hS (sQ (hC (sQ hN) hN)) (sQ (sQ (hS (sQ (hC (sQ hN) hN)) (sQ (sQ (sQ hN))))))))
theorem d3J {x0:Value} (h:F6 x0 w R E):Cv pG 6 #[x0] w R E:=okF (h:=h6) Tryz.func6 (by kernel_rfl) (by kernel_rfl) h
def h7:Hint:=(sQ (hS (sQ (hC (sQ hN) hN)) (sQ (sQ (hS (sQ (hC (sQ hN) hN)) (hS (sQ (hC (sQ hN) hN)) (sQ hN)))))))
def F8 (w) (R:RT) (E):=
 oP E (xCall (fC 9) [(Value.string ⟨#[118,97,114,32,120,59,32,120,32,61,32,49,32,43,32,50,32,42,32,120,59]⟩)]) w fun g l=>
 oP E (xT g 0) l fun m n=>
 oP E (xT g 1) n fun o p=>
 oP E (xT g 2) p fun q r=>
 oP E (xV (Instr.alloc 26 true (.tuple #[]))) r fun c s=>
 oP E (xV (Instr.alloc 28 true (.tuple #[]))) s fun t u=>
 oP E (sA 26 c m) u fun _ v=>
 oP E (sA 28 t o) v fun _ y=>
 oP E (xCall (fC 9) [(Value.string ⟨#[120,32,61,32,59]⟩)]) y fun i z=>
 oP E (xT i 0) z fun aa ab=>
 oP E (xT i 1) ab fun ac ad=>
 oP E (xT i 2) ad fun ae af=>
 oP E (xV (Instr.alloc 26 true (.tuple #[]))) af fun ag ah=>
 oP E (xV (Instr.alloc 28 true (.tuple #[]))) ah fun k ai=>
 oP E (sA 26 ag aa) ai fun _ aj=>
 oP E (sA 28 k ac) aj fun _ ak=>
 oP E (bC .eql 29 17 q (vI 0)) ak fun d al=>
 oP E (gT d (fA 26 c 0)) al fun am an=>
 oP E (gT d (lA 23 am)) an fun ao ap=>
 oP E (gT d (xBuiltin .len #[23] 3 [false] [ao])) ap fun aq ar=>
 oP E (gT d (bC .eql 3 22 aq (vI 1))) ar fun au av=>
 oP E (xPick d au (vB false)) av fun e aw=>
 oP E (gT e (fA 26 c 1)) aw fun ax ay=>
 oP E (gT e (lA 24 ax)) ay fun az ba=>
 oP E (gT e (xBuiltin .len #[24] 3 [false] [az])) ba fun bb bc=>
 oP E (gT e (bC .eql 3 28 bb (vI 1))) bc fun bd be=>
 oP E (xPick e bd (vB false)) be fun b bf=>
 oP E (gT b (fA 26 c 1)) bf fun bg bh=>
 oP E (gT b (lA 24 bg)) bh fun bi bj=>
 oP E (gT b (iA 24 bi (vI 0))) bj fun bk bl=>
 oP E (gT b (fA 56 bk 2)) bl fun bm bn=>
 oP E (gT b (lA 38 bm)) bn fun bo bp=>
 oP E (gT b (xBuiltin .len #[38] 3 [false] [bo])) bp fun bq br=>
 oP E (gT b (bC .eql 3 37 bq (vI 1))) br fun bs bt=>
 oP E (xPick b bs (vB false)) bt fun a bu=>
 oP E (gT a (fA 26 c 1)) bu fun bv bw=>
 oP E (gT a (lA 24 bv)) bw fun bz ca=>
 oP E (gT a (iA 24 bz (vI 0))) ca fun cb cc=>
 oP E (gT a (fA 56 cb 2)) cc fun cd ce=>
 oP E (gT a (lA 38 cd)) ce fun cf cg=>
 oP E (gT a (iA 38 cf (vI 0))) cg fun ch ci=>
 oP E (gT a (fA 40 ch 0)) ci fun cj ck=>
 oP E (gT a (lA 3 cj)) ck fun cl cm=>
 oP E (gT a (bC .eql 3 48 cl (vI 6))) cm fun cn co=>
 oP E (xPick a cn (vB false)) co fun j cp=>
 oP E (gT j (bC .eql 29 52 (zT j ae) (vI 40))) cp fun cq cr=>
 oP E (xPick j cq (vB false)) cr fun f cs=>
 oP E (gT f (lA 28 k)) cs fun ct cu=>
 oP E (gT f (xV (Instr.build 28 #[(0,(vI 1)),(1,(vI 5))]))) cu fun cv cw=>
 oP E (gT f (bN .eql 28 56 57 ct cv)) cw fun cx cy=>
 oP E (xPick f cx (vB false)) cy fun cz da=>
 R cz da
def h8:Hint:=(sQ (sQ (sQ (sQ hN))))
theorem d3K (h:F8  w R E):Cv pG 8 #[] w R E:=okF (h:=h8) Tryz.func8 (by kernel_rfl) (by kernel_rfl) h
def F9 (x0 w) (R:RT) (E):=
 oP E (xV (Instr.alloc 26 true (.tuple #[]))) w fun c e=>
 oP E (xV (Instr.alloc 28 true (.tuple #[]))) e fun d f=>
 oP E (xCall (fC 20) [x0,(fC 21),(fC 12)]) f fun a g=>
 oP E (xT a 0) g fun i j=>
 oP E (xT a 1) j fun k l=>
 oP E (xT a 2) l fun m n=>
 oP E (sA 26 c i) n fun _ o=>
 oP E (sA 28 d k) o fun _ b=>
 xcell pG 26 c b fun p=>
 xcell pG 28 d b fun q=>
 R (Value.tuple #[p,q,m]) b
def h9:Hint:=(sQ (sQ hN))
theorem d3L {x0:Value} (h:F9 x0 w R E):Cv pG 9 #[x0] w R E:=okF (h:=h9) Tryz.func9 (by kernel_rfl) (by kernel_rfl) h
def F12 (x0 w) (R:RT) (E):=
 oP E (xV (Instr.box 26 x0)) w fun a b=>
 oP E (lA 26 a) b fun c d=>
 oP E (xCall (fC 32) [c]) d fun e f=>
 oP E (xNil e) f fun g i=>
 oP E (fA 79 g 2) i fun j k=>
 oP E (lA 29 j) k fun l m=>
 R l m
def h12:Hint:=(sQ (sQ hN))
theorem c9P {x0:Value} (h:F12 x0 w R E):Cv pG 12 #[x0] w R E:=okF (h:=h12) Tryz.func12 (by kernel_rfl) (by kernel_rfl) h
def F13 (x0 w) (R:RT) (E):=
 oP E (xV (Instr.alloc 40 true (.tuple #[]))) w fun c e=>
 oP E (xV (Instr.alloc 28 true (.tuple #[]))) e fun d f=>
 oP E (xCall (fC 33) [x0,(fC 34),(fC 36)]) f fun a g=>
 oP E (xT a 0) g fun i j=>
 oP E (xT a 1) j fun k l=>
 oP E (xT a 2) l fun m n=>
 oP E (sA 40 c i) n fun _ o=>
 oP E (sA 28 d k) o fun _ b=>
 xcell pG 40 c b fun p=>
 xcell pG 28 d b fun q=>
 R (Value.tuple #[p,q,m]) b
def h13:Hint:=(sQ (sQ hN))
theorem c9Q {x0:Value} (h:F13 x0 w R E):Cv pG 13 #[x0] w R E:=okF (h:=h13) Tryz.func13 (by kernel_rfl) (by kernel_rfl) h
def b8Z (x2 x3 x6 x7 x9 w) (R:RT) (E):=
 ∀_τ:Fr,(oP E (bC .neq 3 40 x7 (vI 0)) w fun f e=>
 xcond f
 (dX e fun b=>
 qP pG (xV (Instr.build 40 #[])) fun g=>
 qL pG b (blk x6) (lA 28 x6) fun i=>
 oP E (sA 40 x2 g) b fun _ c=>
 keepX [(blk x6)] b c (opK pG E (sA 28 x3 i) c fun _ a=>
 keepX [] c a (xcell pG 40 x2 a fun j=>
 xcell pG 28 x3 a fun k=>
 R (Value.tuple #[j,k,x7]) a)))
 (oP E (lA 40 x9) e fun l m=>
 oP E (xV (Instr.build 28 #[])) m fun n o=>
 oP E (sA 40 x2 l) o fun _ p=>
 oP E (sA 28 x3 n) p fun _ d=>
 xcell pG 40 x2 d fun q=>
 xcell pG 28 x3 d fun r=>
 R (Value.tuple #[q,r,(vI 0)]) d))
def F14 (x0 w) (R:RT) (E):=
 oP E (xV (Instr.alloc 40 true (.tuple #[]))) w fun c q=>
 oP E (xV (Instr.alloc 28 true (.tuple #[]))) q fun d r=>
 oP E (xCall (fC 22) [x0]) r fun e s=>
 oP E (xT e 0) s fun t u=>
 oP E (xT e 1) u fun v y=>
 oP E (xT e 2) y fun k z=>
 oP E (xV (Instr.alloc 28 true (.tuple #[]))) z fun a aa=>
 oP E (sA 28 a v) aa fun _ ab=>
 oP E (bC .neq 3 16 k (vI 0)) ab fun ac l=>
 xcond ac
 (dX l fun f=>
 qP pG (xV (Instr.build 40 #[])) fun ad=>
 qL pG f (blk a) (lA 28 a) fun ae=>
 oP E (sA 40 c ad) f fun _ g=>
 keepX [(blk a)] f g (opK pG E (sA 28 d ae) g fun _ b=>
 keepX [] g b (xcell pG 40 c b fun af=>
 xcell pG 28 d b fun ag=>
 R (Value.tuple #[af,ag,k]) b)))
 (oP E (xV (Instr.build 66 #[(0,t)])) l fun ah ai=>
 oP E (xV (Instr.box 66 ah)) ai fun i aj=>
 oP E (xCall (fC 37) [i,(vI 1)]) aj fun ak al=>
 oP E (xV (Instr.alloc 40 true (.tuple #[]))) al fun j am=>
 oP E (sA 40 j ak) am fun _ an=>
 oP E (xCall (fC 27) [i]) an fun m ao=>
 oP E (xT m 0) ao fun ap aq=>
 oP E (xT m 1) aq fun n ar=>
 oP E (sA 28 a ap) ar fun _ au=>
 xcut (fun av aw=>b8Z c d a (nth av 0) j aw R E) fun j1=>
 oP E (bC .eql 3 31 n (vI 0)) au fun ax o=>
 xcond ax
 (oP E (lA 40 j) o fun ay az=>
 oP E (xCall (fC 38) [ay]) az fun ba bb=>
 oP E (xCall (fC 28) [i,ba]) bb fun p bc=>
 oP E (xT p 0) bc fun bd be=>
 oP E (xT p 1) be fun bf bg=>
 oP E (sA 28 a bd) bg fun _ bh=>
 j1 [bf] bh)
 (j1 [n] o))
def h14:Hint:=(sQ (sQ (hS (sQ (hC (hS (.reg [(0,262144,0),(0,524288,64),(0,1048576,128),(1,0,262148),(11,0,524296),(31,16,1048576)] [2,0,2,2,0,2] (.early 0 (.early 2 (.load 1 (.step 3 (.step 4 (.early 5 .done))))))) hN) hN)) (sQ (sQ (sQ (hU [7] (sQ (hC hN hN)) (hS (sQ (hC (hS (.reg [(0,4398046511104,0),(0,8796093022208,64),(0,17592186044416,128),(1,0,4398046511108),(11,0,8796093022216),(31,16,17592186044416)] [2,0,2,2,0,2] (.early 0 (.early 2 (.load 1 (.step 3 (.step 4 (.early 5 .done))))))) hN) hN)) (sQ hN)))))))))
theorem c9R {x0:Value} (h:F14 x0 w R E):Cv pG 14 #[x0] w R E:=okF (h:=h14) Tryz.func14 (by kernel_rfl) (by kernel_rfl) h
def b9a (w) (R:RT) (_E:Pan):=
 ∀_τ:Fr,(R (vB true) w)
def c3F (x2 x3 x5 w) (next2:NT) (j1:NT) (R:RT) (E):=
 oP E (fA 40 x2 3) w fun i j=>
 oP E (lA 38 i) j fun k l=>
 oP E (xBuiltin .len #[38] 3 [false] [k]) l fun m n=>
 oP E (bN .lss 3 34 37 x5 m) n fun o c=>
 xcond o
 (dX c fun a=>
 qP pG (fA 40 x2 3) fun d=>
 qP pG (fA 40 x3 3) fun e=>
 qL pG a (blk d) (lA 38 d) fun p=>
 qP pG (iA 38 p x5) fun f=>
 qL pG a (blk f) (lA 40 f) fun q=>
 qL pG a (blk e) (lA 38 e) fun r=>
 qP pG (iA 38 r x5) fun g=>
 qL pG a (blk g) (lA 40 g) fun s=>
 oP E (xCall (fC 15) [q,s]) a fun t b=>
 keepX [] a b (qP pG (xV (Op.unary .not t)) fun u=>
 xcond u
 (R (vB false) b)
 (oP E (bC .add 3 39 x5 (vI 1)) b fun v y=>
 next2 [v] y)))
 (j1 [] c)
def F15 (x0 x1 w) (R:RT) (E):=
 oP E (xV (Instr.box 40 x0)) w fun d g=>
 oP E (xV (Instr.box 40 x1)) g fun e i=>
 oP E (fA 40 d 0) i fun j k=>
 oP E (lA 3 j) k fun l m=>
 oP E (fA 40 e 0) m fun n o=>
 oP E (lA 3 n) o fun p q=>
 oP E (bN .neq 3 7 9 l p) q fun b r=>
 oP E (gF b (fA 40 d 1)) r fun s t=>
 oP E (gF b (lA 2 s)) t fun u v=>
 oP E (gF b (fA 40 e 1)) v fun y z=>
 oP E (gF b (lA 2 y)) z fun aa ab=>
 oP E (gF b (bN .neq 2 13 15 u aa)) ab fun ac ad=>
 oP E (xPick b (vB true) ac) ad fun c ae=>
 oP E (gF c (fA 40 d 2)) ae fun af ag=>
 oP E (gF c (lA 9 af)) ag fun ah ai=>
 oP E (gF c (fA 40 e 2)) ai fun aj ak=>
 oP E (gF c (lA 9 aj)) ak fun al am=>
 oP E (gF c (bN .neq 9 20 22 ah al)) am fun an ao=>
 oP E (xPick c (vB true) an) ao fun a ap=>
 oP E (gF a (fA 40 d 3)) ap fun aq ar=>
 oP E (gF a (lA 38 aq)) ar fun au av=>
 oP E (gF a (xBuiltin .len #[38] 3 [false] [au])) av fun aw ax=>
 oP E (gF a (fA 40 e 3)) ax fun ay az=>
 oP E (gF a (lA 38 ay)) az fun ba bb=>
 oP E (gF a (xBuiltin .len #[38] 3 [false] [ba])) bb fun bc bd=>
 oP E (gF a (bN .neq 3 28 31 aw bc)) bd fun be bf=>
 oP E (xPick a (vB true) be) bf fun bg f=>
 xcond bg
 (R (vB false) f)
 (xcut (fun _ bh=>b9a bh R E) fun j1=>
 xloop [5] [(vI 0)] f fun bi bj next2=>
 c3F d e (bi 5) bj next2 j1 R E)
def h15:Hint:=(sQ (hS (sQ (hC (sQ hN) hN)) (hU [] (sQ (hB (hL [5] (hS (sQ (hC hN hN)) (hS (hB (hS (.reg [(0,2199023255552,4),(1,4398046511104,2199023255552),(0,8796093022208,32),(6,17592186044416,13194139533312),(8,35184372088832,17592186044416),(0,70368744177664,8),(32,140737488355328,70368744177664),(0,281474976710656,32),(192,562949953421312,422212465065984),(256,1125899906842624,562949953421312),(528,2251799813685248,1161084278931456),(1024,4503599627370496,2251799813685248)] [594,592,594,594,578,594,530,594,594,82,0,594] (.early 0 (.early 2 (.early 5 (.early 7 (.load 1 (.early 3 (.load 4 (.load 6 (.early 8 (.load 9 (.step 10 (.early 11 .done))))))))))))) (hC (sQ hN) hN))) hN))))) (sQ hN))))
theorem c9S {x0 x1:Value} (h:F15 x0 x1 w R E):Cv pG 15 #[x0,x1] w R E:=okF (h:=h15) Tryz.func15 (by kernel_rfl) (by kernel_rfl) h
def F16 (x0 w) (R:RT) (E):=
 oP E (xV (Instr.alloc 49 true (.tuple #[]))) w fun c e=>
 oP E (xV (Instr.alloc 28 true (.tuple #[]))) e fun d f=>
 oP E (xCall (fC 39) [x0,(fC 40),(fC 42)]) f fun a g=>
 oP E (xT a 0) g fun i j=>
 oP E (xT a 1) j fun k l=>
 oP E (xT a 2) l fun m n=>
 oP E (sA 49 c i) n fun _ o=>
 oP E (sA 28 d k) o fun _ b=>
 xcell pG 49 c b fun p=>
 xcell pG 28 d b fun q=>
 R (Value.tuple #[p,q,m]) b
def h16:Hint:=(sQ (sQ hN))
theorem c9T {x0:Value} (h:F16 x0 w R E):Cv pG 16 #[x0] w R E:=okF (h:=h16) Tryz.func16 (by kernel_rfl) (by kernel_rfl) h
def b9b (x2 x3 x6 x7 x9 w) (R:RT) (E):=
 ∀_τ:Fr,(oP E (bC .neq 3 40 x7 (vI 0)) w fun f e=>
 xcond f
 (dX e fun b=>
 qP pG (xV (Instr.build 49 #[])) fun g=>
 qL pG b (blk x6) (lA 28 x6) fun i=>
 oP E (sA 49 x2 g) b fun _ c=>
 keepX [(blk x6)] b c (opK pG E (sA 28 x3 i) c fun _ a=>
 keepX [] c a (xcell pG 49 x2 a fun j=>
 xcell pG 28 x3 a fun k=>
 R (Value.tuple #[j,k,x7]) a)))
 (oP E (lA 49 x9) e fun l m=>
 oP E (xV (Instr.build 28 #[])) m fun n o=>
 oP E (sA 49 x2 l) o fun _ p=>
 oP E (sA 28 x3 n) p fun _ d=>
 xcell pG 49 x2 d fun q=>
 xcell pG 28 x3 d fun r=>
 R (Value.tuple #[q,r,(vI 0)]) d))
def F17 (x0 w) (R:RT) (E):=
 oP E (xV (Instr.alloc 49 true (.tuple #[]))) w fun c q=>
 oP E (xV (Instr.alloc 28 true (.tuple #[]))) q fun d r=>
 oP E (xCall (fC 22) [x0]) r fun e s=>
 oP E (xT e 0) s fun t u=>
 oP E (xT e 1) u fun v y=>
 oP E (xT e 2) y fun k z=>
 oP E (xV (Instr.alloc 28 true (.tuple #[]))) z fun a aa=>
 oP E (sA 28 a v) aa fun _ ab=>
 oP E (bC .neq 3 16 k (vI 0)) ab fun ac l=>
 xcond ac
 (dX l fun f=>
 qP pG (xV (Instr.build 49 #[])) fun ad=>
 qL pG f (blk a) (lA 28 a) fun ae=>
 oP E (sA 49 c ad) f fun _ g=>
 keepX [(blk a)] f g (opK pG E (sA 28 d ae) g fun _ b=>
 keepX [] g b (xcell pG 49 c b fun af=>
 xcell pG 28 d b fun ag=>
 R (Value.tuple #[af,ag,k]) b)))
 (oP E (xV (Instr.build 66 #[(0,t)])) l fun ah ai=>
 oP E (xV (Instr.box 66 ah)) ai fun i aj=>
 oP E (xCall (fC 43) [i,(vI 1)]) aj fun ak al=>
 oP E (xV (Instr.alloc 49 true (.tuple #[]))) al fun j am=>
 oP E (sA 49 j ak) am fun _ an=>
 oP E (xCall (fC 27) [i]) an fun m ao=>
 oP E (xT m 0) ao fun ap aq=>
 oP E (xT m 1) aq fun n ar=>
 oP E (sA 28 a ap) ar fun _ au=>
 xcut (fun av aw=>b9b c d a (nth av 0) j aw R E) fun j1=>
 oP E (bC .eql 3 31 n (vI 0)) au fun ax o=>
 xcond ax
 (oP E (lA 49 j) o fun ay az=>
 oP E (xCall (fC 44) [ay]) az fun ba bb=>
 oP E (xCall (fC 28) [i,ba]) bb fun p bc=>
 oP E (xT p 0) bc fun bd be=>
 oP E (xT p 1) be fun bf bg=>
 oP E (sA 28 a bd) bg fun _ bh=>
 j1 [bf] bh)
 (j1 [n] o))
def h17:Hint:=(sQ (sQ (hS (sQ (hC (hS (.reg [(0,262144,0),(0,524288,64),(0,1048576,128),(1,0,262148),(11,0,524296),(31,16,1048576)] [2,0,2,2,0,2] (.early 0 (.early 2 (.load 1 (.step 3 (.step 4 (.early 5 .done))))))) hN) hN)) (sQ (sQ (sQ (hU [7] (sQ (hC hN hN)) (hS (sQ (hC (hS (.reg [(0,4398046511104,0),(0,8796093022208,64),(0,17592186044416,128),(1,0,4398046511108),(11,0,8796093022216),(31,16,17592186044416)] [2,0,2,2,0,2] (.early 0 (.early 2 (.load 1 (.step 3 (.step 4 (.early 5 .done))))))) hN) hN)) (sQ hN)))))))))
theorem c9U {x0:Value} (h:F17 x0 w R E):Cv pG 17 #[x0] w R E:=okF (h:=h17) Tryz.func17 (by kernel_rfl) (by kernel_rfl) h
def b9c (w) (R:RT) (_E:Pan):=
 ∀_τ:Fr,(R (vB true) w)
def c3G (x2 x3 x6 w) (next3:NT) (j2:NT) (R:RT) (E):=
 oP E (fA 49 x2 3) w fun i j=>
 oP E (lA 47 i) j fun k l=>
 oP E (xBuiltin .len #[47] 3 [false] [k]) l fun m n=>
 oP E (bN .lss 3 56 59 x6 m) n fun o c=>
 xcond o
 (dX c fun a=>
 qP pG (fA 49 x2 3) fun d=>
 qP pG (fA 49 x3 3) fun e=>
 qL pG a (blk d) (lA 47 d) fun p=>
 qP pG (iA 47 p x6) fun f=>
 qL pG a (blk f) (lA 49 f) fun q=>
 qL pG a (blk e) (lA 47 e) fun r=>
 qP pG (iA 47 r x6) fun g=>
 qL pG a (blk g) (lA 49 g) fun s=>
 oP E (xCall (fC 18) [q,s]) a fun t b=>
 keepX [] a b (qP pG (xV (Op.unary .not t)) fun u=>
 xcond u
 (R (vB false) b)
 (oP E (bC .add 3 61 x6 (vI 1)) b fun v y=>
 next3 [v] y)))
 (j2 [] c)
def b9d (x2 x3 w) (R:RT) (E):=
 ∀_τ:Fr,(xcut (fun _ a=>b9c a R E) fun j2=>
 xloop [6] [(vI 0)] w fun b c next3=>
 c3G x2 x3 (b 6) c next3 j2 R E)
def c3H (x2 x3 x5 w) (next4:NT) (j1:NT) (R:RT) (E):=
 oP E (fA 49 x2 2) w fun i j=>
 oP E (lA 38 i) j fun k l=>
 oP E (xBuiltin .len #[38] 3 [false] [k]) l fun m n=>
 oP E (bN .lss 3 37 40 x5 m) n fun o c=>
 xcond o
 (dX c fun a=>
 qP pG (fA 49 x2 2) fun d=>
 qP pG (fA 49 x3 2) fun e=>
 qL pG a (blk d) (lA 38 d) fun p=>
 qP pG (iA 38 p x5) fun f=>
 qL pG a (blk f) (lA 40 f) fun q=>
 qL pG a (blk e) (lA 38 e) fun r=>
 qP pG (iA 38 r x5) fun g=>
 qL pG a (blk g) (lA 40 g) fun s=>
 oP E (xCall (fC 15) [q,s]) a fun t b=>
 keepX [] a b (qP pG (xV (Op.unary .not t)) fun u=>
 xcond u
 (R (vB false) b)
 (oP E (bC .add 3 42 x5 (vI 1)) b fun v y=>
 next4 [v] y)))
 (j1 [] c)
def F18 (x0 x1 w) (R:RT) (E):=
 oP E (xV (Instr.box 49 x0)) w fun c g=>
 oP E (xV (Instr.box 49 x1)) g fun d i=>
 oP E (fA 49 c 0) i fun j k=>
 oP E (lA 3 j) k fun l m=>
 oP E (fA 49 d 0) m fun n o=>
 oP E (lA 3 n) o fun p q=>
 oP E (bN .neq 3 8 10 l p) q fun e r=>
 oP E (gF e (fA 49 c 1)) r fun s t=>
 oP E (gF e (lA 3 s)) t fun u v=>
 oP E (gF e (fA 49 d 1)) v fun y z=>
 oP E (gF e (lA 3 y)) z fun aa ab=>
 oP E (gF e (bN .neq 3 14 16 u aa)) ab fun ac ad=>
 oP E (xPick e (vB true) ac) ad fun a ae=>
 oP E (gF a (fA 49 c 2)) ae fun af ag=>
 oP E (gF a (lA 38 af)) ag fun ah ai=>
 oP E (gF a (xBuiltin .len #[38] 3 [false] [ah])) ai fun aj ak=>
 oP E (gF a (fA 49 d 2)) ak fun al am=>
 oP E (gF a (lA 38 al)) am fun an ao=>
 oP E (gF a (xBuiltin .len #[38] 3 [false] [an])) ao fun ap aq=>
 oP E (gF a (bN .neq 3 22 25 aj ap)) aq fun ar au=>
 oP E (xPick a (vB true) ar) au fun b av=>
 oP E (gF b (fA 49 c 3)) av fun aw ax=>
 oP E (gF b (lA 47 aw)) ax fun ay az=>
 oP E (gF b (xBuiltin .len #[47] 3 [false] [ay])) az fun ba bb=>
 oP E (gF b (fA 49 d 3)) bb fun bc bd=>
 oP E (gF b (lA 47 bc)) bd fun be bf=>
 oP E (gF b (xBuiltin .len #[47] 3 [false] [be])) bf fun bg bh=>
 oP E (gF b (bN .neq 3 31 34 ba bg)) bh fun bi bj=>
 oP E (xPick b (vB true) bi) bj fun bk f=>
 xcond bk
 (R (vB false) f)
 (xcut (fun _ bl=>b9d c d bl R E) fun j1=>
 xloop [5] [(vI 0)] f fun bm bn next4=>
 c3H c d (bm 5) bn next4 j1 R E)
def h18:Hint:=(sQ (hS (sQ (hC (sQ hN) hN)) (hU [] (sQ (hB (hL [5] (hS (sQ (hC hN hN)) (hS (hB (hS (.reg [(0,17592186044416,4),(1,35184372088832,17592186044416),(0,70368744177664,32),(6,140737488355328,105553116266496),(8,281474976710656,140737488355328),(0,562949953421312,8),(32,1125899906842624,562949953421312),(0,2251799813685248,32),(192,4503599627370496,3377699720527872),(256,9007199254740992,4503599627370496),(528,18014398509481984,9288674231451648),(1024,36028797018963968,18014398509481984)] [594,592,594,594,578,594,530,594,594,82,0,594] (.early 0 (.early 2 (.early 5 (.early 7 (.load 1 (.early 3 (.load 4 (.load 6 (.early 8 (.load 9 (.step 10 (.early 11 .done))))))))))))) (hC (sQ hN) hN))) hN))))) (hU [] (sQ (hB (hL [6] (hS (sQ (hC hN hN)) (hS (hB (hS (.reg [(0,9223372036854775808,4),(1,18446744073709551616,9223372036854775808),(0,36893488147419103232,64),(6,73786976294838206464,55340232221128654848),(8,147573952589676412928,73786976294838206464),(0,295147905179352825856,8),(32,590295810358705651712,295147905179352825856),(0,1180591620717411303424,64),(192,2361183241434822606848,1770887431076116955136),(256,4722366482869645213696,2361183241434822606848),(528,9444732965739290427392,4869940435459321626624),(1024,18889465931478580854784,9444732965739290427392)] [594,592,594,594,578,594,530,594,594,82,0,594] (.early 0 (.early 2 (.early 5 (.early 7 (.load 1 (.early 3 (.load 4 (.load 6 (.early 8 (.load 9 (.step 10 (.early 11 .done))))))))))))) (hC (sQ hN) hN))) hN))))) (sQ hN)))))
theorem c9V {x0 x1:Value} (h:F18 x0 x1 w R E):Cv pG 18 #[x0,x1] w R E:=okF (h:=h18) Tryz.func18 (by kernel_rfl) (by kernel_rfl) h
def b9e (x2 x3 w) (R:RT) (E):=
 ∀_τ:Fr,(oP E (lA 26 x3) w fun b c=>
 oP E (sA 26 x2 b) c fun _ a=>
 xcell pG 26 x2 a fun d=>
 R d a)
def c3I (x0 _x2 x3:Value) (w) (next3:NT) (j2:NT) (_R:RT) (E):=
 oP E (xCall (fC 51) [x0]) w fun i j=>
 oP E (xV (Instr.field 103 i 0)) j fun k l=>
 oP E (bC .neq 3 19 k (vI 5)) l fun m f=>
 xcond m
 (oP E (xCall (fC 56) [x0]) f fun n o=>
 oP E (xCall (fC 55) [x0,(vI 1),n]) o fun _t24_20 p=>
 dX p fun b=>
 qP pG (fA 26 x3 1) fun a=>
 qL pG b (blk a) (lA 24 a) fun q=>
 oP E (xCall (fC 57) [x0,(vI 1)]) b fun r c=>
 keepX [(blk a)] b c (opK pG E (xV (Instr.buildSlice 24 1 #[(0,r)])) c fun s d=>
 keepX [(blk a)] c d (opK pG E (xBuiltin .append #[24,24] 24 [false,false] [q,s]) d fun t e=>
 keepX [] d e (qP pG (fA 26 x3 1) fun u=>
 oP E (sA 24 u t) e fun _ g=>
 keepX [] e g (next3 [] g)))))
 (j2 [] f)
def b9f (x0 x2 x3 w) (R:RT) (E):=
 ∀_τ:Fr,(xcut (fun _ a=>b9e x2 x3 a R E) fun j2=>
 xloop [] [] w fun _ b next3=>
 c3I x0 x2 x3 b next3 j2 R E)
def c3J (x0 _x2 x3:Value) (w) (next4:NT) (j1:NT) (_R:RT) (E):=
 oP E (xCall (fC 53) [x0,(Value.string ⟨#[118,97,114]⟩)]) w fun b j=>
 oP E (gF b (xCall (fC 53) [(zF b x0),(Value.string ⟨#[97,114,114,97,121]⟩)])) j fun k l=>
 oP E (xPick b (vB true) k) l fun m g=>
 xcond m
 (dX g fun c=>
 qP pG (fA 26 x3 0) fun a=>
 qL pG c (blk a) (lA 23 a) fun n=>
 oP E (xCall (fC 54) [x0]) c fun o d=>
 keepX [(blk a)] c d (opK pG E (xV (Instr.buildSlice 23 1 #[(0,o)])) d fun p e=>
 keepX [(blk a)] d e (opK pG E (xBuiltin .append #[23,23] 23 [false,false] [n,p]) e fun q f=>
 keepX [] e f (qP pG (fA 26 x3 0) fun r=>
 oP E (sA 23 r q) f fun _ i=>
 keepX [] f i (next4 [] i)))))
 (j1 [] g)
def F21 (x0 w) (R:RT) (E):=
 oP E (xV (Instr.alloc 26 true (.tuple #[]))) w fun a c=>
 oP E (xV (Instr.alloc 26 true (.tuple #[]))) c fun b d=>
 xcut (fun _ e=>b9f x0 a b e R E) fun j1=>
 xloop [] [] d fun _ f next4=>
 c3J x0 a b f next4 j1 R E
def h21:Hint:=(sQ (sQ (hU [] (hB (hL [] (hS (sQ (hC hN hN)) (hB (.reg [(0,1024,8),(1,2048,1024),(0,4096,1),(4,8192,4096),(8,16384,8192),(26,32768,18432),(63,65536,8),(127,0,98304)] [2,0,2,2,2,0,2,0] (.early 0 (.early 2 (.load 1 (.step 3 (.step 4 (.step 5 (.early 6 (.step 7 .done))))))))))))) (hU [] (hB (hL [] (hS (sQ (hC hN hN)) (hB (sQ (.reg [(0,33554432,8),(1,67108864,33554432),(0,134217728,1),(4,268435456,134217728),(8,536870912,268435456),(26,1073741824,603979776),(63,2147483648,8),(127,0,3221225472)] [2,0,2,2,2,0,2,0] (.early 0 (.early 2 (.load 1 (.step 3 (.step 4 (.step 5 (.early 6 (.step 7 .done)))))))))))))) (sQ hN)))))
theorem c9W {x0:Value} (h:F21 x0 w R E):Cv pG 21 #[x0] w R E:=okF (h:=h21) Tryz.func21 (by kernel_rfl) (by kernel_rfl) h
def c3K (x0 x3 x7 x8 x9 w) (next1:NT) (R:RT) (E):=
 oP E (xCall (fC 60) [x0,x9]) w fun a o=>
 oP E (lA 28 x8) o fun p q=>
 oP E (xCall (fC 61) [x0,p,x9,a]) q fun r s=>
 oP E (sA 28 x8 r) s fun _ t=>
 oP E (xBuiltin .len #[9] 3 [false] [x0]) t fun u v=>
 oP E (bN .geq 3 38 40 a u) v fun y i=>
 xcond y
 (oP E (lA 28 x8) i fun z aa=>
 oP E (xV (Instr.build 103 #[(0,(vI 5)),(3,z)])) aa fun ab ac=>
 oP E (xV (Instr.buildSlice 61 1 #[(0,ab)])) ac fun ad ae=>
 oP E (xBuiltin .append #[61,61] 61 [false,false] [x7,ad]) ae fun af ag=>
 oP E (xV (Instr.build 28 #[])) ag fun ah ai=>
 oP E (sA 28 x3 ah) ai fun _ j=>
 xcell pG 28 x3 j fun aj=>
 R (Value.tuple #[af,aj,(vI 0)]) j)
 (oP E (xBuiltin .len #[61] 3 [false] [x7]) i fun ak al=>
 oP E (bC .eql 3 49 ak (vI 32768)) al fun am k=>
 xcond am
 (dX k fun b=>
 qL pG b (blk x8) (lA 28 x8) fun an=>
 oP E (sA 28 x3 an) b fun _ c=>
 keepX [] b c (xcell pG 28 x3 c fun ao=>
 R (Value.tuple #[(nS),ao,(vI 23)]) c))
 (oP E (xCall (fC 62) [x0,a]) k fun d ap=>
 oP E (xT d 0) ap fun aq ar=>
 oP E (xT d 1) ar fun l au=>
 oP E (xT d 2) au fun m av=>
 oP E (xV (Instr.alloc 103 true (.tuple #[]))) av fun e aw=>
 oP E (sA 103 e aq) aw fun _ ax=>
 oP E (bC .neq 3 59 m (vI 0)) ax fun ay n=>
 xcond ay
 (dX n fun f=>
 qL pG f (blk x8) (lA 28 x8) fun az=>
 oP E (sA 28 x3 az) f fun _ g=>
 keepX [] f g (xcell pG 28 x3 g fun ba=>
 R (Value.tuple #[(nS),ba,m]) g))
 (oP E (lA 28 x8) n fun bb bc=>
 oP E (fA 103 e 3) bc fun bd be=>
 oP E (sA 28 bd bb) be fun _ bf=>
 oP E (lA 103 e) bf fun bg bh=>
 oP E (xV (Instr.buildSlice 61 1 #[(0,bg)])) bh fun bi bj=>
 oP E (xBuiltin .append #[61,61] 61 [false,false] [x7,bi]) bj fun bk bl=>
 oP E (lA 28 x8) bl fun bm bn=>
 oP E (xCall (fC 61) [x0,bm,a,l]) bn fun bo bp=>
 oP E (sA 28 x8 bo) bp fun _ bq=>
 next1 [bk,l] bq)))
def F22 (x0 w) (R:RT) (E):=
 oP E (xV (Instr.alloc 28 true (.tuple #[]))) w fun a k=>
 oP E (xCall (fC 58) [x0]) k fun c l=>
 oP E (xT c 0) l fun m n=>
 oP E (xT c 1) n fun b o=>
 oP E (bC .eql 3 19 b (vI 10)) o fun p d=>
 xcond p
 (oP E (xV (Instr.build 28 #[(0,(vI 1)),(1,(vI 1))])) d fun q r=>
 oP E (sA 28 a q) r fun _ e=>
 xcell pG 28 a e fun s=>
 R (Value.tuple #[(nS),s,b]) e)
 (oP E (bC .neq 3 23 b (vI 0)) d fun t f=>
 xcond t
 (oP E (xCall (fC 59) [x0,m]) f fun u v=>
 oP E (sA 28 a u) v fun _ g=>
 xcell pG 28 a g fun y=>
 R (Value.tuple #[(nS),y,b]) g)
 (oP E (xV (Instr.build 28 #[(0,(vI 1)),(1,(vI 1))])) f fun z aa=>
 oP E (xV (Instr.alloc 28 true (.tuple #[]))) aa fun i ab=>
 oP E (sA 28 i z) ab fun _ ac=>
 xloop [7,9] [(nS),(vI 0)] ac fun j ad next1=>
 c3K x0 a (j 7) i (j 9) ad next1 R E))
def h22:Hint:=(sQ (sQ (hS (sQ (hC (sQ hN) hN)) (hS (sQ (hC (sQ hN) hN)) (sQ (sQ (sQ (hB (hL [7,9] (hB (sQ (sQ (hS (sQ (hC (sQ hN) hN)) (hS (sQ (hC (hS (.reg [(0,2251799813685248,256),(0,4,0),(3,0,2251799813685256),(7,16,0)] [0,1,0,1] (.early 1 (.load 0 (.step 2 (.early 3 .done))))) hN) hN)) (sQ (hS (sQ (hC (hS (.reg [(0,2305843009213693952,256),(0,4611686018427387904,8192),(0,4,0),(5,0,2305843009213693960),(15,16,4611686018427387904)] [0,1,1,0,1] (.early 1 (.early 2 (.load 0 (.step 3 (.early 4 .done)))))) hN) hN)) (sQ (sQ (sQ hN)))))))))))))))))))
theorem c9X {x0:Value} (h:F22 x0 w R E):Cv pG 22 #[x0] w R E:=okF (h:=h22) Tryz.func22 (by kernel_rfl) (by kernel_rfl) h
def F23 (x0 x1 w) (R:RT) (E):=
 oP E (xCall (fC 63) [x0]) w fun e f=>
 oP E (xV (Instr.alloc 103 true (.tuple #[]))) f fun c g=>
 oP E (sA 103 c e) g fun _ i=>
 oP E (xNil x0) i fun j k=>
 oP E (fA 66 j 2) k fun l m=>
 oP E (lA 3 l) m fun n o=>
 oP E (bC .eql 3 11 n (vI 0)) o fun a p=>
 oP E (gT a (fA 103 c 0)) p fun q r=>
 oP E (gT a (lA 3 q)) r fun s t=>
 oP E (gT a (bC .eql 3 15 s (vI 3))) t fun d u=>
 oP E (gsem (asB (zT a d)) false (fA 103 c 0)) u fun v y=>
 oP E (gsem (asB (zT a d)) false (lA 3 v)) y fun z aa=>
 oP E (gsem (asB (zT a d)) false (bC .eql 3 19 z (vI 4))) aa fun ab ac=>
 oP E (gT a (xPick (zT a d) (vB true) ab)) ac fun ad ae=>
 oP E (xPick a ad (vB false)) ae fun b af=>
 oP E (gT b (fA 103 c 1)) af fun ag ah=>
 oP E (gT b (lA 9 ag)) ah fun ai aj=>
 oP E (gT b (bN .eql 9 25 26 ai (zT b x1))) aj fun ak al=>
 oP E (xPick b ak (vB false)) al fun am an=>
 R am an
def h23:Hint:=(sQ (sQ (sQ hN)))
theorem c9Y {x0 x1:Value} (h:F23 x0 x1 w R E):Cv pG 23 #[x0,x1] w R E:=okF (h:=h23) Tryz.func23 (by kernel_rfl) (by kernel_rfl) h
def b9g (x0 x2 w) (R:RT) (E):=
 ∀_τ:Fr,(dX w fun a=>
 qP pG (xNil x0) fun e=>
 qP pG (fA 66 e 3) fun d=>
 qP pG (xNil x0) fun f=>
 qP pG (fA 66 f 2) fun b=>
 qL pG a (blk d) (lA 28 d) fun g=>
 qL pG a (blk b) (lA 3 b) fun i=>
 oP E (sA 28 x2 g) a fun _ c=>
 keepX [(blk b)] a c (xcell pG 28 x2 c fun j=>
 R (Value.tuple #[j,i]) c))
def F27 (x0 w) (R:RT) (E):=
 oP E (xV (Instr.alloc 28 true (.tuple #[]))) w fun c d=>
 xcut (fun _ e=>b9g x0 c e R E) fun j1=>
 oP E (xNil x0) d fun f g=>
 oP E (fA 66 f 2) g fun i j=>
 oP E (lA 3 i) j fun k l=>
 oP E (bC .eql 3 7 k (vI 0)) l fun a m=>
 oP E (gT a (xCall (fC 63) [(zT a x0)])) m fun n o=>
 oP E (gT a (xV (Instr.field 103 n 0))) o fun p q=>
 oP E (gT a (bC .neq 3 12 p (vI 5))) q fun r s=>
 oP E (xPick a r (vB false)) s fun t b=>
 xcond t
 (oP E (xCall (fC 66) [x0,(vI 40)]) b fun _t16_31 u=>
 j1 [] u)
 (j1 [] b)
def h27:Hint:=(sQ (hU [] (sQ (hC hN hN)) (hS (.reg [(0,131072,1),(1,262144,131072),(2,524288,262144),(4,1048576,524288),(0,2097152,1),(16,4194304,2097152),(32,8388608,4194304),(64,16777216,8388608),(15,0,1048580),(511,8,16777216)] [136,136,136,128,136,136,136,8,128,136] (.early 0 (.early 1 (.early 2 (.early 4 (.early 5 (.early 6 (.load 3 (.load 7 (.step 8 (.early 9 .done))))))))))) hN)))
theorem c9Z {x0:Value} (h:F27 x0 w R E):Cv pG 27 #[x0] w R E:=okF (h:=h27) Tryz.func27 (by kernel_rfl) (by kernel_rfl) h
def F28 (x0 x1 w) (R:RT) (E):=
 oP E (xV (Instr.alloc 28 true (.tuple #[]))) w fun a p=>
 oP E (bC .eql 3 6 x1 (vI 32)) p fun q f=>
 xcond q
 (dX f fun b=>
 qP pG (xNil x0) fun r=>
 qP pG (fA 66 r 0) fun g=>
 qP pG (xNil x0) fun s=>
 qP pG (fA 66 s 0) fun i=>
 qL pG b (blk g) (lA 61 g) fun t=>
 qL pG b (blk i) (lA 61 i) fun u=>
 qP pG (xBuiltin .len #[61] 3 [false] [u]) fun v=>
 qP pG (bC .sub 3 17 v (vI 1)) fun y=>
 qP pG (iA 61 t y) fun z=>
 qP pG (fA 103 z 3) fun j=>
 qL pG b (blk j) (lA 28 j) fun aa=>
 oP E (sA 28 a aa) b fun _ d=>
 keepX [] b d (xcell pG 28 a d fun ab=>
 R (Value.tuple #[ab,(vI 41)]) d))
 (oP E (bC .eql 3 6 x1 (vI 33)) f fun ac k=>
 xcond ac
 (dX k fun c=>
 qP pG (xNil x0) fun ad=>
 qP pG (fA 66 ad 0) fun l=>
 qP pG (xNil x0) fun ae=>
 qP pG (fA 66 ae 0) fun m=>
 qL pG c (blk l) (lA 61 l) fun af=>
 qL pG c (blk m) (lA 61 m) fun ag=>
 qP pG (xBuiltin .len #[61] 3 [false] [ag]) fun ah=>
 qP pG (bC .sub 3 32 ah (vI 1)) fun ai=>
 qP pG (iA 61 af ai) fun aj=>
 qP pG (fA 103 aj 3) fun n=>
 qL pG c (blk n) (lA 28 n) fun ak=>
 oP E (sA 28 a ak) c fun _ e=>
 keepX [] c e (xcell pG 28 a e fun al=>
 R (Value.tuple #[al,(vI 42)]) e))
 (oP E (xV (Instr.build 28 #[])) k fun am an=>
 oP E (sA 28 a am) an fun _ o=>
 xcell pG 28 a o fun ao=>
 R (Value.tuple #[ao,(vI 0)]) o))
def h28:Hint:=(sQ (hS (sQ (hB (sQ (hC (hS (.reg [(0,512,1),(1,1024,512),(2,2048,1024),(4,4096,2048),(0,8192,1),(16,16384,8192),(32,32768,16384),(64,65536,32768),(128,131072,65536),(256,262144,131072),(520,524288,266240),(1024,1048576,524288),(2048,2097152,1048576),(8191,0,2097168),(16383,32,0)] [4232,4232,4232,4224,4232,4232,4232,4104,4232,4232,4232,4232,136,0,4232] (.early 0 (.early 1 (.early 2 (.early 4 (.early 5 (.early 6 (.load 3 (.load 7 (.early 8 (.early 9 (.early 10 (.early 11 (.load 12 (.step 13 (.early 14 .done)))))))))))))))) hN) (sQ (hC (hS (.reg [(0,16777216,1),(1,33554432,16777216),(2,67108864,33554432),(4,134217728,67108864),(0,268435456,1),(16,536870912,268435456),(32,1073741824,536870912),(64,2147483648,1073741824),(128,4294967296,2147483648),(256,8589934592,4294967296),(520,17179869184,8724152320),(1024,34359738368,17179869184),(2048,68719476736,34359738368),(8191,0,68719476752),(16383,32,0)] [4232,4232,4232,4224,4232,4232,4232,4104,4232,4232,4232,4232,136,0,4232] (.early 0 (.early 1 (.early 2 (.early 4 (.early 5 (.early 6 (.load 3 (.load 7 (.early 8 (.early 9 (.early 10 (.early 11 (.load 12 (.step 13 (.early 14 .done)))))))))))))))) hN) hN)))))) (sQ hN)))
theorem d0a {x0 x1:Value} (h:F28 x0 x1 w R E):Cv pG 28 #[x0,x1] w R E:=okF (h:=h28) Tryz.func28 (by kernel_rfl) (by kernel_rfl) h
def F32 (x0 w) (R:RT) (E):=
 oP E (xV (Instr.box 26 x0)) w fun g k=>
 dX k fun a=>
 qP pG (fA 26 g 0) fun i=>
 qP pG (fA 26 g 1) fun b=>
 qL pG a (blk i) (lA 23 i) fun l=>
 qL pG a (blk b) (lA 24 b) fun m=>
 oP E (xCall (fC 76) [l,(fC 77)]) a fun n c=>
 keepX [(blk b)] a c (opK pG E (xCall (fC 78) [m,(fC 79)]) c fun o d=>
 keepX [] c d (opK pG E (xV (Instr.buildSlice 172 2 #[(0,n),(1,o)])) d fun p e=>
 keepX [] d e (opK pG E (xCall (fC 75) [p]) e fun q f=>
 keepX [] e f (opK pG E (xCall (fC 74) [q]) f fun r j=>
 keepX [] f j (R r j)))))
def h32:Hint:=(sQ (hS (.reg [(0,8,2),(1,16,8),(2,32,16),(0,64,2),(8,128,64),(20,256,128),(36,512,288),(96,1024,512),(128,2048,1024),(511,4,2048)] [18,16,16,18,2,0,0,0,0,18] (.early 0 (.early 3 (.load 1 (.load 4 (.step 2 (.step 5 (.step 6 (.step 7 (.step 8 (.early 9 .done))))))))))) hN))
theorem d0b {x0:Value} (h:F32 x0 w R E):Cv pG 32 #[x0] w R E:=okF (h:=h32) Tryz.func32 (by kernel_rfl) (by kernel_rfl) h
def F34 (x0 w) (R:RT) (E):=
 oP E (xV (Instr.alloc 40 true (.tuple #[]))) w fun a c=>
 oP E (xCall (fC 35) [x0,(vI 1)]) c fun d e=>
 oP E (sA 40 a d) e fun _ b=>
 xcell pG 40 a b fun f=>
 R f b
def h34:Hint:=(sQ (sQ hN))
theorem d0c {x0:Value} (h:F34 x0 w R E):Cv pG 34 #[x0] w R E:=okF (h:=h34) Tryz.func34 (by kernel_rfl) (by kernel_rfl) h
def F35 (x0 x1 w) (R:RT) (E):=
 oP E (xV (Instr.alloc 40 true (.tuple #[]))) w fun a c=>
 oP E (xV (Instr.buildSlice 77 2 #[(0,(Value.string ⟨#[43]⟩)),(1,(Value.string ⟨#[45]⟩))])) c fun d e=>
 oP E (xV (Instr.buildSlice 137 2 #[(0,(vI 6)),(1,(vI 7))])) e fun f g=>
 oP E (xV (Instr.makeFunc (.func 82) #[x0] #[])) g fun i j=>
 oP E (xV (Instr.build 139 #[(0,d),(1,f),(2,i)])) j fun k l=>
 oP E (xCall (fC 81) [x0,x1,k]) l fun m n=>
 oP E (sA 40 a m) n fun _ b=>
 xcell pG 40 a b fun o=>
 R o b
def h35:Hint:=(sQ (sQ hN))
theorem d0d {x0 x1:Value} (h:F35 x0 x1 w R E):Cv pG 35 #[x0,x1] w R E:=okF (h:=h35) Tryz.func35 (by kernel_rfl) (by kernel_rfl) h
def F36 (x0 w) (R:RT) (E):=
 oP E (xV (Instr.box 40 x0)) w fun a b=>
 oP E (lA 40 a) b fun c d=>
 oP E (xV (Instr.build 141 #[(0,c)])) d fun e f=>
 oP E (xV (Instr.makeInterface 141 e)) f fun g i=>
 oP E (xV (Instr.buildSlice 128 1 #[(0,g)])) i fun j k=>
 oP E (xCall (fC 74) [j]) k fun l m=>
 oP E (xNil l) m fun n o=>
 oP E (fA 79 n 2) o fun p q=>
 oP E (lA 29 p) q fun r s=>
 R r s
def h36:Hint:=(sQ (sQ hN))
theorem d0e {x0:Value} (h:F36 x0 w R E):Cv pG 36 #[x0] w R E:=okF (h:=h36) Tryz.func36 (by kernel_rfl) (by kernel_rfl) h
def b9h (x4 x5 w) (R:RT) (E):=
 ∀_τ:Fr,(oP E (lA 40 x5) w fun b c=>
 oP E (sA 40 x4 b) c fun _ a=>
 xcell pG 40 x4 a fun d=>
 R d a)
def b9i (x0 x1 _x4 x5 x6:Value) (w) (next2:NT) (_R:RT) (E):=
 ∀_τ:Fr,(oP E (xNil x0) w fun e f=>
 oP E (fA 66 e 1) f fun g i=>
 oP E (lA 3 g) i fun j k=>
 oP E (bC .add 3 21 j (vI 1)) k fun l m=>
 oP E (xNil x0) m fun n o=>
 oP E (fA 66 n 1) o fun p q=>
 oP E (sA 3 p l) q fun _ r=>
 dX r fun a=>
 qL pG a (blk x5) (lA 40 x5) fun s=>
 oP E (xCall (fC 83) [x0,x1]) a fun t b=>
 keepX [(blk x5)] a b (opK pG E (xV (Instr.buildSlice 38 2 #[(0,s),(1,t)])) b fun u c=>
 keepX [] b c (qP pG (xV (Instr.build 40 #[(0,x6),(3,u)])) fun v=>
 oP E (sA 40 x5 v) c fun _ d=>
 keepX [] c d (next2 [] d))))
def c3L (x0 x1 x4 x5 w) (next2:NT) (j1:NT) (R:RT) (E):=
 oP E (xCall (fC 23) [x0,(Value.string ⟨#[43]⟩)]) w fun a d=>
 oP E (gF a (xCall (fC 23) [(zF a x0),(Value.string ⟨#[45]⟩)])) d fun e f=>
 oP E (xPick a (vB true) e) f fun g b=>
 xcond g
 (xcut (fun i j=>b9i x0 x1 x4 x5 (nth i 0) j next2 R E) fun j3=>
 oP E (xCall (fC 23) [x0,(Value.string ⟨#[45]⟩)]) b fun k c=>
 xcond k
 (j3 [(vI 7)] c)
 (j3 [(vI 6)] c))
 (j1 [] b)
def F37 (x0 x1 w) (R:RT) (E):=
 oP E (xV (Instr.alloc 40 true (.tuple #[]))) w fun b c=>
 oP E (xCall (fC 83) [x0,x1]) c fun d e=>
 oP E (xV (Instr.alloc 40 true (.tuple #[]))) e fun a f=>
 oP E (sA 40 a d) f fun _ g=>
 xcut (fun _ i=>b9h b a i R E) fun j1=>
 xloop [] [] g fun _ j next2=>
 c3L x0 x1 b a j next2 j1 R E
def h37:Hint:=(sQ (sQ (hU [] (hB (hL [] (hS (sQ (hC hN hN)) (hB (sQ (hU [6] (sQ (hC hN hN)) (sQ (.reg [(0,33554432,64),(0,67108864,32),(0,134217728,1),(0,268435456,2),(12,536870912,402653184),(18,1073741824,603979776),(33,2147483648,1107296256),(127,0,2147483680)] [2,0,2,2,2,0,2,0] (.early 0 (.early 2 (.early 3 (.load 1 (.step 4 (.step 5 (.early 6 (.step 7 .done)))))))))))))))) (sQ hN))))
theorem d0f {x0 x1:Value} (h:F37 x0 x1 w R E):Cv pG 37 #[x0,x1] w R E:=okF (h:=h37) Tryz.func37 (by kernel_rfl) (by kernel_rfl) h
def F38 (x0 w) (R:RT) (E):=
 oP E (xV (Instr.box 40 x0)) w fun c e=>
 oP E (xV (Instr.build 120 #[])) e fun f g=>
 oP E (xV (Instr.alloc 120 true (.tuple #[]))) g fun a i=>
 oP E (sA 120 a f) i fun _ j=>
 oP E (lA 40 c) j fun k l=>
 oP E (xCall (fC 84) [a,k,(vI 1)]) l fun _t7_11 m=>
 oP E (fA 120 a 2) m fun n o=>
 oP E (lA 3 n) o fun p q=>
 oP E (bC .neq 3 9 p (vI 0)) q fun r d=>
 xcond r
 (oP E (fA 120 a 2) d fun s t=>
 oP E (lA 3 s) t fun u v=>
 R u v)
 (oP E (xV (Instr.build 123 #[(0,(vB true)),(1,(vB true))])) d fun y z=>
 oP E (xV (Instr.alloc 123 true (.tuple #[]))) z fun b aa=>
 oP E (sA 123 b y) aa fun _ ab=>
 oP E (lA 40 c) ab fun ac ad=>
 oP E (xCall (fC 85) [b,ac]) ad fun _t15_31 ae=>
 oP E (lA 123 b) ae fun af ag=>
 oP E (xCall (fC 73) [af]) ag fun ah ai=>
 R ah ai)
def h38:Hint:=(sQ (sQ (sQ (hS (sQ (hC (sQ hN) hN)) (sQ (sQ (sQ hN)))))))
theorem d0g {x0:Value} (h:F38 x0 w R E):Cv pG 38 #[x0] w R E:=okF (h:=h38) Tryz.func38 (by kernel_rfl) (by kernel_rfl) h
def F40 (x0 w) (R:RT) (E):=
 oP E (xV (Instr.alloc 49 true (.tuple #[]))) w fun a c=>
 oP E (xCall (fC 41) [x0,(vI 1)]) c fun d e=>
 oP E (sA 49 a d) e fun _ b=>
 xcell pG 49 a b fun f=>
 R f b
def h40:Hint:=(sQ (sQ hN))
theorem d0h {x0:Value} (h:F40 x0 w R E):Cv pG 40 #[x0] w R E:=okF (h:=h40) Tryz.func40 (by kernel_rfl) (by kernel_rfl) h
def F41 (x0 x1 w) (R:RT) (E):=
 oP E (xV (Instr.box 60 x0)) w fun a d=>
 oP E (xV (Instr.alloc 49 true (.tuple #[]))) d fun b e=>
 oP E (xV (Instr.makeFunc (.func 87) #[] #[a])) e fun f g=>
 oP E (lA 60 a) g fun i j=>
 oP E (xCall (fC 88) [i,x1,(Value.string ⟨#[124,124]⟩),(vI 6),f]) j fun k l=>
 oP E (sA 49 b k) l fun _ c=>
 xcell pG 49 b c fun m=>
 R m c
def h41:Hint:=(sQ (sQ (sQ hN)))
theorem d0i {x0 x1:Value} (h:F41 x0 x1 w R E):Cv pG 41 #[x0,x1] w R E:=okF (h:=h41) Tryz.func41 (by kernel_rfl) (by kernel_rfl) h
def F42 (x0 w) (R:RT) (E):=
 oP E (xV (Instr.box 49 x0)) w fun a b=>
 oP E (lA 49 a) b fun c d=>
 oP E (xV (Instr.build 146 #[(0,c)])) d fun e f=>
 oP E (xV (Instr.makeInterface 146 e)) f fun g i=>
 oP E (xV (Instr.buildSlice 128 1 #[(0,g)])) i fun j k=>
 oP E (xCall (fC 74) [j]) k fun l m=>
 oP E (xNil l) m fun n o=>
 oP E (fA 79 n 2) o fun p q=>
 oP E (lA 29 p) q fun r s=>
 R r s
def h42:Hint:=(sQ (sQ hN))
theorem d0j {x0:Value} (h:F42 x0 w R E):Cv pG 42 #[x0] w R E:=okF (h:=h42) Tryz.func42 (by kernel_rfl) (by kernel_rfl) h
def b9j (x4 x5 w) (R:RT) (E):=
 ∀_τ:Fr,(oP E (lA 49 x5) w fun b c=>
 oP E (sA 49 x4 b) c fun _ a=>
 xcell pG 49 x4 a fun d=>
 R d a)
def c3M (x0 x1 _x4 x5:Value) (w) (next2:NT) (j1:NT) (_R:RT) (E):=
 oP E (xCall (fC 67) [x0,(Value.string ⟨#[124,124]⟩)]) w fun f d=>
 xcond f
 (dX d fun a=>
 qL pG a (blk x5) (lA 49 x5) fun g=>
 oP E (xCall (fC 90) [x0,x1]) a fun i b=>
 keepX [(blk x5)] a b (opK pG E (xV (Instr.buildSlice 47 2 #[(0,g),(1,i)])) b fun j c=>
 keepX [] b c (qP pG (xV (Instr.build 49 #[(0,(vI 6)),(3,j)])) fun k=>
 oP E (sA 49 x5 k) c fun _ e=>
 keepX [] c e (next2 [] e))))
 (j1 [] d)
def F43 (x0 x1 w) (R:RT) (E):=
 oP E (xV (Instr.alloc 49 true (.tuple #[]))) w fun b c=>
 oP E (xCall (fC 90) [x0,x1]) c fun d e=>
 oP E (xV (Instr.alloc 49 true (.tuple #[]))) e fun a f=>
 oP E (sA 49 a d) f fun _ g=>
 xcut (fun _ i=>b9j b a i R E) fun j1=>
 xloop [] [] g fun _ j next2=>
 c3M x0 x1 b a j next2 j1 R E
def h43:Hint:=(sQ (sQ (hU [] (hB (hL [] (hS (sQ (hC hN hN)) (hB (.reg [(0,2048,32),(0,4096,1),(0,8192,2),(6,16384,12288),(9,32768,18432),(16,65536,32768),(63,0,65568)] [0,1,1,1,0,1,0] (.early 1 (.early 2 (.load 0 (.step 3 (.step 4 (.early 5 (.step 6 .done)))))))))))) (sQ hN))))
theorem d0k {x0 x1:Value} (h:F43 x0 x1 w R E):Cv pG 43 #[x0,x1] w R E:=okF (h:=h43) Tryz.func43 (by kernel_rfl) (by kernel_rfl) h
def F44 (x0 w) (R:RT) (E):=
 oP E (xV (Instr.box 49 x0)) w fun c e=>
 oP E (xV (Instr.build 120 #[])) e fun f g=>
 oP E (xV (Instr.alloc 120 true (.tuple #[]))) g fun a i=>
 oP E (sA 120 a f) i fun _ j=>
 oP E (lA 49 c) j fun k l=>
 oP E (xCall (fC 91) [a,k,(vI 1)]) l fun _t7_11 m=>
 oP E (fA 120 a 2) m fun n o=>
 oP E (lA 3 n) o fun p q=>
 oP E (bC .neq 3 9 p (vI 0)) q fun r d=>
 xcond r
 (oP E (fA 120 a 2) d fun s t=>
 oP E (lA 3 s) t fun u v=>
 R u v)
 (oP E (xV (Instr.build 123 #[(0,(vB true)),(1,(vB true))])) d fun y z=>
 oP E (xV (Instr.alloc 123 true (.tuple #[]))) z fun b aa=>
 oP E (sA 123 b y) aa fun _ ab=>
 oP E (lA 49 c) ab fun ac ad=>
 oP E (xCall (fC 92) [b,ac]) ad fun _t15_31 ae=>
 oP E (lA 123 b) ae fun af ag=>
 oP E (xCall (fC 73) [af]) ag fun ah ai=>
 R ah ai)
def h44:Hint:=(sQ (sQ (sQ (hS (sQ (hC (sQ hN) hN)) (sQ (sQ (sQ hN)))))))
theorem d0l {x0:Value} (h:F44 x0 w R E):Cv pG 44 #[x0] w R E:=okF (h:=h44) Tryz.func44 (by kernel_rfl) (by kernel_rfl) h
def c3N (x3 x7 w) (R:RT) (E):=
 ∀_τ:Fr,(dX w fun a=>
 qP pG (xNil x7) fun g=>
 qP pG (fA 155 g 3) fun b=>
 qP pG (xNil x7) fun i=>
 qP pG (fA 155 i 2) fun f=>
 qP pG (xV (Instr.build 28 #[])) fun j=>
 qL pG a (blk b) (lA 61 b) fun k=>
 qL pG a (blk f) (lA 28 f) fun l=>
 qP pG (xV (Instr.build 103 #[(0,(vI 5)),(3,l)])) fun m=>
 oP E (xV (Instr.buildSlice 61 1 #[(0,m)])) a fun n c=>
 keepX [(blk b)] a c (opK pG E (xBuiltin .append #[61,61] 61 [false,false] [k,n]) c fun o d=>
 keepX [] c d (opK pG E (sA 28 x3 j) d fun _ e=>
 keepX [] d e (xcell pG 28 x3 e fun p=>
 R (Value.tuple #[o,p,(vI 0)]) e))))
def c3O (x0 x3 x7 w) (next2:NT) (j1:NT) (R:RT) (E):=
 oP E (xNil x7) w fun s t=>
 oP E (fA 155 s 1) t fun u v=>
 oP E (lA 3 u) v fun y z=>
 oP E (xBuiltin .len #[9] 3 [false] [x0]) z fun aa ab=>
 oP E (bN .lss 3 34 36 y aa) ab fun ac l=>
 xcond ac
 (oP E (xNil x7) l fun ad ae=>
 oP E (fA 155 ad 2) ae fun af ag=>
 oP E (lA 28 af) ag fun ah ai=>
 oP E (xV (Instr.alloc 28 true (.tuple #[]))) ai fun a aj=>
 oP E (sA 28 a ah) aj fun _ ak=>
 oP E (xNil x7) ak fun al am=>
 oP E (fA 155 al 3) am fun an ao=>
 oP E (lA 61 an) ao fun ap aq=>
 oP E (xBuiltin .len #[61] 3 [false] [ap]) aq fun ar au=>
 oP E (bC .eql 3 48 ar (vI 32768)) au fun av m=>
 xcond av
 (dX m fun d=>
 qL pG d (blk a) (lA 28 a) fun aw=>
 oP E (sA 28 x3 aw) d fun _ e=>
 keepX [] d e (xcell pG 28 x3 e fun ax=>
 R (Value.tuple #[(nS),ax,(vI 23)]) e))
 (oP E (xCall (fC 100) [x7]) m fun n ay=>
 oP E (xT n 0) ay fun az ba=>
 oP E (xT n 1) ba fun _t55_81 bb=>
 oP E (xCall (fC 101) [x7,az]) bb fun bc bd=>
 oP E (xCall bc []) bd fun o be=>
 oP E (xT o 0) be fun bf bg=>
 oP E (xT o 1) bg fun p bh=>
 oP E (xV (Instr.alloc 103 true (.tuple #[]))) bh fun b bi=>
 oP E (sA 103 b bf) bi fun _ bj=>
 oP E (bC .neq 29 63 p (vI 0)) bj fun bk q=>
 xcond bk
 (dX q fun f=>
 qL pG f (blk a) (lA 28 a) fun bl=>
 oP E (sA 28 x3 bl) f fun _ g=>
 keepX [] f g (xcell pG 28 x3 g fun bm=>
 R (Value.tuple #[(nS),bm,p]) g))
 (oP E (lA 28 a) q fun bn bo=>
 oP E (fA 103 b 3) bo fun bp bq=>
 oP E (sA 28 bp bn) bq fun _ br=>
 dX br fun c=>
 qP pG (xNil x7) fun bs=>
 qP pG (fA 155 bs 3) fun i=>
 qL pG c (blk i) (lA 61 i) fun bt=>
 qL pG c (blk b) (lA 103 b) fun bu=>
 oP E (xV (Instr.buildSlice 61 1 #[(0,bu)])) c fun bv j=>
 keepX [(blk i)] c j (opK pG E (xBuiltin .append #[61,61] 61 [false,false] [bt,bv]) j fun bw k=>
 keepX [] j k (qP pG (xNil x7) fun bz=>
 qP pG (fA 155 bz 3) fun ca=>
 oP E (sA 61 ca bw) k fun _ r=>
 keepX [] k r (opK pG E (xCall (fC 99) [x7]) r fun _t39_121 cb=>
 next2 [] cb))))))
 (j1 [] l)
def F49 (x0 w) (R:RT) (E):=
 oP E (xV (Instr.alloc 28 true (.tuple #[]))) w fun a g=>
 oP E (xCall (fC 97) [x0]) g fun c i=>
 oP E (xT c 0) i fun j k=>
 oP E (xT c 1) k fun d l=>
 oP E (bC .neq 29 18 d (vI 0)) l fun m e=>
 xcond m
 (oP E (xCall (fC 98) [x0,j]) e fun n o=>
 oP E (sA 28 a n) o fun _ f=>
 xcell pG 28 a f fun p=>
 R (Value.tuple #[(nS),p,d]) f)
 (oP E (xCall (fC 98) [x0,(vI 0)]) e fun q r=>
 oP E (xV (Instr.build 155 #[(0,x0),(2,q)])) r fun s t=>
 oP E (xV (Instr.box 155 s)) t fun b u=>
 xcut (fun _ v=>c3N a b v R E) fun j1=>
 oP E (xCall (fC 99) [b]) u fun _t30_40 y=>
 xloop [] [] y fun _ z next2=>
 c3O x0 a b z next2 j1 R E)
def h49:Hint:=(sQ (hS (sQ (sQ (hC (sQ hN) hN))) (sQ (hU [] (sQ (hB (hL [] (hS (sQ (hC hN hN)) (hS (hB (sQ (hS (sQ (hC (hS (.reg [(0,1125899906842624,256),(0,4,0),(3,0,1125899906842632),(7,16,0)] [0,1,0,1] (.early 1 (.load 0 (.step 2 (.early 3 .done))))) hN) hN)) (sQ (sQ (hS (sQ (hC (hS (.reg [(0,36893488147419103232,256),(0,73786976294838206464,4096),(0,4,0),(5,0,36893488147419103240),(15,16,73786976294838206464)] [0,1,1,0,1] (.early 1 (.early 2 (.load 0 (.step 3 (.early 4 .done)))))) hN) hN)) (sQ (.reg [(0,590295810358705651712,128),(0,1180591620717411303424,128),(2,2361183241434822606848,1180591620717411303424),(4,4722366482869645213696,2361183241434822606848),(8,9444732965739290427392,4722366482869645213696),(0,18889465931478580854784,2048),(32,37778931862957161709568,18889465931478580854784),(80,75557863725914323419136,47223664828696452136960),(255,151115727451828646838272,590295810358705651712),(511,302231454903657293676544,151115727451828646838272),(767,0,377789318629571617095680)] [48,48,48,48,32,16,16,0,48,48,0] (.early 0 (.early 1 (.early 2 (.early 3 (.load 4 (.load 5 (.step 6 (.step 7 (.early 8 (.early 9 (.step 10 .done))))))))))))))))))) hN))))) (hS (.reg [(0,604462909807314587353088,128),(1,1208925819614629174706176,604462909807314587353088),(2,2417851639229258349412352,1208925819614629174706176),(4,4835703278458516698824704,2417851639229258349412352),(0,9671406556917033397649408,128),(16,19342813113834066795298816,9671406556917033397649408),(32,38685626227668133590597632,19342813113834066795298816),(64,77371252455336267181195264,38685626227668133590597632),(128,154742504910672534362390528,77371252455336267181195264),(256,309485009821345068724781056,154742504910672534362390528),(520,618970019642690137449562112,314320713099803585423605760),(0,1237940039285380274899124224,0),(2047,4,618970019642690137449562112),(8191,0,1237940039285380274899124232),(16383,16,0)] [136,136,136,128,136,136,136,8,136,8,0,136,136,0,136] (.early 0 (.early 1 (.early 2 (.early 4 (.early 5 (.early 6 (.early 11 (.load 3 (.load 7 (.early 8 (.step 9 (.step 10 (.early 12 (.step 13 (.early 14 .done)))))))))))))))) hN)))))
theorem d0m {x0:Value} (h:F49 x0 w R E):Cv pG 49 #[x0] w R E:=okF (h:=h49) Tryz.func49 (by kernel_rfl) (by kernel_rfl) h
def F51 (x0 w) (R:RT) (E):=
 oP E (xV (Instr.alloc 103 true (.tuple #[]))) w fun c g=>
 dX g fun a=>
 qP pG (xNil x0) fun i=>
 qP pG (fA 101 i 0) fun d=>
 qP pG (xNil x0) fun j=>
 qP pG (fA 101 j 1) fun e=>
 qL pG a (blk d) (lA 61 d) fun k=>
 qL pG a (blk e) (lA 3 e) fun l=>
 qP pG (iA 61 k l) fun f=>
 qL pG a (blk f) (lA 103 f) fun m=>
 oP E (sA 103 c m) a fun _ b=>
 keepX [] a b (xcell pG 103 c b fun n=>
 R n b)
def h51:Hint:=(sQ (hS (.reg [(0,8,1),(1,16,8),(2,32,16),(4,64,32),(0,128,1),(16,256,128),(32,512,256),(64,1024,512),(136,2048,1088),(256,4096,2048),(1023,0,4100)] [648,648,648,640,648,648,648,520,648,136,0] (.early 0 (.early 1 (.early 2 (.early 4 (.early 5 (.early 6 (.load 3 (.load 7 (.early 8 (.load 9 (.step 10 .done)))))))))))) hN))
theorem d0n {x0:Value} (h:F51 x0 w R E):Cv pG 51 #[x0] w R E:=okF (h:=h51) Tryz.func51 (by kernel_rfl) (by kernel_rfl) h
def F52 (x0 w) (R:RT) (E):=
 oP E (xCall (fC 51) [x0]) w fun a b=>
 oP E (xV (Instr.field 103 a 3)) b fun c d=>
 oP E (xV (Instr.build 98 #[(0,c),(1,(vI 40))])) d fun e f=>
 oP E (xV (Instr.makeInterface 98 e)) f fun g i=>
 oP E (xV (Instr.panic g)) i fun _ j=>
 R (Value.tuple #[]) j
def h52:Hint:=hN
theorem d0o {x0:Value} (h:F52 x0 w R E):Cv pG 52 #[x0] w R E:=okF (h:=h52) Tryz.func52 (by kernel_rfl) (by kernel_rfl) h
def F53 (x0 x1 w) (R:RT) (E):=
 oP E (xCall (fC 51) [x0]) w fun d e=>
 oP E (xV (Instr.alloc 103 true (.tuple #[]))) e fun b f=>
 oP E (sA 103 b d) f fun _ g=>
 oP E (fA 103 b 0) g fun i j=>
 oP E (lA 3 i) j fun k l=>
 oP E (bC .eql 3 9 k (vI 3)) l fun c m=>
 oP E (gF c (fA 103 b 0)) m fun n o=>
 oP E (gF c (lA 3 n)) o fun p q=>
 oP E (gF c (bC .eql 3 13 p (vI 4))) q fun r s=>
 oP E (xPick c (vB true) r) s fun a t=>
 oP E (gT a (fA 103 b 1)) t fun u v=>
 oP E (gT a (lA 9 u)) v fun y z=>
 oP E (gT a (bN .eql 9 18 19 y (zT a x1))) z fun aa ab=>
 oP E (xPick a aa (vB false)) ab fun ac ad=>
 R ac ad
def h53:Hint:=(sQ (sQ (sQ hN)))
theorem d0p {x0 x1:Value} (h:F53 x0 x1 w R E):Cv pG 53 #[x0,x1] w R E:=okF (h:=h53) Tryz.func53 (by kernel_rfl) (by kernel_rfl) h
def b9k (x0 x2 x4 w) (R:RT) (E):=
 ∀_τ:Fr,(oP E (xCall (fC 103) [x0,(Value.string ⟨#[59]⟩)]) w fun _t46_29 b=>
 oP E (lA 68 x4) b fun c d=>
 oP E (sA 68 x2 c) d fun _ a=>
 xcell pG 68 x2 a fun e=>
 R e a)
def b9l (x0 _x2 x4:Value) (w) (j1:NT) (_R:RT) (E):=
 ∀_τ:Fr,(oP E (xCall (fC 104) [x0]) w fun a b=>
 oP E (xV (Instr.field 103 a 2)) b fun c d=>
 oP E (fA 68 x4 1) d fun e f=>
 oP E (sA 3 e c) f fun _ g=>
 oP E (xCall (fC 103) [x0,(Value.string ⟨#[93]⟩)]) g fun _t44_48 i=>
 j1 [] i)
def F54 (x0 w) (R:RT) (E):=
 oP E (xV (Instr.alloc 68 true (.tuple #[]))) w fun e i=>
 oP E (xCall (fC 53) [x0,(Value.string ⟨#[97,114,114,97,121]⟩)]) i fun j k=>
 oP E (xNil x0) k fun l m=>
 oP E (fA 101 l 1) m fun n o=>
 oP E (lA 3 n) o fun p q=>
 oP E (bC .add 3 11 p (vI 1)) q fun r s=>
 oP E (xNil x0) s fun t u=>
 oP E (fA 101 t 1) u fun v y=>
 oP E (sA 3 v r) y fun _ z=>
 oP E (xCall (fC 102) [x0,(vI 1)]) z fun aa ab=>
 oP E (xV (Instr.field 103 aa 1)) ab fun ac ad=>
 oP E (xV (Instr.build 68 #[(0,ac)])) ad fun ae af=>
 oP E (xV (Instr.alloc 68 true (.tuple #[]))) af fun d ag=>
 oP E (sA 68 d ae) ag fun _ f=>
 xcut (fun _ ah=>b9k x0 e d ah R E) fun j1=>
 xcond j
 (oP E (xCall (fC 103) [x0,(Value.string ⟨#[91]⟩)]) f fun _t21_38 ai=>
 xcut (fun _ aj=>b9l x0 e d aj j1 R E) fun j2=>
 oP E (xCall (fC 51) [x0]) ai fun ak al=>
 oP E (xV (Instr.alloc 103 true (.tuple #[]))) al fun a am=>
 oP E (sA 103 a ak) am fun _ an=>
 oP E (fA 103 a 0) an fun ao ap=>
 oP E (lA 3 ao) ap fun aq ar=>
 oP E (bC .neq 3 25 aq (vI 2)) ar fun b au=>
 oP E (gF b (fA 103 a 2)) au fun av aw=>
 oP E (gF b (lA 2 av)) aw fun ax ay=>
 oP E (gF b (bC .lss 2 29 ax (vI 1))) ay fun az ba=>
 oP E (xPick b (vB true) az) ba fun c bb=>
 oP E (gF c (fA 103 a 2)) bb fun bc bd=>
 oP E (gF c (lA 2 bc)) bd fun be bf=>
 oP E (gF c (bC .gtr 2 34 be (vI 2147483647))) bf fun bg bh=>
 oP E (xPick c (vB true) bg) bh fun bi g=>
 xcond bi
 (oP E (xCall (fC 52) [x0]) g fun _t38_80 bj=>
 j2 [] bj)
 (j2 [] g))
 (j1 [] f)
def h54:Hint:=(sQ (sQ (sQ (sQ (hU [] (sQ (hC (sQ (hU [] (sQ (sQ (hC hN hN))) (sQ hN))) hN)) (sQ (sQ hN)))))))
theorem d0q {x0:Value} (h:F54 x0 w R E):Cv pG 54 #[x0] w R E:=okF (h:=h54) Tryz.func54 (by kernel_rfl) (by kernel_rfl) h
def b9m (x0 x1 w) (R:RT) (E):=
 ∀_τ:Fr,(oP E (bC .gtr 3 10 x1 (vI 40)) w fun b a=>
 xcond b
 (oP E (xCall (fC 51) [x0]) a fun c d=>
 oP E (xV (Instr.field 103 c 3)) d fun e f=>
 oP E (xV (Instr.build 98 #[(0,e),(1,(vI 41))])) f fun g i=>
 oP E (xV (Instr.makeInterface 98 g)) i fun j k=>
 oP E (xV (Instr.panic j)) k fun _ l=>
 R (Value.tuple #[]) l)
 (R (Value.tuple #[]) a))
def F55 (x0 x1 x2 w) (R:RT) (E):=
 xcut (fun _ b=>b9m x0 x1 b R E) fun j1=>
 oP E (xV (Op.unary .not x2)) w fun c a=>
 xcond c
 (oP E (xCall (fC 52) [x0]) a fun _t9_17 d=>
 j1 [] d)
 (j1 [] a)
def h55:Hint:=(hU [] (sQ (hC hN hN)) (sQ (hC hN hN)))
theorem d0r {x0 x1 x2:Value} (h:F55 x0 x1 x2 w R E):Cv pG 55 #[x0,x1,x2] w R E:=okF (h:=h55) Tryz.func55 (by kernel_rfl) (by kernel_rfl) h
def F56 (x0 w) (R:RT) (E):=
 oP E (xCall (fC 51) [x0]) w fun f g=>
 oP E (xV (Instr.field 103 f 0)) g fun i j=>
 oP E (bC .eql 3 5 i (vI 1)) j fun a k=>
 oP E (gF a (xCall (fC 53) [(zF a x0),(Value.string ⟨#[105,102]⟩)])) k fun l m=>
 oP E (xPick a (vB true) l) m fun b n=>
 oP E (gF b (xCall (fC 53) [(zF b x0),(Value.string ⟨#[119,104,105,108,101]⟩)])) n fun o p=>
 oP E (xPick b (vB true) o) p fun c q=>
 oP E (gF c (xCall (fC 53) [(zF c x0),(Value.string ⟨#[97,115,115,101,114,116]⟩)])) q fun r s=>
 oP E (xPick c (vB true) r) s fun d t=>
 oP E (gF d (xCall (fC 53) [(zF d x0),(Value.string ⟨#[97,115,115,117,109,101]⟩)])) t fun u v=>
 oP E (xPick d (vB true) u) v fun e y=>
 oP E (gF e (xCall (fC 53) [(zF e x0),(Value.string ⟨#[115,107,105,112]⟩)])) y fun z aa=>
 oP E (xPick e (vB true) z) aa fun ab ac=>
 R ab ac
def h56:Hint:=(sQ (sQ hN))
theorem d0s {x0:Value} (h:F56 x0 w R E):Cv pG 56 #[x0] w R E:=okF (h:=h56) Tryz.func56 (by kernel_rfl) (by kernel_rfl) h
def b9n (x0 x4 x5 w) (R:RT) (E):=
 ∀_τ:Fr,(oP E (xCall (fC 103) [x0,(Value.string ⟨#[59]⟩)]) w fun _t96_11 b=>
 oP E (lA 56 x5) b fun c d=>
 oP E (sA 56 x4 c) d fun _ a=>
 xcell pG 56 x4 a fun e=>
 R e a)
def b9o (x0 x1 _x4 x5:Value) (w) (j1:NT) (_R:RT) (E):=
 ∀_τ:Fr,(oP E (xCall (fC 103) [x0,(Value.string ⟨#[61]⟩)]) w fun _t30_35 g=>
 dX g fun b=>
 qP pG (fA 56 x5 2) fun a=>
 qL pG b (blk a) (lA 38 a) fun i=>
 oP E (xCall (fC 35) [x0,x1]) b fun j c=>
 keepX [(blk a)] b c (opK pG E (xV (Instr.buildSlice 38 1 #[(0,j)])) c fun k d=>
 keepX [(blk a)] c d (opK pG E (xBuiltin .append #[38,38] 38 [false,false] [i,k]) d fun l e=>
 keepX [] d e (qP pG (fA 56 x5 2) fun m=>
 oP E (sA 38 m l) e fun _ f=>
 keepX [] e f (j1 [] f)))))
def b9p (x4 x5 w) (R:RT) (E):=
 ∀_τ:Fr,(oP E (lA 56 x5) w fun b c=>
 oP E (sA 56 x4 b) c fun _ a=>
 xcell pG 56 x4 a fun d=>
 R d a)
def F57 (x0 x1 w) (R:RT) (E):=
 oP E (xV (Instr.alloc 56 true (.tuple #[]))) w fun c y=>
 oP E (xV (Instr.alloc 56 true (.tuple #[]))) y fun a z=>
 oP E (xCall (fC 104) [x0]) z fun aa ab=>
 oP E (xV (Instr.alloc 103 true (.tuple #[]))) ab fun b ac=>
 oP E (sA 103 b aa) ac fun _ ad=>
 xcut (fun _ ae=>b9n x0 c a ae R E) fun j1=>
 oP E (fA 103 b 0) ad fun af ag=>
 oP E (lA 3 af) ag fun ah ai=>
 oP E (bC .eql 3 12 ah (vI 1)) ai fun aj m=>
 xcond aj
 (dX m fun e=>
 qP pG (fA 103 b 1) fun f=>
 qP pG (fA 56 a 0) fun ak=>
 qL pG e (blk f) (lA 9 f) fun al=>
 oP E (sA 3 ak (vI 1)) e fun _ g=>
 keepX [(blk f)] e g (qP pG (fA 56 a 1) fun am=>
 oP E (sA 9 am al) g fun _ n=>
 keepX [] g n (xcut (fun _ an=>b9o x0 x1 c a an j1 R E) fun j2=>
 oP E (xCall (fC 105) [x0,(Value.string ⟨#[91]⟩)]) n fun ao o=>
 xcond ao
 (oP E (fA 56 a 0) o fun ap aq=>
 oP E (sA 3 ap (vI 2)) aq fun _ ar=>
 dX ar fun i=>
 qP pG (fA 56 a 2) fun d=>
 qL pG i (blk d) (lA 38 d) fun au=>
 oP E (xCall (fC 106) [x0,x1,(Value.string ⟨#[93]⟩)]) i fun av j=>
 keepX [(blk d)] i j (opK pG E (xV (Instr.buildSlice 38 1 #[(0,av)])) j fun aw k=>
 keepX [(blk d)] j k (opK pG E (xBuiltin .append #[38,38] 38 [false,false] [au,aw]) k fun ax l=>
 keepX [] k l (qP pG (fA 56 a 2) fun ay=>
 oP E (sA 38 ay ax) l fun _ p=>
 keepX [] l p (j2 [] p)))))
 (j2 [] o))))
 (oP E (fA 103 b 1) m fun az ba=>
 oP E (lA 9 az) ba fun bb bc=>
 oP E (bC .eql 9 41 bb (Value.string ⟨#[105,102]⟩)) bc fun bd q=>
 xcond bd
 (oP E (xCall (fC 41) [x0,x1]) q fun be bf=>
 oP E (xV (Instr.buildSlice 47 1 #[(0,be)])) bf fun bg bh=>
 oP E (fA 56 a 0) bh fun bi bj=>
 oP E (sA 3 bi (vI 3)) bj fun _ bk=>
 oP E (fA 56 a 3) bk fun bl bm=>
 oP E (sA 47 bl bg) bm fun _ bn=>
 oP E (xCall (fC 107) [x0,x1]) bn fun bo bp=>
 oP E (fA 56 a 4) bp fun bq br=>
 oP E (sA 24 bq bo) br fun _ bs=>
 xcut (fun _ bt=>b9p c a bt R E) fun j3=>
 oP E (xCall (fC 105) [x0,(Value.string ⟨#[101,108,115,101]⟩)]) bs fun bu r=>
 xcond bu
 (oP E (xCall (fC 107) [x0,x1]) r fun bv bw=>
 oP E (fA 56 a 5) bw fun bz ca=>
 oP E (sA 24 bz bv) ca fun _ cb=>
 j3 [] cb)
 (j3 [] r))
 (oP E (fA 103 b 1) q fun cc cd=>
 oP E (lA 9 cc) cd fun ce cf=>
 oP E (bC .eql 9 62 ce (Value.string ⟨#[119,104,105,108,101]⟩)) cf fun cg s=>
 xcond cg
 (oP E (xCall (fC 41) [x0,x1]) s fun ch ci=>
 oP E (xV (Instr.buildSlice 47 1 #[(0,ch)])) ci fun cj ck=>
 oP E (fA 56 a 0) ck fun cl cm=>
 oP E (sA 3 cl (vI 4)) cm fun _ cn=>
 oP E (fA 56 a 3) cn fun co cp=>
 oP E (sA 47 co cj) cp fun _ cq=>
 oP E (xCall (fC 107) [x0,x1]) cq fun cr cs=>
 oP E (fA 56 a 4) cs fun ct cu=>
 oP E (sA 24 ct cr) cu fun _ cv=>
 oP E (lA 56 a) cv fun cw cx=>
 oP E (sA 56 c cw) cx fun _ t=>
 xcell pG 56 c t fun cy=>
 R cy t)
 (oP E (fA 103 b 1) s fun cz da=>
 oP E (lA 9 cz) da fun db dc=>
 oP E (bC .eql 9 77 db (Value.string ⟨#[97,115,115,101,114,116]⟩)) dc fun dd u=>
 xcond dd
 (oP E (xCall (fC 41) [x0,x1]) u fun de df=>
 oP E (xV (Instr.buildSlice 47 1 #[(0,de)])) df fun dg dh=>
 oP E (fA 56 a 0) dh fun di dj=>
 oP E (sA 3 di (vI 5)) dj fun _ dk=>
 oP E (fA 56 a 3) dk fun dl dm=>
 oP E (sA 47 dl dg) dm fun _ dn=>
 j1 [] dn)
 (oP E (fA 103 b 1) u fun dp dq=>
 oP E (lA 9 dp) dq fun dr ds=>
 oP E (bC .eql 9 87 dr (Value.string ⟨#[97,115,115,117,109,101]⟩)) ds fun dt v=>
 xcond dt
 (oP E (xCall (fC 41) [x0,x1]) v fun du dv=>
 oP E (xV (Instr.buildSlice 47 1 #[(0,du)])) dv fun dw dx=>
 oP E (fA 56 a 0) dx fun dy dz=>
 oP E (sA 3 dy (vI 6)) dz fun _ ea=>
 oP E (fA 56 a 3) ea fun eb ec=>
 oP E (sA 47 eb dw) ec fun _ ed=>
 j1 [] ed)
 (oP E (fA 56 a 0) v fun ee ef=>
 oP E (sA 3 ee (vI 7)) ef fun _ eg=>
 j1 [] eg)))))
def h57:Hint:=(sQ (sQ (sQ (hU [] (hB (sQ (hC (hS (.reg [(0,16384,64),(1,32768,16384),(0,65536,32),(4,0,65536),(15,131072,32),(31,0,163840)] [2,0,2,2,2,0] (.early 0 (.early 2 (.load 1 (.step 3 (.early 4 (.step 5 .done))))))) (hU [] (sQ (hC (sQ (.reg [(0,2097152,32),(1,4194304,2097152),(0,8388608,1),(0,16777216,2),(12,33554432,25165824),(16,67108864,33554432),(50,134217728,71303168),(127,268435456,32),(255,0,402653184)] [2,0,2,2,2,2,0,2,0] (.early 0 (.early 2 (.early 3 (.load 1 (.step 4 (.step 5 (.step 6 (.early 7 (.step 8 .done))))))))))) hN)) (sQ (.reg [(0,2147483648,32),(1,4294967296,2147483648),(0,8589934592,1),(0,17179869184,2),(12,34359738368,25769803776),(16,68719476736,34359738368),(50,137438953472,73014444032),(127,274877906944,32),(255,0,412316860416)] [2,0,2,2,2,2,0,2,0] (.early 0 (.early 2 (.early 3 (.load 1 (.step 4 (.step 5 (.step 6 (.early 7 (.step 8 .done))))))))))))) (sQ (hC (sQ (sQ (hU [] (sQ (hC hN hN)) (sQ hN)))) (sQ (hC (sQ (sQ (sQ hN))) (sQ (hC hN (sQ (hC hN hN))))))))))) (sQ (sQ hN))))))
theorem d0t {x0 x1:Value} (h:F57 x0 x1 w R E):Cv pG 57 #[x0,x1] w R E:=okF (h:=h57) Tryz.func57 (by kernel_rfl) (by kernel_rfl) h
end Go.Proofs.YthklmeihgmcljaaGreatDoor
