/- The second reading of some of the program's functions, printed by gen2.py off the code; each is held against the code by the kernel. -/
import Derived.KernelRfl
import Derived.Test.YthklmeihgmcljaaGreatDoorzTGz
namespace Go.Proofs.YthklmeihgmcljaaGreatDoor
open Go.RowKit
set_option maxRecDepth 100000
variable {w : World} {R : RT} {E : Pan}
def F3 (x0 w) (R : RT) (E) :=
 oP E (xCall (fC 8) []) w fun n o =>
 oP E (xV (Op.unary .not n)) o fun p f =>
 xcond p
 (R (vB false) f)
 (oP E (xCall (fC 9) [x0]) f fun d q =>
 oP E (xT d 0) q fun r s =>
 oP E (xT d 1) s fun t u =>
 oP E (xT d 2) u fun v y =>
 oP E (xV (Instr.alloc 26 true (.tuple #[]))) y fun b z =>
 oP E (xV (Instr.alloc 28 true (.tuple #[]))) z fun g aa =>
 oP E (sA 26 b r) aa fun _ ab =>
 oP E (sA 28 g t) ab fun _ ac =>
 oP E (xCall (fC 10) [x0]) ac fun e ad =>
 oP E (xT e 0) ad fun ae af =>
 oP E (xT e 1) af fun ag ah =>
 oP E (xT e 2) ah fun i ai =>
 oP E (xV (Instr.alloc 26 true (.tuple #[]))) ai fun j aj =>
 oP E (xV (Instr.alloc 28 true (.tuple #[]))) aj fun k ak =>
 oP E (sA 26 j ae) ak fun _ al =>
 oP E (sA 28 k ag) al fun _ am =>
 oP E (xBin .neq 3 (.tmp 23) (.tmp 24) v i) am fun c an =>
 oP E (gsem (asB c) false (lA 28 g)) an fun ao ap =>
 oP E (gsem (asB c) false (lA 28 k)) ap fun aq ar =>
 oP E (gsem (asB c) false (xBin .neq 28 (.tmp 27) (.tmp 28) ao aq)) ar fun au av =>
 oP E (xPick c (vB true) au) av fun aw l =>
 xcond aw
 (R (vB false) l)
 (oP E (xBin .neq 3 (.tmp 31) (.const (vI 0)) i (vI 0)) l fun ax m =>
 xcond ax
 (oP E (fA 26 b 0) m fun ay az =>
 oP E (lA 23 ay) az fun ba bb =>
 oP E (xBuiltin .len #[23] 3 [false] [ba]) bb fun bc bd =>
 oP E (xBin .eql 3 (.tmp 35) (.const (vI 0)) bc (vI 0)) bd fun a be =>
 oP E (gsem (asB a) true (fA 26 b 1)) be fun bf bg =>
 oP E (gsem (asB a) true (lA 24 bf)) bg fun bh bi =>
 oP E (gsem (asB a) true (xBuiltin .len #[24] 3 [false] [bh])) bi fun bj bk =>
 oP E (gsem (asB a) true (xBin .eql 3 (.tmp 40) (.const (vI 0)) bj (vI 0))) bk fun bl bm =>
 oP E (xPick a bl (vB false)) bm fun bn bo =>
 R bn bo)
 (oP E (lA 26 b) m fun bp bq =>
 oP E (lA 26 j) bq fun br bs =>
 oP E (xCall (fC 11) [bp, br]) bs fun bt bu =>
 R bt bu)))
def h3 : Hint := (sQ (hS (sQ (hC (sQ hN) hN)) (sQ (sQ (hS (sQ (hC (sQ hN) hN)) (hS (sQ (hC (sQ hN) hN)) (sQ hN)))))))
def c6J (x0 x5 x6 x9 x10 w) (R : RT) (E) :=
 ∀ _τ : Fr, (oP E (xBin .add 9 (.tmp 54) (.tmp 55) x10 x9) w fun k l =>
 oP E (xCall (fC 9) [k]) l fun e m =>
 oP E (xT e 0) m fun n o =>
 oP E (xT e 1) o fun p q =>
 oP E (xT e 2) q fun i r =>
 oP E (xV (Instr.alloc 26 true (.tuple #[]))) r fun f s =>
 oP E (xV (Instr.alloc 28 true (.tuple #[]))) s fun g t =>
 oP E (sA 26 f n) t fun _ u =>
 oP E (sA 28 g p) u fun _ v =>
 oP E (xBin .leq 3 (.tmp 61) (.const (vI 39)) x0 (vI 39)) v fun y j =>
 xcond y
 (oP E (xBin .eql 29 (.tmp 63) (.const (vI 0)) i (vI 0)) j fun c z =>
 oP E (gsem (asB c) true (lA 28 g)) z fun aa ab =>
 oP E (gsem (asB c) true (xV (Instr.build 28 #[]))) ab fun ac ad =>
 oP E (gsem (asB c) true (xBin .eql 28 (.tmp 66) (.tmp 67) aa ac)) ad fun ae af =>
 oP E (xPick c ae (vB false)) af fun d ag =>
 oP E (gsem (asB d) true (lA 26 f)) ag fun ah ai =>
 oP E (gsem (asB d) true (xCall (fC 12) [ah])) ai fun aj ak =>
 oP E (gsem (asB d) true (xBin .eql 29 (.tmp 72) (.const (vI 0)) aj (vI 0))) ak fun al am =>
 oP E (xPick d al (vB false)) am fun an ao =>
 R an ao)
 (oP E (xBin .eql 29 (.tmp 75) (.const (vI 41)) i (vI 41)) j fun b ap =>
 oP E (gsem (asB b) true (fA 26 f 1)) ap fun aq ar =>
 oP E (gsem (asB b) true (lA 24 aq)) ar fun au av =>
 oP E (gsem (asB b) true (xBuiltin .len #[24] 3 [false] [au])) av fun aw ax =>
 oP E (gsem (asB b) true (xBin .eql 3 (.tmp 80) (.const (vI 0)) aw (vI 0))) ax fun ay az =>
 oP E (xPick b ay (vB false)) az fun a ba =>
 oP E (gsem (asB a) true (lA 28 g)) ba fun bb bc =>
 oP E (gsem (asB a) true (xBuiltin .len #[9] 3 [false] [(gval (asB a) true x5)])) bc fun bd be =>
 oP E (gsem (asB a) true (xBuiltin .len #[9] 3 [false] [(gval (asB a) true x6)])) be fun bf bg =>
 oP E (gsem (asB a) true (xBin .mul 3 (.const (vI 40)) (.tmp 88) (vI 40) bf)) bg fun bh bi =>
 oP E (gsem (asB a) true (xBin .add 3 (.tmp 86) (.tmp 89) bd bh)) bi fun bj bk =>
 oP E (gsem (asB a) true (xBin .add 3 (.tmp 90) (.const (vI 1)) bj (vI 1))) bk fun bl bm =>
 oP E (gsem (asB a) true (xV (Instr.build 28 #[(0, (vI 1)), (1, bl)]))) bm fun bn bo =>
 oP E (gsem (asB a) true (xBin .eql 28 (.tmp 84) (.tmp 92) bb bn)) bo fun bp bq =>
 oP E (xPick a bp (vB false)) bq fun br bs =>
 R br bs))
def c6K (x0 _x5 _x6 x8 _x9 x10 x12 : Value) (w) (next4 : NT) (j3 : NT) (_R : RT) (E) :=
 oP E (xBin .lss 3 (.tmp 45) (.tmp 46) x12 x0) w fun b a =>
 xcond b
 (oP E (xBin .add 9 (.tmp 50) (.tmp 51) x10 x8) a fun c d =>
 oP E (xBin .add 3 (.tmp 48) (.const (vI 1)) x12 (vI 1)) d fun e f =>
 next4 [c, e] f)
 (j3 [x10] a)
def c6L (x0 x5 x6 x7 x8 x9 x10 w) (R : RT) (E) :=
 ∀ _τ : Fr, (oP E (xBin .add 9 (.tmp 42) (.tmp 43) x10 x7) w fun b c =>
 xcut (fun d e => c6J x0 x5 x6 x9 (nth d 0) e R E) fun j3 =>
 xloop [10, 12] [b, (vI 0)] c fun a f next4 =>
 c6K x0 x5 x6 x8 x9 (a 10) (a 12) f next4 j3 R E)
def c6M (x0 _x5 x6 _x7 _x8 _x9 x10 x11 : Value) (w) (next5 : NT) (j2 : NT) (_R : RT) (E) :=
 oP E (xBin .lss 3 (.tmp 34) (.tmp 35) x11 x0) w fun b a =>
 xcond b
 (oP E (xBin .add 9 (.tmp 39) (.tmp 40) x10 x6) a fun c d =>
 oP E (xBin .add 3 (.tmp 37) (.const (vI 1)) x11 (vI 1)) d fun e f =>
 next5 [c, e] f)
 (j2 [x10] a)
def c6N (x0 x5 x6 x7 x8 x9 w) (R : RT) (E) :=
 ∀ _τ : Fr, (xcut (fun b c => c6L x0 x5 x6 x7 x8 x9 (nth b 0) c R E) fun j2 =>
 xloop [10, 11] [x5, (vI 0)] w fun a d next5 =>
 c6M x0 x5 x6 x7 x8 x9 (a 10) (a 11) d next5 j2 R E)
def F4 (x0 x1 w) (R : RT) (E) :=
 oP E (xCall (fC 8) []) w fun j k =>
 oP E (xV (Op.unary .not j)) k fun l c =>
 xcond l
 (R (vB false) c)
 (oP E (xBin .lss 3 (.tmp 18) (.const (vI 0)) x0 (vI 0)) c fun b m =>
 oP E (gsem (asB b) false (xBin .gtr 3 (.tmp 21) (.const (vI 200)) (gval (asB b) false x0) (vI 200))) m fun n o =>
 oP E (xPick b (vB true) n) o fun p d =>
 xcond p
 (R (vB true) d)
 (xcut (fun a q => c6N x0 (nth a 0) (nth a.tail 0) (nth a.tail.tail 0) (nth a.tail.tail.tail 0) (nth a.tail.tail.tail.tail 0) q R E) fun j1 =>
 oP E (xBin .eql 3 (.tmp 24) (.const (vI 1)) x1 (vI 1)) d fun r e =>
 xcond r
 (j1 [(Value.string ⟨#[120, 32, 61, 32]⟩), (Value.string ⟨#[45]⟩), (Value.string ⟨#[49]⟩), (eS), (Value.string ⟨#[59]⟩)] e)
 (oP E (xBin .eql 3 (.tmp 24) (.const (vI 2)) x1 (vI 2)) e fun s f =>
 xcond s
 (j1 [(Value.string ⟨#[97, 115, 115, 101, 114, 116, 32]⟩), (Value.string ⟨#[33]⟩), (Value.string ⟨#[116, 114, 117, 101]⟩), (eS), (Value.string ⟨#[59]⟩)] f)
 (oP E (xBin .eql 3 (.tmp 24) (.const (vI 3)) x1 (vI 3)) f fun t g =>
 xcond t
 (j1 [(Value.string ⟨#[97, 115, 115, 101, 114, 116, 32]⟩), (Value.string ⟨#[91]⟩), (Value.string ⟨#[120, 32, 60, 32, 49]⟩), (Value.string ⟨#[93]⟩), (Value.string ⟨#[59]⟩)] g)
 (oP E (xBin .eql 3 (.tmp 24) (.const (vI 4)) x1 (vI 4)) g fun u i =>
 xcond u
 (j1 [(eS), (Value.string ⟨#[105, 102, 32, 116, 114, 117, 101, 32, 123]⟩), (Value.string ⟨#[115, 107, 105, 112, 59]⟩), (Value.string ⟨#[125]⟩), (eS)] i)
 (j1 [(Value.string ⟨#[120, 32, 61, 32]⟩), (Value.string ⟨#[40]⟩), (Value.string ⟨#[49]⟩), (Value.string ⟨#[41]⟩), (Value.string ⟨#[59]⟩)] i))))))
def h4 : Hint := (sQ (hS (sQ (hC (sQ hN) hN)) (hS (sQ (hC (sQ hN) hN)) (sQ (hU [5, 6, 7, 8, 9] (sQ (hB (sQ (hC hN (sQ (hC hN (sQ (hC hN (sQ (hC hN hN)))))))))) (sQ (hU [10] (sQ (hB (hL [10, 11] (hS (sQ (hC hN hN)) (hS (hB hN) hN))))) (sQ (hU [10] (sQ (hB (hL [10, 12] (hS (sQ (hC hN hN)) (hS (hB hN) hN))))) (sQ (hS (sQ (hC (sQ hN) hN)) (sQ hN))))))))))))
def c6O (x9 x11 w) (R : RT) (E) :=
 ∀ _τ : Fr, (oP E (xBin .eql 29 (.tmp 80) (.const (vI 0)) x11 (vI 0)) w fun a c =>
 oP E (gsem (asB a) true (fA 40 x9 0)) c fun d e =>
 oP E (gsem (asB a) true (lA 3 d)) e fun f g =>
 oP E (gsem (asB a) true (xBin .eql 3 (.tmp 84) (.const (vI 1)) f (vI 1))) g fun i j =>
 oP E (xPick a i (vB false)) j fun b k =>
 oP E (gsem (asB b) true (fA 40 x9 1)) k fun l m =>
 oP E (gsem (asB b) true (lA 2 l)) m fun n o =>
 oP E (gsem (asB b) true (xBin .eql 2 (.tmp 89) (.const (vI 7)) n (vI 7))) o fun p q =>
 oP E (xPick b p (vB false)) q fun r s =>
 R r s)
def c6P (x5 x9 x11 x12 w) (next4 : NT) (j3 : NT) (R : RT) (E) :=
 oP E (xBin .gtr 3 (.tmp 42) (.const (vI 1)) x12 (vI 1)) w fun g e =>
 xcond g
 (oP E (xBin .neq 29 (.tmp 46) (.const (vI 0)) x11 (vI 0)) e fun c i =>
 oP E (gsem (asB c) false (fA 40 x9 0)) i fun j k =>
 oP E (gsem (asB c) false (lA 3 j)) k fun l m =>
 oP E (gsem (asB c) false (xBin .neq 3 (.tmp 50) (.tmp 51) l (gval (asB c) false x5))) m fun n o =>
 oP E (xPick c (vB true) n) o fun d p =>
 oP E (gsem (asB d) false (fA 40 x9 3)) p fun q r =>
 oP E (gsem (asB d) false (lA 38 q)) r fun s t =>
 oP E (gsem (asB d) false (xBuiltin .len #[38] 3 [false] [s])) t fun u v =>
 oP E (gsem (asB d) false (xBin .neq 3 (.tmp 57) (.const (vI 2)) u (vI 2))) v fun y z =>
 oP E (xPick d (vB true) y) z fun a aa =>
 oP E (gsem (asB a) false (fA 40 x9 3)) aa fun ab ac =>
 oP E (gsem (asB a) false (lA 38 ab)) ac fun ad ae =>
 oP E (gsem (asB a) false (iA 38 ad (vI 1))) ae fun af ag =>
 oP E (gsem (asB a) false (fA 40 af 0)) ag fun ah ai =>
 oP E (gsem (asB a) false (lA 3 ah)) ai fun aj ak =>
 oP E (gsem (asB a) false (xBin .neq 3 (.tmp 65) (.const (vI 1)) aj (vI 1))) ak fun al am =>
 oP E (xPick a (vB true) al) am fun b an =>
 oP E (gsem (asB b) false (fA 40 x9 3)) an fun ao ap =>
 oP E (gsem (asB b) false (lA 38 ao)) ap fun aq ar =>
 oP E (gsem (asB b) false (iA 38 aq (vI 1))) ar fun au av =>
 oP E (gsem (asB b) false (fA 40 au 1)) av fun aw ax =>
 oP E (gsem (asB b) false (lA 2 aw)) ax fun ay az =>
 oP E (gsem (asB b) false (xBin .neq 2 (.tmp 73) (.const (vI 7)) ay (vI 7))) az fun ba bb =>
 oP E (xPick b (vB true) ba) bb fun bc f =>
 xcond bc
 (R (vB false) f)
 (oP E (fA 40 x9 3) f fun bd be =>
 oP E (lA 38 bd) be fun bf bg =>
 oP E (iA 38 bf (vI 0)) bg fun bh bi =>
 oP E (lA 40 bh) bi fun bj bk =>
 oP E (sA 40 x9 bj) bk fun _ bl =>
 oP E (xBin .sub 3 (.tmp 44) (.const (vI 1)) x12 (vI 1)) bl fun bm bn =>
 next4 [bm] bn))
 (j3 [] e)
def c6Q (x0 x5 x7 w) (R : RT) (E) :=
 ∀ _τ : Fr, (oP E (xCall (fC 13) [x7]) w fun a e =>
 oP E (xT a 0) e fun f g =>
 oP E (xT a 1) g fun i j =>
 oP E (xT a 2) j fun b k =>
 oP E (xV (Instr.alloc 40 true (.tuple #[]))) k fun c l =>
 oP E (xV (Instr.alloc 28 true (.tuple #[]))) l fun m n =>
 oP E (sA 40 c f) n fun _ o =>
 oP E (sA 28 m i) o fun _ p =>
 oP E (xBin .gtr 3 (.tmp 37) (.const (vI 64)) x0 (vI 64)) p fun q d =>
 xcond q
 (oP E (xBin .eql 29 (.tmp 39) (.const (vI 41)) b (vI 41)) d fun r s =>
 R r s)
 (xcut (fun _ t => c6O c b t R E) fun j3 =>
 xloop [12] [x0] d fun u v next4 =>
 c6P x5 c b (u 12) v next4 j3 R E))
def c6R (x0 _x5 x6 x7 x8 : Value) (w) (next5 : NT) (j2 : NT) (_R : RT) (E) :=
 oP E (xBin .lss 3 (.tmp 22) (.tmp 23) x8 x0) w fun b a =>
 xcond b
 (oP E (xBin .add 9 (.tmp 27) (.tmp 28) x7 x6) a fun c d =>
 oP E (xBin .add 9 (.tmp 29) (.const (Value.string ⟨#[55]⟩)) c (Value.string ⟨#[55]⟩)) d fun e f =>
 oP E (xBin .add 3 (.tmp 25) (.const (vI 1)) x8 (vI 1)) f fun g i =>
 next5 [e, g] i)
 (j2 [x7] a)
def c6S (x0 x5 x6 w) (R : RT) (E) :=
 ∀ _τ : Fr, (xcut (fun b c => c6Q x0 x5 (nth b 0) c R E) fun j2 =>
 xloop [7, 8] [(Value.string ⟨#[55]⟩), (vI 1)] w fun a d next5 =>
 c6R x0 x5 x6 (a 7) (a 8) d next5 j2 R E)
def F5 (x0 x1 w) (R : RT) (E) :=
 oP E (xCall (fC 8) []) w fun e f =>
 oP E (xV (Op.unary .not e)) f fun g c =>
 xcond g
 (R (vB false) c)
 (oP E (xBin .lss 3 (.tmp 15) (.const (vI 1)) x0 (vI 1)) c fun a i =>
 oP E (gsem (asB a) false (xBin .gtr 3 (.tmp 18) (.const (vI 300)) (gval (asB a) false x0) (vI 300))) i fun j k =>
 oP E (xPick a (vB true) j) k fun l b =>
 xcond l
 (R (vB true) b)
 (xcut (fun d m => c6S x0 (nth d 0) (nth d.tail 0) m R E) fun j1 =>
 xcond x1
 (j1 [(vI 7), (Value.string ⟨#[32, 45, 32]⟩)] b)
 (j1 [(vI 6), (Value.string ⟨#[32, 43, 32]⟩)] b)))
def h5 : Hint := (sQ (hS (sQ (hC (sQ hN) hN)) (hS (sQ (hC (sQ hN) hN)) (sQ (hU [5, 6] (sQ (hC hN hN)) (sQ (hU [7] (sQ (hB (hL [7, 8] (hS (sQ (hC hN hN)) (hS (hB hN) hN))))) (sQ (hS (sQ (hC (sQ hN) hN)) (hU [] (sQ (hB (hL [12] (hS (sQ (hC hN hN)) (hS (hB (hS (sQ (hC (sQ hN) hN)) hN)) hN))))) (sQ hN)))))))))))
def h6 : Hint := (sQ (hS (sQ (hC (sQ hN) hN)) (sQ (sQ (hS (sQ (hC (sQ hN) hN)) (sQ (sQ (sQ hN))))))))
def F7 (x0 w) (R : RT) (E) :=
 oP E (xCall (fC 8) []) w fun l m =>
 oP E (xV (Op.unary .not l)) m fun n f =>
 xcond n
 (R (vB false) f)
 (oP E (xCall (fC 9) [x0]) f fun c o =>
 oP E (xT c 0) o fun p q =>
 oP E (xT c 1) q fun r s =>
 oP E (xT c 2) s fun g t =>
 oP E (xV (Instr.alloc 26 true (.tuple #[]))) t fun d u =>
 oP E (xV (Instr.alloc 28 true (.tuple #[]))) u fun v y =>
 oP E (sA 26 d p) y fun _ z =>
 oP E (sA 28 v r) z fun _ aa =>
 oP E (xBin .add 9 (.const (Value.string ⟨#[35, 32, 10]⟩)) (.tmp 18) (Value.string ⟨#[35, 32, 10]⟩) x0) aa fun ab ac =>
 oP E (xCall (fC 9) [ab]) ac fun e ad =>
 oP E (xT e 0) ad fun ae af =>
 oP E (xT e 1) af fun ag ah =>
 oP E (xT e 2) ah fun ai aj =>
 oP E (xV (Instr.alloc 26 true (.tuple #[]))) aj fun i ak =>
 oP E (xV (Instr.alloc 28 true (.tuple #[]))) ak fun al am =>
 oP E (sA 26 i ae) am fun _ an =>
 oP E (sA 28 al ag) an fun _ ao =>
 oP E (xBuiltin .len #[9] 3 [false] [x0]) ao fun ap aq =>
 oP E (xBin .add 3 (.tmp 25) (.const (vI 3)) ap (vI 3)) aq fun ar au =>
 oP E (xBin .gtr 3 (.tmp 26) (.const (vI 65536)) ar (vI 65536)) au fun av j =>
 xcond av
 (R (vB true) j)
 (oP E (xBin .neq 29 (.tmp 28) (.tmp 29) g ai) j fun aw k =>
 xcond aw
 (R (vB false) k)
 (oP E (xBin .neq 29 (.tmp 31) (.const (vI 0)) g (vI 0)) k fun a ax =>
 oP E (gsem (asB a) false (lA 26 d)) ax fun ay az =>
 oP E (gsem (asB a) false (xCall (fC 12) [ay])) az fun ba bb =>
 oP E (gsem (asB a) false (xBin .eql 29 (.tmp 35) (.const (vI 0)) ba (vI 0))) bb fun b bc =>
 oP E (gsem (asB (gval (asB a) false b)) true (lA 26 d)) bc fun bd be =>
 oP E (gsem (asB (gval (asB a) false b)) true (lA 26 i)) be fun bf bg =>
 oP E (gsem (asB (gval (asB a) false b)) true (xCall (fC 19) [bd, bf])) bg fun bh bi =>
 oP E (gsem (asB a) false (xPick (gval (asB a) false b) bh (vB false))) bi fun bj bk =>
 oP E (xPick a (vB true) bj) bk fun bl bm =>
 R bl bm)))
def h7 : Hint := (sQ (hS (sQ (hC (sQ hN) hN)) (sQ (sQ (hS (sQ (hC (sQ hN) hN)) (hS (sQ (hC (sQ hN) hN)) (sQ hN)))))))
theorem c6T {x0 : Value} (h : F7 x0 w R E) : Cv pG 7 #[x0] w R E := okF (h := h7) Tryz.func7 (by kernel_rfl) (by kernel_rfl) h
def F8 (w) (R : RT) (E) :=
 oP E (xCall (fC 9) [(Value.string ⟨#[118, 97, 114, 32, 120, 59, 32, 120, 32, 61, 32, 49, 32, 43, 32, 50, 32, 42, 32, 120, 59]⟩)]) w fun g l =>
 oP E (xT g 0) l fun m n =>
 oP E (xT g 1) n fun o p =>
 oP E (xT g 2) p fun q r =>
 oP E (xV (Instr.alloc 26 true (.tuple #[]))) r fun c s =>
 oP E (xV (Instr.alloc 28 true (.tuple #[]))) s fun t u =>
 oP E (sA 26 c m) u fun _ v =>
 oP E (sA 28 t o) v fun _ y =>
 oP E (xCall (fC 9) [(Value.string ⟨#[120, 32, 61, 32, 59]⟩)]) y fun i z =>
 oP E (xT i 0) z fun aa ab =>
 oP E (xT i 1) ab fun ac ad =>
 oP E (xT i 2) ad fun ae af =>
 oP E (xV (Instr.alloc 26 true (.tuple #[]))) af fun ag ah =>
 oP E (xV (Instr.alloc 28 true (.tuple #[]))) ah fun k ai =>
 oP E (sA 26 ag aa) ai fun _ aj =>
 oP E (sA 28 k ac) aj fun _ ak =>
 oP E (xBin .eql 29 (.tmp 17) (.const (vI 0)) q (vI 0)) ak fun d al =>
 oP E (gsem (asB d) true (fA 26 c 0)) al fun am an =>
 oP E (gsem (asB d) true (lA 23 am)) an fun ao ap =>
 oP E (gsem (asB d) true (xBuiltin .len #[23] 3 [false] [ao])) ap fun aq ar =>
 oP E (gsem (asB d) true (xBin .eql 3 (.tmp 22) (.const (vI 1)) aq (vI 1))) ar fun au av =>
 oP E (xPick d au (vB false)) av fun e aw =>
 oP E (gsem (asB e) true (fA 26 c 1)) aw fun ax ay =>
 oP E (gsem (asB e) true (lA 24 ax)) ay fun az ba =>
 oP E (gsem (asB e) true (xBuiltin .len #[24] 3 [false] [az])) ba fun bb bc =>
 oP E (gsem (asB e) true (xBin .eql 3 (.tmp 28) (.const (vI 1)) bb (vI 1))) bc fun bd be =>
 oP E (xPick e bd (vB false)) be fun b bf =>
 oP E (gsem (asB b) true (fA 26 c 1)) bf fun bg bh =>
 oP E (gsem (asB b) true (lA 24 bg)) bh fun bi bj =>
 oP E (gsem (asB b) true (iA 24 bi (vI 0))) bj fun bk bl =>
 oP E (gsem (asB b) true (fA 56 bk 2)) bl fun bm bn =>
 oP E (gsem (asB b) true (lA 38 bm)) bn fun bo bp =>
 oP E (gsem (asB b) true (xBuiltin .len #[38] 3 [false] [bo])) bp fun bq br =>
 oP E (gsem (asB b) true (xBin .eql 3 (.tmp 37) (.const (vI 1)) bq (vI 1))) br fun bs bt =>
 oP E (xPick b bs (vB false)) bt fun a bu =>
 oP E (gsem (asB a) true (fA 26 c 1)) bu fun bv bw =>
 oP E (gsem (asB a) true (lA 24 bv)) bw fun bz ca =>
 oP E (gsem (asB a) true (iA 24 bz (vI 0))) ca fun cb cc =>
 oP E (gsem (asB a) true (fA 56 cb 2)) cc fun cd ce =>
 oP E (gsem (asB a) true (lA 38 cd)) ce fun cf cg =>
 oP E (gsem (asB a) true (iA 38 cf (vI 0))) cg fun ch ci =>
 oP E (gsem (asB a) true (fA 40 ch 0)) ci fun cj ck =>
 oP E (gsem (asB a) true (lA 3 cj)) ck fun cl cm =>
 oP E (gsem (asB a) true (xBin .eql 3 (.tmp 48) (.const (vI 6)) cl (vI 6))) cm fun cn co =>
 oP E (xPick a cn (vB false)) co fun j cp =>
 oP E (gsem (asB j) true (xBin .eql 29 (.tmp 52) (.const (vI 40)) (gval (asB j) true ae) (vI 40))) cp fun cq cr =>
 oP E (xPick j cq (vB false)) cr fun f cs =>
 oP E (gsem (asB f) true (lA 28 k)) cs fun ct cu =>
 oP E (gsem (asB f) true (xV (Instr.build 28 #[(0, (vI 1)), (1, (vI 5))]))) cu fun cv cw =>
 oP E (gsem (asB f) true (xBin .eql 28 (.tmp 56) (.tmp 57) ct cv)) cw fun cx cy =>
 oP E (xPick f cx (vB false)) cy fun cz da =>
 R cz da
def h8 : Hint := (sQ (sQ (sQ (sQ hN))))
theorem c6U (h : F8  w R E) : Cv pG 8 #[] w R E := okF (h := h8) Tryz.func8 (by kernel_rfl) (by kernel_rfl) h
def F9 (x0 w) (R : RT) (E) :=
 oP E (xV (Instr.alloc 26 true (.tuple #[]))) w fun c e =>
 oP E (xV (Instr.alloc 28 true (.tuple #[]))) e fun d f =>
 oP E (xCall (fC 20) [x0, (fC 21), (fC 12)]) f fun a g =>
 oP E (xT a 0) g fun i j =>
 oP E (xT a 1) j fun k l =>
 oP E (xT a 2) l fun m n =>
 oP E (sA 26 c i) n fun _ o =>
 oP E (sA 28 d k) o fun _ b =>
 xcell pG 26 c b fun p =>
 xcell pG 28 d b fun q =>
 R (Value.tuple #[p, q, m]) b
def h9 : Hint := (sQ (sQ hN))
theorem c6V {x0 : Value} (h : F9 x0 w R E) : Cv pG 9 #[x0] w R E := okF (h := h9) Tryz.func9 (by kernel_rfl) (by kernel_rfl) h
def F12 (x0 w) (R : RT) (E) :=
 oP E (xV (Instr.box 26 x0)) w fun a b =>
 oP E (lA 26 a) b fun c d =>
 oP E (xCall (fC 32) [c]) d fun e f =>
 oP E (xNil e) f fun g i =>
 oP E (fA 79 g 2) i fun j k =>
 oP E (lA 29 j) k fun l m =>
 R l m
def h12 : Hint := (sQ (sQ hN))
theorem c3J {x0 : Value} (h : F12 x0 w R E) : Cv pG 12 #[x0] w R E := okF (h := h12) Tryz.func12 (by kernel_rfl) (by kernel_rfl) h
def F19 (x0 x1 w) (R : RT) (E) :=
 oP E (xV (Instr.box 26 x0)) w fun c f =>
 oP E (xV (Instr.box 26 x1)) f fun d g =>
 oP E (lA 26 c) g fun i j =>
 oP E (xCall (fC 45) [i]) j fun e k =>
 oP E (gsem (asB e) true (lA 26 d)) k fun l m =>
 oP E (gsem (asB e) true (xCall (fC 45) [l])) m fun n o =>
 oP E (xPick e n (vB false)) o fun a p =>
 oP E (gsem (asB a) true (fA 26 c 0)) p fun q r =>
 oP E (gsem (asB a) true (lA 23 q)) r fun s t =>
 oP E (gsem (asB a) true (fA 26 d 0)) t fun u v =>
 oP E (gsem (asB a) true (lA 23 u)) v fun y z =>
 oP E (gsem (asB a) true (xCall (fC 46) [s, y])) z fun aa ab =>
 oP E (xPick a aa (vB false)) ab fun b ac =>
 oP E (gsem (asB b) true (fA 26 c 1)) ac fun ad ae =>
 oP E (gsem (asB b) true (lA 24 ad)) ae fun af ag =>
 oP E (gsem (asB b) true (fA 26 d 1)) ag fun ah ai =>
 oP E (gsem (asB b) true (lA 24 ah)) ai fun aj ak =>
 oP E (gsem (asB b) true (xCall (fC 47) [af, aj, (fC 48)])) ak fun al am =>
 oP E (xPick b al (vB false)) am fun an ao =>
 R an ao
def h19 : Hint := (sQ (sQ hN))
theorem c3K {x0 x1 : Value} (h : F19 x0 x1 w R E) : Cv pG 19 #[x0, x1] w R E := okF (h := h19) Tryz.func19 (by kernel_rfl) (by kernel_rfl) h
def b4p (x2 x3 w) (R : RT) (E) :=
 ∀ _τ : Fr, (oP E (lA 26 x3) w fun b c =>
 oP E (sA 26 x2 b) c fun _ a =>
 xcell pG 26 x2 a fun d =>
 R d a)
def b8u (x0 _x2 x3 : Value) (w) (next3 : NT) (j2 : NT) (_R : RT) (E) :=
 oP E (xCall (fC 51) [x0]) w fun i j =>
 oP E (xV (Instr.field 103 i 0)) j fun k l =>
 oP E (xBin .neq 3 (.tmp 19) (.const (vI 5)) k (vI 5)) l fun m f =>
 xcond m
 (oP E (xCall (fC 56) [x0]) f fun n o =>
 oP E (xCall (fC 55) [x0, (vI 1), n]) o fun _t24_20 p =>
 dX p fun b =>
 qP pG (fA 26 x3 1) fun a =>
 qL pG b (blk a) (lA 24 a) fun q =>
 oP E (xCall (fC 57) [x0, (vI 1)]) b fun r c =>
 keepX [(blk a)] b c (opK pG E (xV (Instr.buildSlice 24 1 #[(0, r)])) c fun s d =>
 keepX [(blk a)] c d (opK pG E (xBuiltin .append #[24, 24] 24 [false, false] [q, s]) d fun t e =>
 keepX [] d e (qP pG (fA 26 x3 1) fun u =>
 oP E (sA 24 u t) e fun _ g =>
 keepX [] e g (next3 [] g)))))
 (j2 [] f)
def b4q (x0 x2 x3 w) (R : RT) (E) :=
 ∀ _τ : Fr, (xcut (fun _ a => b4p x2 x3 a R E) fun j2 =>
 xloop [] [] w fun _ b next3 =>
 b8u x0 x2 x3 b next3 j2 R E)
def b8v (x0 _x2 x3 : Value) (w) (next4 : NT) (j1 : NT) (_R : RT) (E) :=
 oP E (xCall (fC 53) [x0, (Value.string ⟨#[118, 97, 114]⟩)]) w fun b j =>
 oP E (gsem (asB b) false (xCall (fC 53) [(gval (asB b) false x0), (Value.string ⟨#[97, 114, 114, 97, 121]⟩)])) j fun k l =>
 oP E (xPick b (vB true) k) l fun m g =>
 xcond m
 (dX g fun c =>
 qP pG (fA 26 x3 0) fun a =>
 qL pG c (blk a) (lA 23 a) fun n =>
 oP E (xCall (fC 54) [x0]) c fun o d =>
 keepX [(blk a)] c d (opK pG E (xV (Instr.buildSlice 23 1 #[(0, o)])) d fun p e =>
 keepX [(blk a)] d e (opK pG E (xBuiltin .append #[23, 23] 23 [false, false] [n, p]) e fun q f =>
 keepX [] e f (qP pG (fA 26 x3 0) fun r =>
 oP E (sA 23 r q) f fun _ i =>
 keepX [] f i (next4 [] i)))))
 (j1 [] g)
def F21 (x0 w) (R : RT) (E) :=
 oP E (xV (Instr.alloc 26 true (.tuple #[]))) w fun a c =>
 oP E (xV (Instr.alloc 26 true (.tuple #[]))) c fun b d =>
 xcut (fun _ e => b4q x0 a b e R E) fun j1 =>
 xloop [] [] d fun _ f next4 =>
 b8v x0 a b f next4 j1 R E
def h21 : Hint := (sQ (sQ (hU [] (hB (hL [] (hS (sQ (hC hN hN)) (hB (.reg [(0, 1024, 8), (1, 2048, 1024), (0, 4096, 1), (4, 8192, 4096), (8, 16384, 8192), (26, 32768, 18432), (63, 65536, 8), (127, 0, 98304)] [2, 0, 2, 2, 2, 0, 2, 0] (.early 0 (.early 2 (.load 1 (.step 3 (.step 4 (.step 5 (.early 6 (.step 7 .done))))))))))))) (hU [] (hB (hL [] (hS (sQ (hC hN hN)) (hB (sQ (.reg [(0, 33554432, 8), (1, 67108864, 33554432), (0, 134217728, 1), (4, 268435456, 134217728), (8, 536870912, 268435456), (26, 1073741824, 603979776), (63, 2147483648, 8), (127, 0, 3221225472)] [2, 0, 2, 2, 2, 0, 2, 0] (.early 0 (.early 2 (.load 1 (.step 3 (.step 4 (.step 5 (.early 6 (.step 7 .done)))))))))))))) (sQ hN)))))
theorem c3L {x0 : Value} (h : F21 x0 w R E) : Cv pG 21 #[x0] w R E := okF (h := h21) Tryz.func21 (by kernel_rfl) (by kernel_rfl) h
def F23 (x0 x1 w) (R : RT) (E) :=
 oP E (xCall (fC 63) [x0]) w fun e f =>
 oP E (xV (Instr.alloc 103 true (.tuple #[]))) f fun c g =>
 oP E (sA 103 c e) g fun _ i =>
 oP E (xNil x0) i fun j k =>
 oP E (fA 66 j 2) k fun l m =>
 oP E (lA 3 l) m fun n o =>
 oP E (xBin .eql 3 (.tmp 11) (.const (vI 0)) n (vI 0)) o fun a p =>
 oP E (gsem (asB a) true (fA 103 c 0)) p fun q r =>
 oP E (gsem (asB a) true (lA 3 q)) r fun s t =>
 oP E (gsem (asB a) true (xBin .eql 3 (.tmp 15) (.const (vI 3)) s (vI 3))) t fun d u =>
 oP E (gsem (asB (gval (asB a) true d)) false (fA 103 c 0)) u fun v y =>
 oP E (gsem (asB (gval (asB a) true d)) false (lA 3 v)) y fun z aa =>
 oP E (gsem (asB (gval (asB a) true d)) false (xBin .eql 3 (.tmp 19) (.const (vI 4)) z (vI 4))) aa fun ab ac =>
 oP E (gsem (asB a) true (xPick (gval (asB a) true d) (vB true) ab)) ac fun ad ae =>
 oP E (xPick a ad (vB false)) ae fun b af =>
 oP E (gsem (asB b) true (fA 103 c 1)) af fun ag ah =>
 oP E (gsem (asB b) true (lA 9 ag)) ah fun ai aj =>
 oP E (gsem (asB b) true (xBin .eql 9 (.tmp 25) (.tmp 26) ai (gval (asB b) true x1))) aj fun ak al =>
 oP E (xPick b ak (vB false)) al fun am an =>
 R am an
def h23 : Hint := (sQ (sQ (sQ hN)))
theorem c3M {x0 x1 : Value} (h : F23 x0 x1 w R E) : Cv pG 23 #[x0, x1] w R E := okF (h := h23) Tryz.func23 (by kernel_rfl) (by kernel_rfl) h
def F32 (x0 w) (R : RT) (E) :=
 oP E (xV (Instr.box 26 x0)) w fun g k =>
 dX k fun a =>
 qP pG (fA 26 g 0) fun i =>
 qP pG (fA 26 g 1) fun b =>
 qL pG a (blk i) (lA 23 i) fun l =>
 qL pG a (blk b) (lA 24 b) fun m =>
 oP E (xCall (fC 76) [l, (fC 77)]) a fun n c =>
 keepX [(blk b)] a c (opK pG E (xCall (fC 78) [m, (fC 79)]) c fun o d =>
 keepX [] c d (opK pG E (xV (Instr.buildSlice 172 2 #[(0, n), (1, o)])) d fun p e =>
 keepX [] d e (opK pG E (xCall (fC 75) [p]) e fun q f =>
 keepX [] e f (opK pG E (xCall (fC 74) [q]) f fun r j =>
 keepX [] f j (R r j)))))
def h32 : Hint := (sQ (hS (.reg [(0, 8, 2), (1, 16, 8), (2, 32, 16), (0, 64, 2), (8, 128, 64), (20, 256, 128), (36, 512, 288), (96, 1024, 512), (128, 2048, 1024), (511, 4, 2048)] [18, 16, 16, 18, 2, 0, 0, 0, 0, 18] (.early 0 (.early 3 (.load 1 (.load 4 (.step 2 (.step 5 (.step 6 (.step 7 (.step 8 (.early 9 .done))))))))))) hN))
theorem c3N {x0 : Value} (h : F32 x0 w R E) : Cv pG 32 #[x0] w R E := okF (h := h32) Tryz.func32 (by kernel_rfl) (by kernel_rfl) h
def F35 (x0 x1 w) (R : RT) (E) :=
 oP E (xV (Instr.alloc 40 true (.tuple #[]))) w fun a c =>
 oP E (xV (Instr.buildSlice 77 2 #[(0, (Value.string ⟨#[43]⟩)), (1, (Value.string ⟨#[45]⟩))])) c fun d e =>
 oP E (xV (Instr.buildSlice 137 2 #[(0, (vI 6)), (1, (vI 7))])) e fun f g =>
 oP E (xV (Instr.makeFunc (.func 82) #[x0] #[])) g fun i j =>
 oP E (xV (Instr.build 139 #[(0, d), (1, f), (2, i)])) j fun k l =>
 oP E (xCall (fC 81) [x0, x1, k]) l fun m n =>
 oP E (sA 40 a m) n fun _ b =>
 xcell pG 40 a b fun o =>
 R o b
def h35 : Hint := (sQ (sQ hN))
theorem c3O {x0 x1 : Value} (h : F35 x0 x1 w R E) : Cv pG 35 #[x0, x1] w R E := okF (h := h35) Tryz.func35 (by kernel_rfl) (by kernel_rfl) h
def b4r (x4 x5 w) (R : RT) (E) :=
 ∀ _τ : Fr, (oP E (lA 40 x5) w fun b c =>
 oP E (sA 40 x4 b) c fun _ a =>
 xcell pG 40 x4 a fun d =>
 R d a)
def b4s (x0 x1 _x4 x5 x6 : Value) (w) (next2 : NT) (_R : RT) (E) :=
 ∀ _τ : Fr, (oP E (xNil x0) w fun e f =>
 oP E (fA 66 e 1) f fun g i =>
 oP E (lA 3 g) i fun j k =>
 oP E (xBin .add 3 (.tmp 21) (.const (vI 1)) j (vI 1)) k fun l m =>
 oP E (xNil x0) m fun n o =>
 oP E (fA 66 n 1) o fun p q =>
 oP E (sA 3 p l) q fun _ r =>
 dX r fun a =>
 qL pG a (blk x5) (lA 40 x5) fun s =>
 oP E (xCall (fC 83) [x0, x1]) a fun t b =>
 keepX [(blk x5)] a b (opK pG E (xV (Instr.buildSlice 38 2 #[(0, s), (1, t)])) b fun u c =>
 keepX [] b c (qP pG (xV (Instr.build 40 #[(0, x6), (3, u)])) fun v =>
 oP E (sA 40 x5 v) c fun _ d =>
 keepX [] c d (next2 [] d))))
def b8w (x0 x1 x4 x5 w) (next2 : NT) (j1 : NT) (R : RT) (E) :=
 oP E (xCall (fC 23) [x0, (Value.string ⟨#[43]⟩)]) w fun a d =>
 oP E (gsem (asB a) false (xCall (fC 23) [(gval (asB a) false x0), (Value.string ⟨#[45]⟩)])) d fun e f =>
 oP E (xPick a (vB true) e) f fun g b =>
 xcond g
 (xcut (fun i j => b4s x0 x1 x4 x5 (nth i 0) j next2 R E) fun j3 =>
 oP E (xCall (fC 23) [x0, (Value.string ⟨#[45]⟩)]) b fun k c =>
 xcond k
 (j3 [(vI 7)] c)
 (j3 [(vI 6)] c))
 (j1 [] b)
def F37 (x0 x1 w) (R : RT) (E) :=
 oP E (xV (Instr.alloc 40 true (.tuple #[]))) w fun b c =>
 oP E (xCall (fC 83) [x0, x1]) c fun d e =>
 oP E (xV (Instr.alloc 40 true (.tuple #[]))) e fun a f =>
 oP E (sA 40 a d) f fun _ g =>
 xcut (fun _ i => b4r b a i R E) fun j1 =>
 xloop [] [] g fun _ j next2 =>
 b8w x0 x1 b a j next2 j1 R E
def h37 : Hint := (sQ (sQ (hU [] (hB (hL [] (hS (sQ (hC hN hN)) (hB (sQ (hU [6] (sQ (hC hN hN)) (sQ (.reg [(0, 33554432, 64), (0, 67108864, 32), (0, 134217728, 1), (0, 268435456, 2), (12, 536870912, 402653184), (18, 1073741824, 603979776), (33, 2147483648, 1107296256), (127, 0, 2147483680)] [2, 0, 2, 2, 2, 0, 2, 0] (.early 0 (.early 2 (.early 3 (.load 1 (.step 4 (.step 5 (.early 6 (.step 7 .done)))))))))))))))) (sQ hN))))
theorem c3P {x0 x1 : Value} (h : F37 x0 x1 w R E) : Cv pG 37 #[x0, x1] w R E := okF (h := h37) Tryz.func37 (by kernel_rfl) (by kernel_rfl) h
def F41 (x0 x1 w) (R : RT) (E) :=
 oP E (xV (Instr.box 60 x0)) w fun a d =>
 oP E (xV (Instr.alloc 49 true (.tuple #[]))) d fun b e =>
 oP E (xV (Instr.makeFunc (.func 87) #[] #[a])) e fun f g =>
 oP E (lA 60 a) g fun i j =>
 oP E (xCall (fC 88) [i, x1, (Value.string ⟨#[124, 124]⟩), (vI 6), f]) j fun k l =>
 oP E (sA 49 b k) l fun _ c =>
 xcell pG 49 b c fun m =>
 R m c
def h41 : Hint := (sQ (sQ (sQ hN)))
theorem c3Q {x0 x1 : Value} (h : F41 x0 x1 w R E) : Cv pG 41 #[x0, x1] w R E := okF (h := h41) Tryz.func41 (by kernel_rfl) (by kernel_rfl) h
def b4t (x4 x5 w) (R : RT) (E) :=
 ∀ _τ : Fr, (oP E (lA 49 x5) w fun b c =>
 oP E (sA 49 x4 b) c fun _ a =>
 xcell pG 49 x4 a fun d =>
 R d a)
def b8x (x0 x1 _x4 x5 : Value) (w) (next2 : NT) (j1 : NT) (_R : RT) (E) :=
 oP E (xCall (fC 67) [x0, (Value.string ⟨#[124, 124]⟩)]) w fun f d =>
 xcond f
 (dX d fun a =>
 qL pG a (blk x5) (lA 49 x5) fun g =>
 oP E (xCall (fC 90) [x0, x1]) a fun i b =>
 keepX [(blk x5)] a b (opK pG E (xV (Instr.buildSlice 47 2 #[(0, g), (1, i)])) b fun j c =>
 keepX [] b c (qP pG (xV (Instr.build 49 #[(0, (vI 6)), (3, j)])) fun k =>
 oP E (sA 49 x5 k) c fun _ e =>
 keepX [] c e (next2 [] e))))
 (j1 [] d)
def F43 (x0 x1 w) (R : RT) (E) :=
 oP E (xV (Instr.alloc 49 true (.tuple #[]))) w fun b c =>
 oP E (xCall (fC 90) [x0, x1]) c fun d e =>
 oP E (xV (Instr.alloc 49 true (.tuple #[]))) e fun a f =>
 oP E (sA 49 a d) f fun _ g =>
 xcut (fun _ i => b4t b a i R E) fun j1 =>
 xloop [] [] g fun _ j next2 =>
 b8x x0 x1 b a j next2 j1 R E
def h43 : Hint := (sQ (sQ (hU [] (hB (hL [] (hS (sQ (hC hN hN)) (hB (.reg [(0, 2048, 32), (0, 4096, 1), (0, 8192, 2), (6, 16384, 12288), (9, 32768, 18432), (16, 65536, 32768), (63, 0, 65568)] [0, 1, 1, 1, 0, 1, 0] (.early 1 (.early 2 (.load 0 (.step 3 (.step 4 (.early 5 (.step 6 .done)))))))))))) (sQ hN))))
theorem c3R {x0 x1 : Value} (h : F43 x0 x1 w R E) : Cv pG 43 #[x0, x1] w R E := okF (h := h43) Tryz.func43 (by kernel_rfl) (by kernel_rfl) h
def F45 (x0 w) (R : RT) (E) :=
 oP E (xV (Instr.box 26 x0)) w fun c d =>
 oP E (lA 26 c) d fun e f =>
 oP E (xCall (fC 12) [e]) f fun b g =>
 oP E (xBin .neq 29 (.tmp 6) (.const (vI 32)) b (vI 32)) g fun a i =>
 oP E (gsem (asB a) true (xBin .neq 29 (.tmp 9) (.const (vI 33)) (gval (asB a) true b) (vI 33))) i fun j k =>
 oP E (xPick a j (vB false)) k fun l m =>
 R l m
def h45 : Hint := (sQ (sQ (sQ hN)))
theorem c3S {x0 : Value} (h : F45 x0 w R E) : Cv pG 45 #[x0] w R E := okF (h := h45) Tryz.func45 (by kernel_rfl) (by kernel_rfl) h
def b4u (w) (R : RT) (_E : Pan) :=
 ∀ _τ : Fr, (R (vB true) w)
def b8y (x0 x1 x12 x13 w) (next2 : NT) (j1 : NT) (R : RT) (E) :=
 oP E (xBin .lss 3 (.tmp 13) (.tmp 12) x13 x12) w fun e b =>
 xcond e
 (dX b fun a =>
 qP pG (iA 23 x0 x13) fun c =>
 qP pG (iA 23 x1 x13) fun d =>
 qL pG a (blk c) (lA 68 c) fun f =>
 qL pG a (blk d) (lA 68 d) fun g =>
 qP pG (xBin .neq 68 (.tmp 19) (.tmp 23) f g) fun i =>
 xcond i
 (R (vB false) a)
 (oP E (xBin .add 3 (.tmp 13) (.const (vI 1)) x13 (vI 1)) a fun j k =>
 next2 [j] k))
 (j1 [] b)
def F46 (x0 x1 w) (R : RT) (E) :=
 oP E (xBuiltin .len #[23] 3 [false] [x0]) w fun b c =>
 oP E (xBuiltin .len #[23] 3 [false] [x1]) c fun d e =>
 oP E (xBin .neq 3 (.tmp 7) (.tmp 9) b d) e fun f a =>
 xcond f
 (R (vB false) a)
 (xcut (fun _ g => b4u g R E) fun j1 =>
 oP E (xBuiltin .len #[23] 3 [false] [x0]) a fun i j =>
 xloop [13] [(vI 0)] j fun k l next2 =>
 b8y x0 x1 i (k 13) l next2 j1 R E)
def h46 : Hint := (sQ (hS (sQ (hC (sQ hN) hN)) (hU [] (sQ (hB (hL [13] (sQ (hS (hC hN hN) (hS (hB (sQ (hS (.reg [(0, 65536, 1), (0, 131072, 32), (3, 262144, 196608), (4, 524288, 262144), (0, 1048576, 2), (0, 2097152, 32), (48, 4194304, 3145728), (64, 8388608, 4194304), (136, 16777216, 8912896)] [136, 136, 136, 128, 136, 136, 136, 8, 136] (.early 0 (.early 1 (.early 2 (.early 4 (.early 5 (.early 6 (.load 3 (.load 7 (.early 8 .done)))))))))) (hC (sQ hN) hN)))) hN)))))) (sQ hN))))
theorem c3T {x0 x1 : Value} (h : F46 x0 x1 w R E) : Cv pG 46 #[x0, x1] w R E := okF (h := h46) Tryz.func46 (by kernel_rfl) (by kernel_rfl) h
def b4v (w) (R : RT) (_E : Pan) :=
 ∀ _τ : Fr, (R (vB true) w)
def b8z (x1 x2 x15 x16 x17 w) (next2 : NT) (j1 : NT) (R : RT) (E) :=
 oP E (xBin .lss 3 (.tmp 17) (.tmp 16) x17 x16) w fun e a =>
 xcond e
 (oP E (iA 24 x15 x17) a fun f g =>
 oP E (lA 56 f) g fun i j =>
 oP E (xV (Instr.alloc 56 true (.tuple #[]))) j fun b k =>
 oP E (sA 56 b i) k fun _ l =>
 oP E (iA 24 x1 x17) l fun m n =>
 oP E (lA 56 m) n fun o p =>
 oP E (xV (Instr.alloc 56 true (.tuple #[]))) p fun c q =>
 oP E (sA 56 c o) q fun _ r =>
 oP E (lA 56 b) r fun s t =>
 oP E (lA 56 c) t fun u v =>
 oP E (xCall x2 [s, u]) v fun y z =>
 oP E (xV (Op.unary .not y)) z fun aa d =>
 xcond aa
 (R (vB false) d)
 (oP E (xBin .add 3 (.tmp 17) (.const (vI 1)) x17 (vI 1)) d fun ab ac =>
 next2 [ab] ac))
 (j1 [] a)
def F47 (x0 x1 x2 w) (R : RT) (E) :=
 oP E (xBuiltin .len #[24] 3 [false] [x0]) w fun b c =>
 oP E (xBuiltin .len #[24] 3 [false] [x1]) c fun d e =>
 oP E (xBin .neq 3 (.tmp 11) (.tmp 13) b d) e fun f a =>
 xcond f
 (R (vB false) a)
 (xcut (fun _ g => b4v g R E) fun j1 =>
 oP E (xBuiltin .len #[24] 3 [false] [x0]) a fun i j =>
 xloop [17] [(vI 0)] j fun k l next2 =>
 b8z x1 x2 x0 i (k 17) l next2 j1 R E)
def h47 : Hint := (sQ (hS (sQ (hC (sQ hN) hN)) (hU [] (sQ (hB (hL [17] (sQ (hS (hC hN hN) (hS (hB (sQ (sQ (sQ (hC (sQ hN) hN))))) hN)))))) (sQ hN))))
theorem c3U {x0 x1 x2 : Value} (h : F47 x0 x1 x2 w R E) : Cv pG 47 #[x0, x1, x2] w R E := okF (h := h47) Tryz.func47 (by kernel_rfl) (by kernel_rfl) h
def F48 (x0 x1 w) (R : RT) (E) :=
 oP E (xV (Instr.box 56 x0)) w fun a i =>
 oP E (xV (Instr.box 56 x1)) i fun b j =>
 oP E (fA 56 a 0) j fun k l =>
 oP E (lA 3 k) l fun m n =>
 oP E (fA 56 b 0) n fun o p =>
 oP E (lA 3 o) p fun q r =>
 oP E (xBin .eql 3 (.tmp 6) (.tmp 8) m q) r fun c s =>
 oP E (gsem (asB c) true (fA 56 a 1)) s fun t u =>
 oP E (gsem (asB c) true (lA 9 t)) u fun v y =>
 oP E (gsem (asB c) true (fA 56 b 1)) y fun z aa =>
 oP E (gsem (asB c) true (lA 9 z)) aa fun ab ac =>
 oP E (gsem (asB c) true (xBin .eql 9 (.tmp 12) (.tmp 14) v ab)) ac fun ad ae =>
 oP E (xPick c ad (vB false)) ae fun d af =>
 oP E (gsem (asB d) true (fA 56 a 2)) af fun ag ah =>
 oP E (gsem (asB d) true (lA 38 ag)) ah fun ai aj =>
 oP E (gsem (asB d) true (fA 56 b 2)) aj fun ak al =>
 oP E (gsem (asB d) true (lA 38 ak)) al fun am an =>
 oP E (gsem (asB d) true (xCall (fC 93) [ai, am, (fC 94)])) an fun ao ap =>
 oP E (xPick d ao (vB false)) ap fun e aq =>
 oP E (gsem (asB e) true (fA 56 a 3)) aq fun ar au =>
 oP E (gsem (asB e) true (lA 47 ar)) au fun av aw =>
 oP E (gsem (asB e) true (fA 56 b 3)) aw fun ax ay =>
 oP E (gsem (asB e) true (lA 47 ax)) ay fun az ba =>
 oP E (gsem (asB e) true (xCall (fC 95) [av, az, (fC 96)])) ba fun bb bc =>
 oP E (xPick e bb (vB false)) bc fun f bd =>
 oP E (gsem (asB f) true (fA 56 a 4)) bd fun be bf =>
 oP E (gsem (asB f) true (lA 24 be)) bf fun bg bh =>
 oP E (gsem (asB f) true (fA 56 b 4)) bh fun bi bj =>
 oP E (gsem (asB f) true (lA 24 bi)) bj fun bk bl =>
 oP E (gsem (asB f) true (xCall (fC 47) [bg, bk, (fC 48)])) bl fun bm bn =>
 oP E (xPick f bm (vB false)) bn fun g bo =>
 oP E (gsem (asB g) true (fA 56 a 5)) bo fun bp bq =>
 oP E (gsem (asB g) true (lA 24 bp)) bq fun br bs =>
 oP E (gsem (asB g) true (fA 56 b 5)) bs fun bt bu =>
 oP E (gsem (asB g) true (lA 24 bt)) bu fun bv bw =>
 oP E (gsem (asB g) true (xCall (fC 47) [br, bv, (fC 48)])) bw fun bz ca =>
 oP E (xPick g bz (vB false)) ca fun cb cc =>
 R cb cc
def h48 : Hint := (sQ (sQ hN))
theorem c3V {x0 x1 : Value} (h : F48 x0 x1 w R E) : Cv pG 48 #[x0, x1] w R E := okF (h := h48) Tryz.func48 (by kernel_rfl) (by kernel_rfl) h
def b8A (x3 x7 w) (R : RT) (E) :=
 ∀ _τ : Fr, (dX w fun a =>
 qP pG (xNil x7) fun g =>
 qP pG (fA 155 g 3) fun b =>
 qP pG (xNil x7) fun i =>
 qP pG (fA 155 i 2) fun f =>
 qP pG (xV (Instr.build 28 #[])) fun j =>
 qL pG a (blk b) (lA 61 b) fun k =>
 qL pG a (blk f) (lA 28 f) fun l =>
 qP pG (xV (Instr.build 103 #[(0, (vI 5)), (3, l)])) fun m =>
 oP E (xV (Instr.buildSlice 61 1 #[(0, m)])) a fun n c =>
 keepX [(blk b)] a c (opK pG E (xBuiltin .append #[61, 61] 61 [false, false] [k, n]) c fun o d =>
 keepX [] c d (opK pG E (sA 28 x3 j) d fun _ e =>
 keepX [] d e (xcell pG 28 x3 e fun p =>
 R (Value.tuple #[o, p, (vI 0)]) e))))
def b8B (x0 x3 x7 w) (next2 : NT) (j1 : NT) (R : RT) (E) :=
 oP E (xNil x7) w fun s t =>
 oP E (fA 155 s 1) t fun u v =>
 oP E (lA 3 u) v fun y z =>
 oP E (xBuiltin .len #[9] 3 [false] [x0]) z fun aa ab =>
 oP E (xBin .lss 3 (.tmp 34) (.tmp 36) y aa) ab fun ac l =>
 xcond ac
 (oP E (xNil x7) l fun ad ae =>
 oP E (fA 155 ad 2) ae fun af ag =>
 oP E (lA 28 af) ag fun ah ai =>
 oP E (xV (Instr.alloc 28 true (.tuple #[]))) ai fun a aj =>
 oP E (sA 28 a ah) aj fun _ ak =>
 oP E (xNil x7) ak fun al am =>
 oP E (fA 155 al 3) am fun an ao =>
 oP E (lA 61 an) ao fun ap aq =>
 oP E (xBuiltin .len #[61] 3 [false] [ap]) aq fun ar au =>
 oP E (xBin .eql 3 (.tmp 48) (.const (vI 32768)) ar (vI 32768)) au fun av m =>
 xcond av
 (dX m fun d =>
 qL pG d (blk a) (lA 28 a) fun aw =>
 oP E (sA 28 x3 aw) d fun _ e =>
 keepX [] d e (xcell pG 28 x3 e fun ax =>
 R (Value.tuple #[(nS), ax, (vI 23)]) e))
 (oP E (xCall (fC 100) [x7]) m fun n ay =>
 oP E (xT n 0) ay fun az ba =>
 oP E (xT n 1) ba fun _t55_81 bb =>
 oP E (xCall (fC 101) [x7, az]) bb fun bc bd =>
 oP E (xCall bc []) bd fun o be =>
 oP E (xT o 0) be fun bf bg =>
 oP E (xT o 1) bg fun p bh =>
 oP E (xV (Instr.alloc 103 true (.tuple #[]))) bh fun b bi =>
 oP E (sA 103 b bf) bi fun _ bj =>
 oP E (xBin .neq 29 (.tmp 63) (.const (vI 0)) p (vI 0)) bj fun bk q =>
 xcond bk
 (dX q fun f =>
 qL pG f (blk a) (lA 28 a) fun bl =>
 oP E (sA 28 x3 bl) f fun _ g =>
 keepX [] f g (xcell pG 28 x3 g fun bm =>
 R (Value.tuple #[(nS), bm, p]) g))
 (oP E (lA 28 a) q fun bn bo =>
 oP E (fA 103 b 3) bo fun bp bq =>
 oP E (sA 28 bp bn) bq fun _ br =>
 dX br fun c =>
 qP pG (xNil x7) fun bs =>
 qP pG (fA 155 bs 3) fun i =>
 qL pG c (blk i) (lA 61 i) fun bt =>
 qL pG c (blk b) (lA 103 b) fun bu =>
 oP E (xV (Instr.buildSlice 61 1 #[(0, bu)])) c fun bv j =>
 keepX [(blk i)] c j (opK pG E (xBuiltin .append #[61, 61] 61 [false, false] [bt, bv]) j fun bw k =>
 keepX [] j k (qP pG (xNil x7) fun bz =>
 qP pG (fA 155 bz 3) fun ca =>
 oP E (sA 61 ca bw) k fun _ r =>
 keepX [] k r (opK pG E (xCall (fC 99) [x7]) r fun _t39_121 cb =>
 next2 [] cb))))))
 (j1 [] l)
def F49 (x0 w) (R : RT) (E) :=
 oP E (xV (Instr.alloc 28 true (.tuple #[]))) w fun a g =>
 oP E (xCall (fC 97) [x0]) g fun c i =>
 oP E (xT c 0) i fun j k =>
 oP E (xT c 1) k fun d l =>
 oP E (xBin .neq 29 (.tmp 18) (.const (vI 0)) d (vI 0)) l fun m e =>
 xcond m
 (oP E (xCall (fC 98) [x0, j]) e fun n o =>
 oP E (sA 28 a n) o fun _ f =>
 xcell pG 28 a f fun p =>
 R (Value.tuple #[(nS), p, d]) f)
 (oP E (xCall (fC 98) [x0, (vI 0)]) e fun q r =>
 oP E (xV (Instr.build 155 #[(0, x0), (2, q)])) r fun s t =>
 oP E (xV (Instr.box 155 s)) t fun b u =>
 xcut (fun _ v => b8A a b v R E) fun j1 =>
 oP E (xCall (fC 99) [b]) u fun _t30_40 y =>
 xloop [] [] y fun _ z next2 =>
 b8B x0 a b z next2 j1 R E)
def h49 : Hint := (sQ (hS (sQ (sQ (hC (sQ hN) hN))) (sQ (hU [] (sQ (hB (hL [] (hS (sQ (hC hN hN)) (hS (hB (sQ (hS (sQ (hC (hS (.reg [(0, 1125899906842624, 256), (0, 4, 0), (3, 0, 1125899906842632), (7, 16, 0)] [0, 1, 0, 1] (.early 1 (.load 0 (.step 2 (.early 3 .done))))) hN) hN)) (sQ (sQ (hS (sQ (hC (hS (.reg [(0, 36893488147419103232, 256), (0, 73786976294838206464, 4096), (0, 4, 0), (5, 0, 36893488147419103240), (15, 16, 73786976294838206464)] [0, 1, 1, 0, 1] (.early 1 (.early 2 (.load 0 (.step 3 (.early 4 .done)))))) hN) hN)) (sQ (.reg [(0, 590295810358705651712, 128), (0, 1180591620717411303424, 128), (2, 2361183241434822606848, 1180591620717411303424), (4, 4722366482869645213696, 2361183241434822606848), (8, 9444732965739290427392, 4722366482869645213696), (0, 18889465931478580854784, 2048), (32, 37778931862957161709568, 18889465931478580854784), (80, 75557863725914323419136, 47223664828696452136960), (255, 151115727451828646838272, 590295810358705651712), (511, 302231454903657293676544, 151115727451828646838272), (767, 0, 377789318629571617095680)] [48, 48, 48, 48, 32, 16, 16, 0, 48, 48, 0] (.early 0 (.early 1 (.early 2 (.early 3 (.load 4 (.load 5 (.step 6 (.step 7 (.early 8 (.early 9 (.step 10 .done))))))))))))))))))) hN))))) (hS (.reg [(0, 604462909807314587353088, 128), (1, 1208925819614629174706176, 604462909807314587353088), (2, 2417851639229258349412352, 1208925819614629174706176), (4, 4835703278458516698824704, 2417851639229258349412352), (0, 9671406556917033397649408, 128), (16, 19342813113834066795298816, 9671406556917033397649408), (32, 38685626227668133590597632, 19342813113834066795298816), (64, 77371252455336267181195264, 38685626227668133590597632), (128, 154742504910672534362390528, 77371252455336267181195264), (256, 309485009821345068724781056, 154742504910672534362390528), (520, 618970019642690137449562112, 314320713099803585423605760), (0, 1237940039285380274899124224, 0), (2047, 4, 618970019642690137449562112), (8191, 0, 1237940039285380274899124232), (16383, 16, 0)] [136, 136, 136, 128, 136, 136, 136, 8, 136, 8, 0, 136, 136, 0, 136] (.early 0 (.early 1 (.early 2 (.early 4 (.early 5 (.early 6 (.early 11 (.load 3 (.load 7 (.early 8 (.step 9 (.step 10 (.early 12 (.step 13 (.early 14 .done)))))))))))))))) hN)))))
theorem c3W {x0 : Value} (h : F49 x0 w R E) : Cv pG 49 #[x0] w R E := okF (h := h49) Tryz.func49 (by kernel_rfl) (by kernel_rfl) h
def F51 (x0 w) (R : RT) (E) :=
 oP E (xV (Instr.alloc 103 true (.tuple #[]))) w fun c g =>
 dX g fun a =>
 qP pG (xNil x0) fun i =>
 qP pG (fA 101 i 0) fun d =>
 qP pG (xNil x0) fun j =>
 qP pG (fA 101 j 1) fun e =>
 qL pG a (blk d) (lA 61 d) fun k =>
 qL pG a (blk e) (lA 3 e) fun l =>
 qP pG (iA 61 k l) fun f =>
 qL pG a (blk f) (lA 103 f) fun m =>
 oP E (sA 103 c m) a fun _ b =>
 keepX [] a b (xcell pG 103 c b fun n =>
 R n b)
def h51 : Hint := (sQ (hS (.reg [(0, 8, 1), (1, 16, 8), (2, 32, 16), (4, 64, 32), (0, 128, 1), (16, 256, 128), (32, 512, 256), (64, 1024, 512), (136, 2048, 1088), (256, 4096, 2048), (1023, 0, 4100)] [648, 648, 648, 640, 648, 648, 648, 520, 648, 136, 0] (.early 0 (.early 1 (.early 2 (.early 4 (.early 5 (.early 6 (.load 3 (.load 7 (.early 8 (.load 9 (.step 10 .done)))))))))))) hN))
theorem c3X {x0 : Value} (h : F51 x0 w R E) : Cv pG 51 #[x0] w R E := okF (h := h51) Tryz.func51 (by kernel_rfl) (by kernel_rfl) h
def F52 (x0 w) (R : RT) (E) :=
 oP E (xCall (fC 51) [x0]) w fun a b =>
 oP E (xV (Instr.field 103 a 3)) b fun c d =>
 oP E (xV (Instr.build 98 #[(0, c), (1, (vI 40))])) d fun e f =>
 oP E (xV (Instr.makeInterface 98 e)) f fun g i =>
 oP E (xV (Instr.panic g)) i fun _ j =>
 R (Value.tuple #[]) j
def h52 : Hint := hN
theorem c3Y {x0 : Value} (h : F52 x0 w R E) : Cv pG 52 #[x0] w R E := okF (h := h52) Tryz.func52 (by kernel_rfl) (by kernel_rfl) h
def F53 (x0 x1 w) (R : RT) (E) :=
 oP E (xCall (fC 51) [x0]) w fun d e =>
 oP E (xV (Instr.alloc 103 true (.tuple #[]))) e fun b f =>
 oP E (sA 103 b d) f fun _ g =>
 oP E (fA 103 b 0) g fun i j =>
 oP E (lA 3 i) j fun k l =>
 oP E (xBin .eql 3 (.tmp 9) (.const (vI 3)) k (vI 3)) l fun c m =>
 oP E (gsem (asB c) false (fA 103 b 0)) m fun n o =>
 oP E (gsem (asB c) false (lA 3 n)) o fun p q =>
 oP E (gsem (asB c) false (xBin .eql 3 (.tmp 13) (.const (vI 4)) p (vI 4))) q fun r s =>
 oP E (xPick c (vB true) r) s fun a t =>
 oP E (gsem (asB a) true (fA 103 b 1)) t fun u v =>
 oP E (gsem (asB a) true (lA 9 u)) v fun y z =>
 oP E (gsem (asB a) true (xBin .eql 9 (.tmp 18) (.tmp 19) y (gval (asB a) true x1))) z fun aa ab =>
 oP E (xPick a aa (vB false)) ab fun ac ad =>
 R ac ad
def h53 : Hint := (sQ (sQ (sQ hN)))
theorem c3Z {x0 x1 : Value} (h : F53 x0 x1 w R E) : Cv pG 53 #[x0, x1] w R E := okF (h := h53) Tryz.func53 (by kernel_rfl) (by kernel_rfl) h
def b4w (x0 x2 x4 w) (R : RT) (E) :=
 ∀ _τ : Fr, (oP E (xCall (fC 103) [x0, (Value.string ⟨#[59]⟩)]) w fun _t46_29 b =>
 oP E (lA 68 x4) b fun c d =>
 oP E (sA 68 x2 c) d fun _ a =>
 xcell pG 68 x2 a fun e =>
 R e a)
def b4x (x0 _x2 x4 : Value) (w) (j1 : NT) (_R : RT) (E) :=
 ∀ _τ : Fr, (oP E (xCall (fC 104) [x0]) w fun a b =>
 oP E (xV (Instr.field 103 a 2)) b fun c d =>
 oP E (fA 68 x4 1) d fun e f =>
 oP E (sA 3 e c) f fun _ g =>
 oP E (xCall (fC 103) [x0, (Value.string ⟨#[93]⟩)]) g fun _t44_48 i =>
 j1 [] i)
def F54 (x0 w) (R : RT) (E) :=
 oP E (xV (Instr.alloc 68 true (.tuple #[]))) w fun e i =>
 oP E (xCall (fC 53) [x0, (Value.string ⟨#[97, 114, 114, 97, 121]⟩)]) i fun j k =>
 oP E (xNil x0) k fun l m =>
 oP E (fA 101 l 1) m fun n o =>
 oP E (lA 3 n) o fun p q =>
 oP E (xBin .add 3 (.tmp 11) (.const (vI 1)) p (vI 1)) q fun r s =>
 oP E (xNil x0) s fun t u =>
 oP E (fA 101 t 1) u fun v y =>
 oP E (sA 3 v r) y fun _ z =>
 oP E (xCall (fC 102) [x0, (vI 1)]) z fun aa ab =>
 oP E (xV (Instr.field 103 aa 1)) ab fun ac ad =>
 oP E (xV (Instr.build 68 #[(0, ac)])) ad fun ae af =>
 oP E (xV (Instr.alloc 68 true (.tuple #[]))) af fun d ag =>
 oP E (sA 68 d ae) ag fun _ f =>
 xcut (fun _ ah => b4w x0 e d ah R E) fun j1 =>
 xcond j
 (oP E (xCall (fC 103) [x0, (Value.string ⟨#[91]⟩)]) f fun _t21_38 ai =>
 xcut (fun _ aj => b4x x0 e d aj j1 R E) fun j2 =>
 oP E (xCall (fC 51) [x0]) ai fun ak al =>
 oP E (xV (Instr.alloc 103 true (.tuple #[]))) al fun a am =>
 oP E (sA 103 a ak) am fun _ an =>
 oP E (fA 103 a 0) an fun ao ap =>
 oP E (lA 3 ao) ap fun aq ar =>
 oP E (xBin .neq 3 (.tmp 25) (.const (vI 2)) aq (vI 2)) ar fun b au =>
 oP E (gsem (asB b) false (fA 103 a 2)) au fun av aw =>
 oP E (gsem (asB b) false (lA 2 av)) aw fun ax ay =>
 oP E (gsem (asB b) false (xBin .lss 2 (.tmp 29) (.const (vI 1)) ax (vI 1))) ay fun az ba =>
 oP E (xPick b (vB true) az) ba fun c bb =>
 oP E (gsem (asB c) false (fA 103 a 2)) bb fun bc bd =>
 oP E (gsem (asB c) false (lA 2 bc)) bd fun be bf =>
 oP E (gsem (asB c) false (xBin .gtr 2 (.tmp 34) (.const (vI 2147483647)) be (vI 2147483647))) bf fun bg bh =>
 oP E (xPick c (vB true) bg) bh fun bi g =>
 xcond bi
 (oP E (xCall (fC 52) [x0]) g fun _t38_80 bj =>
 j2 [] bj)
 (j2 [] g))
 (j1 [] f)
def h54 : Hint := (sQ (sQ (sQ (sQ (hU [] (sQ (hC (sQ (hU [] (sQ (sQ (hC hN hN))) (sQ hN))) hN)) (sQ (sQ hN)))))))
theorem c4a {x0 : Value} (h : F54 x0 w R E) : Cv pG 54 #[x0] w R E := okF (h := h54) Tryz.func54 (by kernel_rfl) (by kernel_rfl) h
def b4y (x0 x1 w) (R : RT) (E) :=
 ∀ _τ : Fr, (oP E (xBin .gtr 3 (.tmp 10) (.const (vI 40)) x1 (vI 40)) w fun b a =>
 xcond b
 (oP E (xCall (fC 51) [x0]) a fun c d =>
 oP E (xV (Instr.field 103 c 3)) d fun e f =>
 oP E (xV (Instr.build 98 #[(0, e), (1, (vI 41))])) f fun g i =>
 oP E (xV (Instr.makeInterface 98 g)) i fun j k =>
 oP E (xV (Instr.panic j)) k fun _ l =>
 R (Value.tuple #[]) l)
 (R (Value.tuple #[]) a))
def F55 (x0 x1 x2 w) (R : RT) (E) :=
 xcut (fun _ b => b4y x0 x1 b R E) fun j1 =>
 oP E (xV (Op.unary .not x2)) w fun c a =>
 xcond c
 (oP E (xCall (fC 52) [x0]) a fun _t9_17 d =>
 j1 [] d)
 (j1 [] a)
def h55 : Hint := (hU [] (sQ (hC hN hN)) (sQ (hC hN hN)))
theorem c4b {x0 x1 x2 : Value} (h : F55 x0 x1 x2 w R E) : Cv pG 55 #[x0, x1, x2] w R E := okF (h := h55) Tryz.func55 (by kernel_rfl) (by kernel_rfl) h
def F56 (x0 w) (R : RT) (E) :=
 oP E (xCall (fC 51) [x0]) w fun f g =>
 oP E (xV (Instr.field 103 f 0)) g fun i j =>
 oP E (xBin .eql 3 (.tmp 5) (.const (vI 1)) i (vI 1)) j fun a k =>
 oP E (gsem (asB a) false (xCall (fC 53) [(gval (asB a) false x0), (Value.string ⟨#[105, 102]⟩)])) k fun l m =>
 oP E (xPick a (vB true) l) m fun b n =>
 oP E (gsem (asB b) false (xCall (fC 53) [(gval (asB b) false x0), (Value.string ⟨#[119, 104, 105, 108, 101]⟩)])) n fun o p =>
 oP E (xPick b (vB true) o) p fun c q =>
 oP E (gsem (asB c) false (xCall (fC 53) [(gval (asB c) false x0), (Value.string ⟨#[97, 115, 115, 101, 114, 116]⟩)])) q fun r s =>
 oP E (xPick c (vB true) r) s fun d t =>
 oP E (gsem (asB d) false (xCall (fC 53) [(gval (asB d) false x0), (Value.string ⟨#[97, 115, 115, 117, 109, 101]⟩)])) t fun u v =>
 oP E (xPick d (vB true) u) v fun e y =>
 oP E (gsem (asB e) false (xCall (fC 53) [(gval (asB e) false x0), (Value.string ⟨#[115, 107, 105, 112]⟩)])) y fun z aa =>
 oP E (xPick e (vB true) z) aa fun ab ac =>
 R ab ac
def h56 : Hint := (sQ (sQ hN))
theorem c4c {x0 : Value} (h : F56 x0 w R E) : Cv pG 56 #[x0] w R E := okF (h := h56) Tryz.func56 (by kernel_rfl) (by kernel_rfl) h
def b4z (x0 x4 x5 w) (R : RT) (E) :=
 ∀ _τ : Fr, (oP E (xCall (fC 103) [x0, (Value.string ⟨#[59]⟩)]) w fun _t96_11 b =>
 oP E (lA 56 x5) b fun c d =>
 oP E (sA 56 x4 c) d fun _ a =>
 xcell pG 56 x4 a fun e =>
 R e a)
def b4A (x0 x1 _x4 x5 : Value) (w) (j1 : NT) (_R : RT) (E) :=
 ∀ _τ : Fr, (oP E (xCall (fC 103) [x0, (Value.string ⟨#[61]⟩)]) w fun _t30_35 g =>
 dX g fun b =>
 qP pG (fA 56 x5 2) fun a =>
 qL pG b (blk a) (lA 38 a) fun i =>
 oP E (xCall (fC 35) [x0, x1]) b fun j c =>
 keepX [(blk a)] b c (opK pG E (xV (Instr.buildSlice 38 1 #[(0, j)])) c fun k d =>
 keepX [(blk a)] c d (opK pG E (xBuiltin .append #[38, 38] 38 [false, false] [i, k]) d fun l e =>
 keepX [] d e (qP pG (fA 56 x5 2) fun m =>
 oP E (sA 38 m l) e fun _ f =>
 keepX [] e f (j1 [] f)))))
def b4B (x4 x5 w) (R : RT) (E) :=
 ∀ _τ : Fr, (oP E (lA 56 x5) w fun b c =>
 oP E (sA 56 x4 b) c fun _ a =>
 xcell pG 56 x4 a fun d =>
 R d a)
def F57 (x0 x1 w) (R : RT) (E) :=
 oP E (xV (Instr.alloc 56 true (.tuple #[]))) w fun c y =>
 oP E (xV (Instr.alloc 56 true (.tuple #[]))) y fun a z =>
 oP E (xCall (fC 104) [x0]) z fun aa ab =>
 oP E (xV (Instr.alloc 103 true (.tuple #[]))) ab fun b ac =>
 oP E (sA 103 b aa) ac fun _ ad =>
 xcut (fun _ ae => b4z x0 c a ae R E) fun j1 =>
 oP E (fA 103 b 0) ad fun af ag =>
 oP E (lA 3 af) ag fun ah ai =>
 oP E (xBin .eql 3 (.tmp 12) (.const (vI 1)) ah (vI 1)) ai fun aj m =>
 xcond aj
 (dX m fun e =>
 qP pG (fA 103 b 1) fun f =>
 qP pG (fA 56 a 0) fun ak =>
 qL pG e (blk f) (lA 9 f) fun al =>
 oP E (sA 3 ak (vI 1)) e fun _ g =>
 keepX [(blk f)] e g (qP pG (fA 56 a 1) fun am =>
 oP E (sA 9 am al) g fun _ n =>
 keepX [] g n (xcut (fun _ an => b4A x0 x1 c a an j1 R E) fun j2 =>
 oP E (xCall (fC 105) [x0, (Value.string ⟨#[91]⟩)]) n fun ao o =>
 xcond ao
 (oP E (fA 56 a 0) o fun ap aq =>
 oP E (sA 3 ap (vI 2)) aq fun _ ar =>
 dX ar fun i =>
 qP pG (fA 56 a 2) fun d =>
 qL pG i (blk d) (lA 38 d) fun au =>
 oP E (xCall (fC 106) [x0, x1, (Value.string ⟨#[93]⟩)]) i fun av j =>
 keepX [(blk d)] i j (opK pG E (xV (Instr.buildSlice 38 1 #[(0, av)])) j fun aw k =>
 keepX [(blk d)] j k (opK pG E (xBuiltin .append #[38, 38] 38 [false, false] [au, aw]) k fun ax l =>
 keepX [] k l (qP pG (fA 56 a 2) fun ay =>
 oP E (sA 38 ay ax) l fun _ p =>
 keepX [] l p (j2 [] p)))))
 (j2 [] o))))
 (oP E (fA 103 b 1) m fun az ba =>
 oP E (lA 9 az) ba fun bb bc =>
 oP E (xBin .eql 9 (.tmp 41) (.const (Value.string ⟨#[105, 102]⟩)) bb (Value.string ⟨#[105, 102]⟩)) bc fun bd q =>
 xcond bd
 (oP E (xCall (fC 41) [x0, x1]) q fun be bf =>
 oP E (xV (Instr.buildSlice 47 1 #[(0, be)])) bf fun bg bh =>
 oP E (fA 56 a 0) bh fun bi bj =>
 oP E (sA 3 bi (vI 3)) bj fun _ bk =>
 oP E (fA 56 a 3) bk fun bl bm =>
 oP E (sA 47 bl bg) bm fun _ bn =>
 oP E (xCall (fC 107) [x0, x1]) bn fun bo bp =>
 oP E (fA 56 a 4) bp fun bq br =>
 oP E (sA 24 bq bo) br fun _ bs =>
 xcut (fun _ bt => b4B c a bt R E) fun j3 =>
 oP E (xCall (fC 105) [x0, (Value.string ⟨#[101, 108, 115, 101]⟩)]) bs fun bu r =>
 xcond bu
 (oP E (xCall (fC 107) [x0, x1]) r fun bv bw =>
 oP E (fA 56 a 5) bw fun bz ca =>
 oP E (sA 24 bz bv) ca fun _ cb =>
 j3 [] cb)
 (j3 [] r))
 (oP E (fA 103 b 1) q fun cc cd =>
 oP E (lA 9 cc) cd fun ce cf =>
 oP E (xBin .eql 9 (.tmp 62) (.const (Value.string ⟨#[119, 104, 105, 108, 101]⟩)) ce (Value.string ⟨#[119, 104, 105, 108, 101]⟩)) cf fun cg s =>
 xcond cg
 (oP E (xCall (fC 41) [x0, x1]) s fun ch ci =>
 oP E (xV (Instr.buildSlice 47 1 #[(0, ch)])) ci fun cj ck =>
 oP E (fA 56 a 0) ck fun cl cm =>
 oP E (sA 3 cl (vI 4)) cm fun _ cn =>
 oP E (fA 56 a 3) cn fun co cp =>
 oP E (sA 47 co cj) cp fun _ cq =>
 oP E (xCall (fC 107) [x0, x1]) cq fun cr cs =>
 oP E (fA 56 a 4) cs fun ct cu =>
 oP E (sA 24 ct cr) cu fun _ cv =>
 oP E (lA 56 a) cv fun cw cx =>
 oP E (sA 56 c cw) cx fun _ t =>
 xcell pG 56 c t fun cy =>
 R cy t)
 (oP E (fA 103 b 1) s fun cz da =>
 oP E (lA 9 cz) da fun db dc =>
 oP E (xBin .eql 9 (.tmp 77) (.const (Value.string ⟨#[97, 115, 115, 101, 114, 116]⟩)) db (Value.string ⟨#[97, 115, 115, 101, 114, 116]⟩)) dc fun dd u =>
 xcond dd
 (oP E (xCall (fC 41) [x0, x1]) u fun de df =>
 oP E (xV (Instr.buildSlice 47 1 #[(0, de)])) df fun dg dh =>
 oP E (fA 56 a 0) dh fun di dj =>
 oP E (sA 3 di (vI 5)) dj fun _ dk =>
 oP E (fA 56 a 3) dk fun dl dm =>
 oP E (sA 47 dl dg) dm fun _ dn =>
 j1 [] dn)
 (oP E (fA 103 b 1) u fun dp dq =>
 oP E (lA 9 dp) dq fun dr ds =>
 oP E (xBin .eql 9 (.tmp 87) (.const (Value.string ⟨#[97, 115, 115, 117, 109, 101]⟩)) dr (Value.string ⟨#[97, 115, 115, 117, 109, 101]⟩)) ds fun dt v =>
 xcond dt
 (oP E (xCall (fC 41) [x0, x1]) v fun du dv =>
 oP E (xV (Instr.buildSlice 47 1 #[(0, du)])) dv fun dw dx =>
 oP E (fA 56 a 0) dx fun dy dz =>
 oP E (sA 3 dy (vI 6)) dz fun _ ea =>
 oP E (fA 56 a 3) ea fun eb ec =>
 oP E (sA 47 eb dw) ec fun _ ed =>
 j1 [] ed)
 (oP E (fA 56 a 0) v fun ee ef =>
 oP E (sA 3 ee (vI 7)) ef fun _ eg =>
 j1 [] eg)))))
def h57 : Hint := (sQ (sQ (sQ (hU [] (hB (sQ (hC (hS (.reg [(0, 16384, 64), (1, 32768, 16384), (0, 65536, 32), (4, 0, 65536), (15, 131072, 32), (31, 0, 163840)] [2, 0, 2, 2, 2, 0] (.early 0 (.early 2 (.load 1 (.step 3 (.early 4 (.step 5 .done))))))) (hU [] (sQ (hC (sQ (.reg [(0, 2097152, 32), (1, 4194304, 2097152), (0, 8388608, 1), (0, 16777216, 2), (12, 33554432, 25165824), (16, 67108864, 33554432), (50, 134217728, 71303168), (127, 268435456, 32), (255, 0, 402653184)] [2, 0, 2, 2, 2, 2, 0, 2, 0] (.early 0 (.early 2 (.early 3 (.load 1 (.step 4 (.step 5 (.step 6 (.early 7 (.step 8 .done))))))))))) hN)) (sQ (.reg [(0, 2147483648, 32), (1, 4294967296, 2147483648), (0, 8589934592, 1), (0, 17179869184, 2), (12, 34359738368, 25769803776), (16, 68719476736, 34359738368), (50, 137438953472, 73014444032), (127, 274877906944, 32), (255, 0, 412316860416)] [2, 0, 2, 2, 2, 2, 0, 2, 0] (.early 0 (.early 2 (.early 3 (.load 1 (.step 4 (.step 5 (.step 6 (.early 7 (.step 8 .done))))))))))))) (sQ (hC (sQ (sQ (hU [] (sQ (hC hN hN)) (sQ hN)))) (sQ (hC (sQ (sQ (sQ hN))) (sQ (hC hN (sQ (hC hN hN))))))))))) (sQ (sQ hN))))))
theorem c4d {x0 x1 : Value} (h : F57 x0 x1 w R E) : Cv pG 57 #[x0, x1] w R E := okF (h := h57) Tryz.func57 (by kernel_rfl) (by kernel_rfl) h
end Go.Proofs.YthklmeihgmcljaaGreatDoor
