/- The second reading of some of the program's functions, printed by gen2.py off the code; each is held against the code by the kernel. -/
import Derived.Test.YtaokfhdinhimfaaDoorProg
import Derived.KernelRfl
import Derived.Test.YtaokfhdinhimfaaDoorySK0
namespace Go.Proofs.YtaokfhdinhimfaaDoor
open Go.RowKit
set_option maxRecDepth 100000
def b2t (x6 : Value) (w : World) (R : Value → World → Prop) (_E : Pan) : Prop :=
 ∀ _τ : Fr, (R x6 w)
def b5R (x6 x25 x26 x27 : Value) (w : World) (next3 : List Value → World → Prop) (j2 : List Value → World → Prop) (_R : Value → World → Prop) (E : Pan) : Prop :=
 opK Tryd.prog E (xBin .lss 3 (.tmp 27) (.tmp 26) x27 x26) w fun b a =>
 xcond b
 (opK Tryd.prog E (xV (Instr.indexAt 135 x25 x27)) a fun c d =>
 opK Tryd.prog E (xV (Instr.loadAt 123 c)) d fun e f =>
 opK Tryd.prog E (xBuiltin .append #[123, 123] 123 [false, false] [x6, e]) f fun g i =>
 opK Tryd.prog E (xBin .add 3 (.tmp 27) (.const (Value.int .i64 1)) x27 (Value.int .i64 1)) i fun j k =>
 next3 [g, j] k)
 (j2 [x6] a)
def b2u (x0 x3 : Value) (w : World) (R : Value → World → Prop) (E : Pan) : Prop :=
 ∀ _τ : Fr, (opK Tryd.prog E (xCall (Value.func (.func 62) #[] #[]) [(Value.slice none 0 0), x3]) w fun b c =>
 xcut (fun d e => b2t (nth d 0) e R E) fun j2 =>
 opK Tryd.prog E (xBuiltin .len #[135] 3 [false] [x0]) c fun f g =>
 xloop [6, 27] [b, (Value.int .i64 0)] g fun a i next3 =>
 b5R (a 6) x0 f (a 27) i next3 j2 R E)
def b2v (_x0 x3 _x9 _x10 x11 : Value) (w : World) (next4 : List Value → World → Prop) (_R : Value → World → Prop) (E : Pan) : Prop :=
 ∀ _τ : Fr, (opK Tryd.prog E (xBin .add 3 (.tmp 11) (.const (Value.int .i64 1)) x11 (Value.int .i64 1)) w fun a b =>
 next4 [x3, a] b)
def b5S (x0 x3 x9 x10 x11 : Value) (w : World) (next4 : List Value → World → Prop) (j1 : List Value → World → Prop) (R : Value → World → Prop) (E : Pan) : Prop :=
 opK Tryd.prog E (xBin .lss 3 (.tmp 11) (.tmp 10) x11 x10) w fun d b =>
 xcond d
 (xcut (fun e f => b2v x0 (nth e 0) x9 x10 x11 f next4 R E) fun j5 =>
 opK Tryd.prog E (xV (Instr.indexAt 135 x9 x11)) b fun g i =>
 opK Tryd.prog E (xV (Instr.loadAt 123 g)) i fun j k =>
 opK Tryd.prog E (xBuiltin .len #[123] 3 [false] [j]) k fun l m =>
 opK Tryd.prog E (xBin .add 3 (.tmp 15) (.tmp 17) x3 l) m fun a n =>
 opK Tryd.prog E (xBin .lss 3 (.tmp 19) (.const (Value.int .i64 0)) a (Value.int .i64 0)) n fun o c =>
 xcond o
 (opK Tryd.prog E (xV (Instr.makeInterface 9 (Value.string ⟨#[108, 101, 110, 32, 111, 117, 116, 32, 111, 102, 32, 114, 97, 110, 103, 101]⟩))) c fun p q =>
 opK Tryd.prog E (xV (Instr.panic p)) q fun _ r =>
 j5 [a] r)
 (j5 [a] c))
 (j1 [x3] b)
def F55 (x0 : Value) (w : World) (R : Value → World → Prop) (E : Pan) : Prop :=
 xcut (fun b c => b2u x0 (nth b 0) c R E) fun j1 =>
 opK Tryd.prog E (xBuiltin .len #[135] 3 [false] [x0]) w fun d e =>
 xloop [3, 11] [(Value.int .i64 0), (Value.int .i64 0)] e fun a f next4 =>
 b5S x0 (a 3) x0 d (a 11) f next4 j1 R E
def h55 : Hint := (.seq .none (.seq .none (.cut [3] (.seq .none (.block (.loop [3, 11] (.seq .none (.seq (.cond .none .none) (.cut [3] (.block (.seq .none (.seq .none (.seq .none (.cond .none .none))))) .none)))))) (.seq .none (.cut [6] (.seq .none (.block (.loop [6, 27] (.seq .none (.seq (.cond .none .none) (.seq (.block (.seq .none .none)) .none)))))) (.seq .none .none))))))
theorem c0v {x0 : Value} {w : World} {R : Value → World → Prop} {E : Pan} (h : F55 x0 w R E) : Cv Tryd.prog 55 #[x0] w R E := okF (args := [x0]) (h := h55) Tryd.func55 (by kernel_rfl) (by kernel_rfl) h
def b2w (x5 : Value) (w : World) (R : Value → World → Prop) (_E : Pan) : Prop :=
 ∀ _τ : Fr, (R x5 w)
def b5T (x1 x5 x8 x9 x10 : Value) (w : World) (next2 : List Value → World → Prop) (j1 : List Value → World → Prop) (_R : Value → World → Prop) (E : Pan) : Prop :=
 opK Tryd.prog E (xBin .lss 3 (.tmp 10) (.tmp 9) x10 x9) w fun c a =>
 xcond c
 (opK Tryd.prog E (xV (Instr.indexAt 27 x8 x10)) a fun d e =>
 opK Tryd.prog E (xV (Instr.loadAt 35 d)) e fun f g =>
 opK Tryd.prog E (xV (Instr.alloc 35 true (.tuple #[]))) g fun b i =>
 opK Tryd.prog E (xU (Instr.storeAt 35 b f)) i fun _ j =>
 opK Tryd.prog E (xV (Instr.loadAt 35 b)) j fun k l =>
 opK Tryd.prog E (xCall x1 [k]) l fun m n =>
 opK Tryd.prog E (xV (Instr.buildSlice 123 1 #[(0, m)])) n fun o p =>
 opK Tryd.prog E (xBuiltin .append #[123, 123] 123 [false, false] [x5, o]) p fun q r =>
 opK Tryd.prog E (xBin .add 3 (.tmp 10) (.const (Value.int .i64 1)) x10 (Value.int .i64 1)) r fun s t =>
 next2 [q, s] t)
 (j1 [x5] a)
def F56 (x0 x1 : Value) (w : World) (R : Value → World → Prop) (E : Pan) : Prop :=
 xcut (fun b c => b2w (nth b 0) c R E) fun j1 =>
 opK Tryd.prog E (xBuiltin .len #[27] 3 [false] [x0]) w fun d e =>
 xloop [5, 10] [(Value.slice none 0 0), (Value.int .i64 0)] e fun a f next2 =>
 b5T x1 (a 5) x0 d (a 10) f next2 j1 R E
def h56 : Hint := (.seq .none (.seq .none (.cut [5] (.seq .none (.block (.loop [5, 10] (.seq .none (.seq (.cond .none .none) (.seq (.block (.seq .none .none)) .none)))))) (.seq .none .none))))
theorem c0w {x0 x1 : Value} {w : World} {R : Value → World → Prop} {E : Pan} (h : F56 x0 x1 w R E) : Cv Tryd.prog 56 #[x0, x1] w R E := okF (args := [x0, x1]) (h := h56) Tryd.func56 (by kernel_rfl) (by kernel_rfl) h
def F57 (x0 : Value) (w : World) (R : Value → World → Prop) (E : Pan) : Prop :=
 opK Tryd.prog E (xV (Instr.box 35 x0)) w fun a b =>
 opK Tryd.prog E (xV (Instr.loadAt 35 a)) b fun c d =>
 opK Tryd.prog E (xV (Instr.build 138 #[(0, c)])) d fun e f =>
 opK Tryd.prog E (xV (Instr.makeInterface 138 e)) f fun g i =>
 R g i
def h57 : Hint := (.seq .none (.seq .none .none))
theorem c0x {x0 : Value} {w : World} {R : Value → World → Prop} {E : Pan} (h : F57 x0 w R E) : Cv Tryd.prog 57 #[x0] w R E := okF (args := [x0]) (h := h57) Tryd.func57 (by kernel_rfl) (by kernel_rfl) h
def b2x (x5 : Value) (w : World) (R : Value → World → Prop) (_E : Pan) : Prop :=
 ∀ _τ : Fr, (R x5 w)
def b5U (x1 x5 x8 x9 x10 : Value) (w : World) (next2 : List Value → World → Prop) (j1 : List Value → World → Prop) (_R : Value → World → Prop) (E : Pan) : Prop :=
 opK Tryd.prog E (xBin .lss 3 (.tmp 10) (.tmp 9) x10 x9) w fun c a =>
 xcond c
 (opK Tryd.prog E (xV (Instr.indexAt 37 x8 x10)) a fun d e =>
 opK Tryd.prog E (xV (Instr.loadAt 39 d)) e fun f g =>
 opK Tryd.prog E (xV (Instr.alloc 39 true (.tuple #[]))) g fun b i =>
 opK Tryd.prog E (xU (Instr.storeAt 39 b f)) i fun _ j =>
 opK Tryd.prog E (xV (Instr.loadAt 39 b)) j fun k l =>
 opK Tryd.prog E (xCall x1 [k]) l fun m n =>
 opK Tryd.prog E (xV (Instr.buildSlice 123 1 #[(0, m)])) n fun o p =>
 opK Tryd.prog E (xBuiltin .append #[123, 123] 123 [false, false] [x5, o]) p fun q r =>
 opK Tryd.prog E (xBin .add 3 (.tmp 10) (.const (Value.int .i64 1)) x10 (Value.int .i64 1)) r fun s t =>
 next2 [q, s] t)
 (j1 [x5] a)
def F58 (x0 x1 : Value) (w : World) (R : Value → World → Prop) (E : Pan) : Prop :=
 xcut (fun b c => b2x (nth b 0) c R E) fun j1 =>
 opK Tryd.prog E (xBuiltin .len #[37] 3 [false] [x0]) w fun d e =>
 xloop [5, 10] [(Value.slice none 0 0), (Value.int .i64 0)] e fun a f next2 =>
 b5U x1 (a 5) x0 d (a 10) f next2 j1 R E
def h58 : Hint := (.seq .none (.seq .none (.cut [5] (.seq .none (.block (.loop [5, 10] (.seq .none (.seq (.cond .none .none) (.seq (.block (.seq .none .none)) .none)))))) (.seq .none .none))))
theorem c0y {x0 x1 : Value} {w : World} {R : Value → World → Prop} {E : Pan} (h : F58 x0 x1 w R E) : Cv Tryd.prog 58 #[x0, x1] w R E := okF (args := [x0, x1]) (h := h58) Tryd.func58 (by kernel_rfl) (by kernel_rfl) h
def F59 (x0 : Value) (w : World) (R : Value → World → Prop) (E : Pan) : Prop :=
 opK Tryd.prog E (xV (Instr.box 39 x0)) w fun a b =>
 opK Tryd.prog E (xV (Instr.loadAt 39 a)) b fun c d =>
 opK Tryd.prog E (xV (Instr.build 140 #[(0, c)])) d fun e f =>
 opK Tryd.prog E (xV (Instr.makeInterface 140 e)) f fun g i =>
 R g i
def h59 : Hint := (.seq .none (.seq .none .none))
theorem c0z {x0 : Value} {w : World} {R : Value → World → Prop} {E : Pan} (h : F59 x0 w R E) : Cv Tryd.prog 59 #[x0] w R E := okF (args := [x0]) (h := h59) Tryd.func59 (by kernel_rfl) (by kernel_rfl) h
def b2y (w : World) (R : Value → World → Prop) (_E : Pan) : Prop :=
 ∀ _τ : Fr, (R (Value.bool true) w)
def b5V (x1 x2 x3 x9 x10 x11 : Value) (w : World) (next2 : List Value → World → Prop) (j1 : List Value → World → Prop) (R : Value → World → Prop) (E : Pan) : Prop :=
 opK Tryd.prog E (xBin .lss 3 (.tmp 11) (.tmp 10) x11 x10) w fun i f =>
 xcond i
 (opK Tryd.prog E (xV (Instr.indexAt 123 x9 x11)) f fun j k =>
 opK Tryd.prog E (xV (Instr.loadAt 126 j)) k fun g l =>
 dX l fun c =>
 qL Tryd.prog c (blk x2) (xV (Instr.loadAt 117 x2)) fun m =>
 opK Tryd.prog E (xCall (Value.func (.func 61) #[] #[]) [m, g, x1]) c fun n b =>
 keepX [] c b (qP Tryd.prog (xV (Op.unary .not n)) fun a =>
 qP Tryd.prog (gsem (asB a) false (xBin .add 3 (.tmp 24) (.const (Value.int .i64 1)) (gval (asB a) false x1) (Value.int .i64 1))) fun o =>
 qL Tryd.prog b (blk x3) (gsem (asB a) false (xV (Instr.loadAt 132 x3))) fun p =>
 opK Tryd.prog E (gsem (asB a) false (xInvoke (gval (asB a) false g) "gnomon/tree.parts" [])) b fun q d =>
 keepX [(blk x3)] b d (opK Tryd.prog E (gsem (asB a) false (xCall p [q, o])) d fun r e =>
 keepX [] d e (qP Tryd.prog (gsem (asB a) false (xV (Op.unary .not r))) fun s =>
 qP Tryd.prog (xPick a (Value.bool true) s) fun t =>
 xcond t
 (R (Value.bool false) e)
 (opK Tryd.prog E (xBin .add 3 (.tmp 11) (.const (Value.int .i64 1)) x11 (Value.int .i64 1)) e fun u v =>
 next2 [u] v)))))
 (j1 [] f)
def F60 (x0 x1 x2 x3 : Value) (w : World) (R : Value → World → Prop) (E : Pan) : Prop :=
 xcut (fun _ a => b2y a R E) fun j1 =>
 opK Tryd.prog E (xBuiltin .len #[123] 3 [false] [x0]) w fun b c =>
 xloop [11] [(Value.int .i64 0)] c fun d e next2 =>
 b5V x1 x2 x3 x0 b (d 11) e next2 j1 R E
def h60 : Hint := (.seq .none (.cut [] (.seq .none (.block (.loop [11] (.seq .none (.seq (.cond .none .none) (.seq (.block (.seq .none (.seq (.reg [(0, 32768, 4), (0, 65536, 256), (0, 131072, 2), (7, 262144, 229376), (8, 524288, 262144), (24, 1048576, 524288), (32, 2097152, 1048584), (32, 4194304, 1048832), (160, 8388608, 5242880), (32, 16777216, 1048578), (544, 33554432, 17825792), (1376, 67108864, 45088768), (2080, 134217728, 68157440), (4128, 268435456, 135266304)] [64, 65, 65, 0, 65, 65, 1, 65, 64, 65, 65, 0, 65, 65] (.early 1 (.early 2 (.load 0 (.step 3 (.early 4 (.early 5 (.early 7 (.early 9 (.early 10 (.load 6 (.step 8 (.step 11 (.early 12 (.early 13 .done))))))))))))))) (.cond (.seq .none .none) .none)))) .none)))))) (.seq .none .none)))
theorem c0A {x0 x1 x2 x3 : Value} {w : World} {R : Value → World → Prop} {E : Pan} (h : F60 x0 x1 x2 x3 w R E) : Cv Tryd.prog 60 #[x0, x1, x2, x3] w R E := okF (args := [x0, x1, x2, x3]) (h := h60) Tryd.func60 (by kernel_rfl) (by kernel_rfl) h
def b2z (w : World) (R : Value → World → Prop) (_E : Pan) : Prop :=
 ∀ _τ : Fr, (R (Value.bool true) w)
def F61 (x0 x1 x2 : Value) (w : World) (R : Value → World → Prop) (E : Pan) : Prop :=
 opK Tryd.prog E (xNil x0) w fun j k =>
 opK Tryd.prog E (xV (Instr.fieldAt 116 j 0)) k fun l m =>
 opK Tryd.prog E (xV (Instr.loadAt 3 l)) m fun n o =>
 opK Tryd.prog E (xBin .add 3 (.tmp 12) (.const (Value.int .i64 1)) n (Value.int .i64 1)) o fun p q =>
 opK Tryd.prog E (xNil x0) q fun r s =>
 opK Tryd.prog E (xV (Instr.fieldAt 116 r 0)) s fun t u =>
 opK Tryd.prog E (xU (Instr.storeAt 3 t p)) u fun _ v =>
 opK Tryd.prog E (xNil x0) v fun y z =>
 opK Tryd.prog E (xV (Instr.fieldAt 116 y 0)) z fun aa ab =>
 opK Tryd.prog E (xV (Instr.loadAt 3 aa)) ab fun ac ad =>
 opK Tryd.prog E (xBin .gtr 3 (.tmp 19) (.const (Value.int .i64 4096)) ac (Value.int .i64 4096)) ad fun ae d =>
 xcond ae
 (opK Tryd.prog E (xNil x0) d fun af ag =>
 opK Tryd.prog E (xV (Instr.fieldAt 116 af 2)) ag fun ah ai =>
 opK Tryd.prog E (xU (Instr.storeAt 31 ah (Value.int .i64 33))) ai fun _ aj =>
 R (Value.bool false) aj)
 (opK Tryd.prog E (xBin .gtr 3 (.tmp 24) (.const (Value.int .i64 64)) x2 (Value.int .i64 64)) d fun ak e =>
 xcond ak
 (opK Tryd.prog E (xNil x0) e fun al am =>
 opK Tryd.prog E (xV (Instr.fieldAt 116 al 2)) am fun an ao =>
 opK Tryd.prog E (xU (Instr.storeAt 31 an (Value.int .i64 32))) ao fun _ ap =>
 R (Value.bool false) ap)
 (opK Tryd.prog E (xNil x0) e fun aq ar =>
 opK Tryd.prog E (xV (Instr.fieldAt 116 aq 1)) ar fun au av =>
 opK Tryd.prog E (xV (Instr.loadAt 3 au)) av fun aw ax =>
 opK Tryd.prog E (xBuiltin .max #[3, 3] 3 [false, false] [aw, x2]) ax fun ay az =>
 opK Tryd.prog E (xNil x0) az fun ba bb =>
 opK Tryd.prog E (xV (Instr.fieldAt 116 ba 1)) bb fun bc bd =>
 opK Tryd.prog E (xU (Instr.storeAt 3 bc ay)) bd fun _ be =>
 opK Tryd.prog E (xNil x0) be fun bf bg =>
 opK Tryd.prog E (xV (Instr.fieldAt 116 bf 3)) bg fun bh bi =>
 opK Tryd.prog E (xV (Instr.loadAt 4 bh)) bi fun a bj =>
 opK Tryd.prog E (gsem (asB a) false (xInvoke (gval (asB a) false x1) "gnomon/tree.form" [])) bj fun bk bl =>
 opK Tryd.prog E (gsem (asB a) false (xV (Op.unary .not bk))) bl fun bm bn =>
 opK Tryd.prog E (xPick a (Value.bool true) bm) bn fun bo bp =>
 opK Tryd.prog E (xNil x0) bp fun bq br =>
 opK Tryd.prog E (xV (Instr.fieldAt 116 bq 3)) br fun bs bt =>
 opK Tryd.prog E (xU (Instr.storeAt 4 bs bo)) bt fun _ bu =>
 xcut (fun _ bv => b2z bv R E) fun j1 =>
 opK Tryd.prog E (xCall (Value.func (.func 63) #[] #[]) [x1]) bu fun f bw =>
 opK Tryd.prog E (xV (Instr.extract f 0)) bw fun c bz =>
 opK Tryd.prog E (xV (Instr.extract f 1)) bz fun ca g =>
 xcond ca
 (opK Tryd.prog E (xNil x0) g fun cb cc =>
 opK Tryd.prog E (xV (Instr.fieldAt 116 cb 4)) cc fun cd ce =>
 opK Tryd.prog E (xV (Instr.loadAt 4 cd)) ce fun b cf =>
 opK Tryd.prog E (gsem (asB b) false (xCall (Value.func (.func 64) #[] #[]) [(gval (asB b) false c)])) cf fun cg ch =>
 opK Tryd.prog E (gsem (asB b) false (xV (Op.unary .not cg))) ch fun ci cj =>
 opK Tryd.prog E (xPick b (Value.bool true) ci) cj fun ck cl =>
 opK Tryd.prog E (xNil x0) cl fun cm cn =>
 opK Tryd.prog E (xV (Instr.fieldAt 116 cm 4)) cn fun co cp =>
 opK Tryd.prog E (xU (Instr.storeAt 4 co ck)) cp fun _ cq =>
 opK Tryd.prog E (xNil x0) cq fun cr cs =>
 opK Tryd.prog E (xV (Instr.fieldAt 116 cr 5)) cs fun ct cu =>
 opK Tryd.prog E (xV (Instr.loadAt 26 ct)) cu fun cv cw =>
 opK Tryd.prog E (xCall (Value.func (.func 65) #[] #[]) [cv, c]) cw fun cx cy =>
 opK Tryd.prog E (xV (Op.unary .not cx)) cy fun cz i =>
 xcond cz
 (opK Tryd.prog E (xNil x0) i fun da db =>
 opK Tryd.prog E (xV (Instr.fieldAt 116 da 5)) db fun dc dd =>
 opK Tryd.prog E (xV (Instr.loadAt 26 dc)) dd fun de df =>
 opK Tryd.prog E (xV (Instr.buildSlice 26 1 #[(0, c)])) df fun dg dh =>
 opK Tryd.prog E (xBuiltin .append #[26, 26] 26 [false, false] [de, dg]) dh fun di dj =>
 opK Tryd.prog E (xNil x0) dj fun dk dl =>
 opK Tryd.prog E (xV (Instr.fieldAt 116 dk 5)) dl fun dm dn =>
 opK Tryd.prog E (xU (Instr.storeAt 26 dm di)) dn fun _ dp =>
 j1 [] dp)
 (j1 [] i))
 (j1 [] g)))
def h61 : Hint := (.seq .none (.seq (.seq .none (.seq .none (.cond (.seq .none (.seq .none .none)) .none))) (.seq (.seq .none (.cond (.seq .none (.seq .none .none)) .none)) (.seq .none (.seq .none (.cut [] (.seq .none (.seq .none (.cond (.seq .none (.seq .none (.cond .none .none))) .none))) (.seq .none .none)))))))
theorem c0B {x0 x1 x2 : Value} {w : World} {R : Value → World → Prop} {E : Pan} (h : F61 x0 x1 x2 w R E) : Cv Tryd.prog 61 #[x0, x1, x2] w R E := okF (args := [x0, x1, x2]) (h := h61) Tryd.func61 (by kernel_rfl) (by kernel_rfl) h
def b2A (x0 : Value) (w : World) (R : Value → World → Prop) (_E : Pan) : Prop :=
 ∀ _τ : Fr, (R x0 w)
def b5W (x0 x1 : Value) (w : World) (R : Value → World → Prop) (E : Pan) : Prop :=
 ∀ _τ : Fr, (xcut (fun c d => b2A (nth c 0) d R E) fun j2 =>
 opK Tryd.prog E (xBuiltin .cap #[123] 3 [false] [x0]) w fun e f =>
 opK Tryd.prog E (xBuiltin .len #[123] 3 [false] [x0]) f fun g i =>
 opK Tryd.prog E (xBin .sub 3 (.tmp 10) (.tmp 12) e g) i fun j k =>
 opK Tryd.prog E (xBin .sub 3 (.tmp 8) (.tmp 13) x1 j) k fun a l =>
 opK Tryd.prog E (xBin .gtr 3 (.tmp 15) (.const (Value.int .i64 0)) a (Value.int .i64 0)) l fun m b =>
 xcond m
 (opK Tryd.prog E (xBuiltin .cap #[123] 3 [false] [x0]) b fun n o =>
 opK Tryd.prog E (xV (Instr.sliceAt 123 x0 none (some n) none)) o fun p q =>
 opK Tryd.prog E (xBuiltin .append #[123, 3] 123 [false, false] [p, a]) q fun r s =>
 opK Tryd.prog E (xBuiltin .len #[123] 3 [false] [x0]) s fun t u =>
 opK Tryd.prog E (xV (Instr.sliceAt 123 r none (some t) none)) u fun v y =>
 j2 [v] y)
 (j2 [x0] b))
def F62 (x0 x1 : Value) (w : World) (R : Value → World → Prop) (E : Pan) : Prop :=
 xcut (fun _ b => b5W x0 x1 b R E) fun j1 =>
 opK Tryd.prog E (xBin .lss 3 (.tmp 5) (.const (Value.int .i64 0)) x1 (Value.int .i64 0)) w fun c a =>
 xcond c
 (opK Tryd.prog E (xV (Instr.makeInterface 9 (Value.string ⟨#[99, 97, 110, 110, 111, 116, 32, 98, 101, 32, 110, 101, 103, 97, 116, 105, 118, 101]⟩))) a fun d e =>
 opK Tryd.prog E (xV (Instr.panic d)) e fun _ f =>
 j1 [] f)
 (j1 [] a)
def h62 : Hint := (.seq .none (.cut [] (.seq .none (.cond .none .none)) (.cut [0] (.seq .none (.seq .none (.cond .none .none))) (.seq .none .none))))
theorem c0C {x0 x1 : Value} {w : World} {R : Value → World → Prop} {E : Pan} (h : F62 x0 x1 w R E) : Cv Tryd.prog 62 #[x0, x1] w R E := okF (args := [x0, x1]) (h := h62) Tryd.func62 (by kernel_rfl) (by kernel_rfl) h
def F63 (x0 : Value) (w : World) (R : Value → World → Prop) (E : Pan) : Prop :=
 opK Tryd.prog E (xV (Instr.typeAssert x0 126 138 true)) w fun g u =>
 opK Tryd.prog E (xV (Instr.extract g 1)) u fun v y =>
 opK Tryd.prog E (xV (Instr.extract g 0)) y fun z i =>
 xcond v
 (opK Tryd.prog E (xV (Instr.alloc 138 true (.tuple #[]))) i fun j aa =>
 opK Tryd.prog E (xU (Instr.storeAt 138 j z)) aa fun _ ab =>
 opK Tryd.prog E (xV (Instr.fieldAt 138 j 0)) ab fun ac ad =>
 opK Tryd.prog E (xV (Instr.fieldAt 35 ac 0)) ad fun ae af =>
 opK Tryd.prog E (xV (Instr.loadAt 9 ae)) af fun ag ah =>
 R (Value.tuple #[ag, (Value.bool true)]) ah)
 (opK Tryd.prog E (xV (Instr.typeAssert x0 126 140 true)) i fun k ai =>
 opK Tryd.prog E (xV (Instr.extract k 1)) ai fun aj ak =>
 opK Tryd.prog E (xV (Instr.extract k 0)) ak fun al l =>
 xcond aj
 (opK Tryd.prog E (xV (Instr.alloc 140 true (.tuple #[]))) l fun c am =>
 opK Tryd.prog E (xU (Instr.storeAt 140 c al)) am fun _ an =>
 dX an fun d =>
 qP Tryd.prog (xV (Instr.fieldAt 140 c 0)) fun ao =>
 qP Tryd.prog (xV (Instr.fieldAt 39 ao 1)) fun m =>
 qP Tryd.prog (xV (Instr.fieldAt 140 c 0)) fun ap =>
 qP Tryd.prog (xV (Instr.fieldAt 39 ap 0)) fun n =>
 qL Tryd.prog d (blk m) (xV (Instr.loadAt 9 m)) fun aq =>
 qL Tryd.prog d (blk n) (xV (Instr.loadAt 3 n)) fun ar =>
 qP Tryd.prog (xBin .eql 3 (.tmp 22) (.const (Value.int .i64 1)) ar (Value.int .i64 1)) fun a =>
 qP Tryd.prog (gsem (asB a) false (xV (Instr.fieldAt 140 c 0))) fun au =>
 qP Tryd.prog (gsem (asB a) false (xV (Instr.fieldAt 39 au 0))) fun o =>
 qL Tryd.prog d (blk o) (gsem (asB a) false (xV (Instr.loadAt 3 o))) fun av =>
 qP Tryd.prog (gsem (asB a) false (xBin .eql 3 (.tmp 27) (.const (Value.int .i64 2)) av (Value.int .i64 2))) fun aw =>
 qP Tryd.prog (xPick a (Value.bool true) aw) fun ax =>
 R (Value.tuple #[aq, ax]) d)
 (opK Tryd.prog E (xV (Instr.typeAssert x0 126 146 true)) l fun p ay =>
 opK Tryd.prog E (xV (Instr.extract p 1)) ay fun az ba =>
 opK Tryd.prog E (xV (Instr.extract p 0)) ba fun bb q =>
 xcond az
 (opK Tryd.prog E (xV (Instr.alloc 146 true (.tuple #[]))) q fun e bc =>
 opK Tryd.prog E (xU (Instr.storeAt 146 e bb)) bc fun _ bd =>
 dX bd fun f =>
 qP Tryd.prog (xV (Instr.fieldAt 146 e 0)) fun be =>
 qP Tryd.prog (xV (Instr.fieldAt 25 be 2)) fun r =>
 qP Tryd.prog (xV (Instr.fieldAt 146 e 0)) fun bf =>
 qP Tryd.prog (xV (Instr.fieldAt 25 bf 0)) fun s =>
 qL Tryd.prog f (blk r) (xV (Instr.loadAt 9 r)) fun bg =>
 qL Tryd.prog f (blk s) (xV (Instr.loadAt 3 s)) fun bh =>
 qP Tryd.prog (xBin .eql 3 (.tmp 38) (.const (Value.int .i64 2)) bh (Value.int .i64 2)) fun b =>
 qP Tryd.prog (gsem (asB b) false (xV (Instr.fieldAt 146 e 0))) fun bi =>
 qP Tryd.prog (gsem (asB b) false (xV (Instr.fieldAt 25 bi 0))) fun t =>
 qL Tryd.prog f (blk t) (gsem (asB b) false (xV (Instr.loadAt 3 t))) fun bj =>
 qP Tryd.prog (gsem (asB b) false (xBin .eql 3 (.tmp 43) (.const (Value.int .i64 4)) bj (Value.int .i64 4))) fun bk =>
 qP Tryd.prog (xPick b (Value.bool true) bk) fun bl =>
 R (Value.tuple #[bg, bl]) f)
 (R (Value.tuple #[(Value.string ⟨#[]⟩), (Value.bool false)]) q)))
def h63 : Hint := (.seq .none (.seq (.seq .none (.block (.seq .none (.cond (.seq .none (.seq .none .none)) (.seq .none (.cond (.seq .none (.seq (.reg [(0, 131072, 32), (1, 262144, 131072), (2, 524288, 262144), (0, 1048576, 32), (8, 2097152, 1048576), (16, 4194304, 2097152), (32, 8388608, 4194304), (64, 16777216, 8388608), (128, 33554432, 16777248), (384, 67108864, 50331648), (640, 134217728, 83886080), (1152, 268435456, 150994944), (2176, 536870912, 285212672), (135, 4, 524288), (16383, 8, 536870912)] [1060, 1060, 1056, 1060, 1060, 1028, 1060, 1060, 1060, 1060, 36, 1060, 1060, 1060, 1060] (.early 0 (.early 1 (.early 3 (.early 4 (.load 2 (.load 5 (.early 6 (.early 7 (.early 8 (.early 9 (.early 13 (.load 10 (.early 11 (.early 12 (.early 14 .done)))))))))))))))) .none)) (.seq .none (.cond (.seq .none (.seq (.reg [(0, 8589934592, 64), (1, 17179869184, 8589934592), (2, 34359738368, 17179869184), (0, 68719476736, 64), (8, 137438953472, 68719476736), (16, 274877906944, 137438953472), (32, 549755813888, 274877906944), (64, 1099511627776, 549755813888), (128, 2199023255552, 1099511627840), (384, 4398046511104, 3298534883328), (640, 8796093022208, 5497558138880), (1152, 17592186044416, 9895604649984), (2176, 35184372088832, 18691697672192), (135, 4, 34359738368), (16383, 8, 35184372088832)] [1060, 1060, 1056, 1060, 1060, 1028, 1060, 1060, 1060, 1060, 36, 1060, 1060, 1060, 1060] (.early 0 (.early 1 (.early 3 (.early 4 (.load 2 (.load 5 (.early 6 (.early 7 (.early 8 (.early 9 (.early 13 (.load 10 (.early 11 (.early 12 (.early 14 .done)))))))))))))))) .none)) .none)))))))) (.seq .none .none)))
theorem c0D {x0 : Value} {w : World} {R : Value → World → Prop} {E : Pan} (h : F63 x0 w R E) : Cv Tryd.prog 63 #[x0] w R E := okF (args := [x0]) (h := h63) Tryd.func63 (by kernel_rfl) (by kernel_rfl) h
def b2B (w : World) (R : Value → World → Prop) (_E : Pan) : Prop :=
 ∀ _τ : Fr, (R (Value.bool true) w)
def b5X (x21 : Value) (w : World) (next2 : List Value → World → Prop) (j1 : List Value → World → Prop) (R : Value → World → Prop) (E : Pan) : Prop :=
 opK Tryd.prog E (xV (Instr.next x21 true 0)) w fun c g =>
 opK Tryd.prog E (xV (Instr.extract c 0)) g fun i d =>
 xcond i
 (opK Tryd.prog E (xV (Instr.extract c 1)) d fun j k =>
 opK Tryd.prog E (xV (Instr.extract c 2)) k fun e l =>
 opK Tryd.prog E (xCall (Value.func (.func 69) #[] #[]) [e]) l fun m n =>
 opK Tryd.prog E (xV (Op.unary .not m)) n fun a o =>
 opK Tryd.prog E (gsem (asB a) false (xBin .eql 3 (.tmp 30) (.const (Value.int .i64 0)) (gval (asB a) false j) (Value.int .i64 0))) o fun b p =>
 opK Tryd.prog E (gsem (asB (gval (asB a) false b)) true (xCall (Value.func (.func 70) #[] #[]) [(gval (asB (gval (asB a) false b)) true e)])) p fun q r =>
 opK Tryd.prog E (gsem (asB (gval (asB a) false b)) true (xBin .neq 3 (.tmp 34) (.const (Value.int .i64 3)) q (Value.int .i64 3))) r fun s t =>
 opK Tryd.prog E (gsem (asB a) false (xPick (gval (asB a) false b) s (Value.bool false))) t fun u v =>
 opK Tryd.prog E (xPick a (Value.bool true) u) v fun y f =>
 xcond y
 (R (Value.bool false) f)
 (next2 [] f))
 (j1 [] d)
def F64 (x0 : Value) (w : World) (R : Value → World → Prop) (E : Pan) : Prop :=
 opK Tryd.prog E (xBin .eql 9 (.tmp 5) (.const (Value.string ⟨#[]⟩)) x0 (Value.string ⟨#[]⟩)) w fun a e =>
 opK Tryd.prog E (gsem (asB a) false (xCall (Value.func (.func 66) #[] #[]) [(gval (asB a) false x0)])) e fun f g =>
 opK Tryd.prog E (gsem (asB a) false (xV (Op.unary .not f))) g fun i j =>
 opK Tryd.prog E (xPick a (Value.bool true) i) j fun b k =>
 opK Tryd.prog E (gsem (asB b) false (xCall (Value.func (.func 67) #[] #[]) [(gval (asB b) false x0)])) k fun l m =>
 opK Tryd.prog E (xPick b (Value.bool true) l) m fun c n =>
 opK Tryd.prog E (gsem (asB c) false (xCall (Value.func (.func 68) #[] #[]) [(gval (asB c) false x0)])) n fun o p =>
 opK Tryd.prog E (xPick c (Value.bool true) o) p fun q d =>
 xcond q
 (R (Value.bool false) d)
 (xcut (fun _ r => b2B r R E) fun j1 =>
 opK Tryd.prog E (xV (Instr.range 9 x0)) d fun s t =>
 xloop [] [] t fun _ u next2 =>
 b5X s u next2 j1 R E)
def h64 : Hint := (.seq .none (.seq (.seq .none (.cond (.seq .none .none) .none)) (.cut [] (.seq .none (.block (.loop [] (.seq .none (.seq (.cond .none .none) (.block (.seq .none (.seq .none (.cond (.seq .none .none) .none))))))))) (.seq .none .none))))
theorem c0E {x0 : Value} {w : World} {R : Value → World → Prop} {E : Pan} (h : F64 x0 w R E) : Cv Tryd.prog 64 #[x0] w R E := okF (args := [x0]) (h := h64) Tryd.func64 (by kernel_rfl) (by kernel_rfl) h
def F65 (x0 x1 : Value) (w : World) (R : Value → World → Prop) (E : Pan) : Prop :=
 opK Tryd.prog E (xCall (Value.func (.func 71) #[] #[]) [x0, x1]) w fun a b =>
 opK Tryd.prog E (xBin .geq 3 (.tmp 7) (.const (Value.int .i64 0)) a (Value.int .i64 0)) b fun c d =>
 R c d
def h65 : Hint := (.seq .none (.seq .none .none))
theorem c0F {x0 x1 : Value} {w : World} {R : Value → World → Prop} {E : Pan} (h : F65 x0 x1 w R E) : Cv Tryd.prog 65 #[x0, x1] w R E := okF (args := [x0, x1]) (h := h65) Tryd.func65 (by kernel_rfl) (by kernel_rfl) h
def F67 (x0 : Value) (w : World) (R : Value → World → Prop) (E : Pan) : Prop :=
 opK Tryd.prog E (xCall (Value.func (.func 73) #[] #[]) [x0]) w fun a b =>
 opK Tryd.prog E (xBin .gtr 3 (.tmp 4) (.const (Value.int .i64 32)) a (Value.int .i64 32)) b fun c d =>
 R c d
def h67 : Hint := (.seq .none (.seq .none .none))
theorem c0G {x0 : Value} {w : World} {R : Value → World → Prop} {E : Pan} (h : F67 x0 w R E) : Cv Tryd.prog 67 #[x0] w R E := okF (args := [x0]) (h := h67) Tryd.func67 (by kernel_rfl) (by kernel_rfl) h
def b2C (x4 : Value) (w : World) (R : Value → World → Prop) (_E : Pan) : Prop :=
 ∀ _τ : Fr, (xcond x4
 (R (Value.bool true) w)
 (R (Value.bool false) w))
def F68 (x0 : Value) (w : World) (R : Value → World → Prop) (E : Pan) : Prop :=
 xcut (fun v y => b2C (nth v 0) y R E) fun j1 =>
 opK Tryd.prog E (xBin .eql 9 (.tmp 3) (.const (Value.string ⟨#[118, 97, 114]⟩)) x0 (Value.string ⟨#[118, 97, 114]⟩)) w fun a b =>
 xcond a
 (j1 [a] b)
 (opK Tryd.prog E (xBin .eql 9 (.tmp 3) (.const (Value.string ⟨#[97, 114, 114, 97, 121]⟩)) x0 (Value.string ⟨#[97, 114, 114, 97, 121]⟩)) b fun c d =>
 xcond c
 (j1 [c] d)
 (opK Tryd.prog E (xBin .eql 9 (.tmp 3) (.const (Value.string ⟨#[105, 102]⟩)) x0 (Value.string ⟨#[105, 102]⟩)) d fun e f =>
 xcond e
 (j1 [e] f)
 (opK Tryd.prog E (xBin .eql 9 (.tmp 3) (.const (Value.string ⟨#[101, 108, 115, 101]⟩)) x0 (Value.string ⟨#[101, 108, 115, 101]⟩)) f fun g i =>
 xcond g
 (j1 [g] i)
 (opK Tryd.prog E (xBin .eql 9 (.tmp 3) (.const (Value.string ⟨#[119, 104, 105, 108, 101]⟩)) x0 (Value.string ⟨#[119, 104, 105, 108, 101]⟩)) i fun j k =>
 xcond j
 (j1 [j] k)
 (opK Tryd.prog E (xBin .eql 9 (.tmp 3) (.const (Value.string ⟨#[97, 115, 115, 101, 114, 116]⟩)) x0 (Value.string ⟨#[97, 115, 115, 101, 114, 116]⟩)) k fun l m =>
 xcond l
 (j1 [l] m)
 (opK Tryd.prog E (xBin .eql 9 (.tmp 3) (.const (Value.string ⟨#[97, 115, 115, 117, 109, 101]⟩)) x0 (Value.string ⟨#[97, 115, 115, 117, 109, 101]⟩)) m fun n o =>
 xcond n
 (j1 [n] o)
 (opK Tryd.prog E (xBin .eql 9 (.tmp 3) (.const (Value.string ⟨#[115, 107, 105, 112]⟩)) x0 (Value.string ⟨#[115, 107, 105, 112]⟩)) o fun p q =>
 xcond p
 (j1 [p] q)
 (opK Tryd.prog E (xBin .eql 9 (.tmp 3) (.const (Value.string ⟨#[105, 110, 112, 117, 116]⟩)) x0 (Value.string ⟨#[105, 110, 112, 117, 116]⟩)) q fun r s =>
 xcond r
 (j1 [r] s)
 (opK Tryd.prog E (xBin .eql 9 (.tmp 3) (.const (Value.string ⟨#[116, 114, 117, 101]⟩)) x0 (Value.string ⟨#[116, 114, 117, 101]⟩)) s fun t u =>
 xcond t
 (j1 [t] u)
 (opK Tryd.prog E (xBin .eql 9 (.tmp 3) (.const (Value.string ⟨#[102, 97, 108, 115, 101]⟩)) x0 (Value.string ⟨#[102, 97, 108, 115, 101]⟩)) u fun z aa =>
 j1 [z] aa))))))))))
def h68 : Hint := (.seq .none (.seq (.seq .none (.block (.cut [4] (.seq .none (.cond .none (.seq .none (.cond .none (.seq .none (.cond .none (.seq .none (.cond .none (.seq .none (.cond .none (.seq .none (.cond .none (.seq .none (.cond .none (.seq .none (.cond .none (.seq .none (.cond .none (.seq .none (.cond .none .none)))))))))))))))))))) (.cond (.seq .none .none) .none)))) (.seq .none .none)))
theorem c0H {x0 : Value} {w : World} {R : Value → World → Prop} {E : Pan} (h : F68 x0 w R E) : Cv Tryd.prog 68 #[x0] w R E := okF (args := [x0]) (h := h68) Tryd.func68 (by kernel_rfl) (by kernel_rfl) h
def F69 (x0 : Value) (w : World) (R : Value → World → Prop) (E : Pan) : Prop :=
 opK Tryd.prog E (xCall (Value.func (.func 70) #[] #[]) [x0]) w fun b c =>
 opK Tryd.prog E (xBin .eql 3 (.tmp 6) (.const (Value.int .i64 3)) b (Value.int .i64 3)) c fun a d =>
 opK Tryd.prog E (gsem (asB a) false (xBin .eql 3 (.tmp 9) (.const (Value.int .i64 4)) (gval (asB a) false b) (Value.int .i64 4))) d fun e f =>
 opK Tryd.prog E (xPick a (Value.bool true) e) f fun g i =>
 R g i
def h69 : Hint := (.seq .none (.seq .none (.seq .none .none)))
theorem c0I {x0 : Value} {w : World} {R : Value → World → Prop} {E : Pan} (h : F69 x0 w R E) : Cv Tryd.prog 69 #[x0] w R E := okF (args := [x0]) (h := h69) Tryd.func69 (by kernel_rfl) (by kernel_rfl) h
def b2D (x39 : Value) (w : World) (R : Value → World → Prop) (_E : Pan) : Prop :=
 ∀ _τ : Fr, (xcond x39
 (R (Value.int .i64 3) w)
 (R (Value.int .i64 6) w))
def b2E (x1 x31 : Value) (w : World) (R : Value → World → Prop) (E : Pan) : Prop :=
 ∀ _τ : Fr, (xcond x31
 (R (Value.int .i64 6) w)
 (opK Tryd.prog E (xV (Instr.makeFunc (.func 74) #[] #[x1])) w fun a n =>
 opK Tryd.prog E (xCall a [(Value.int .i32 48), (Value.int .i32 57)]) n fun o b =>
 xcond o
 (R (Value.int .i64 4) b)
 (xcut (fun p q => b2D (nth p 0) q R E) fun j4 =>
 opK Tryd.prog E (xV (Instr.loadAt 21 x1)) b fun r s =>
 opK Tryd.prog E (xBin .eql 21 (.tmp 40) (.const (Value.int .i32 95)) r (Value.int .i32 95)) s fun c d =>
 xcond c
 (j4 [c] d)
 (opK Tryd.prog E (xCall a [(Value.int .i32 97), (Value.int .i32 122)]) d fun e f =>
 xcond e
 (j4 [e] f)
 (opK Tryd.prog E (xCall a [(Value.int .i32 65), (Value.int .i32 90)]) f fun g i =>
 xcond g
 (j4 [g] i)
 (opK Tryd.prog E (xCall a [(Value.int .i32 192), (Value.int .i32 591)]) i fun j k =>
 xcond j
 (j4 [j] k)
 (opK Tryd.prog E (xCall a [(Value.int .i32 913), (Value.int .i32 969)]) k fun l m =>
 xcond l
 (j4 [l] m)
 (opK Tryd.prog E (xCall a [(Value.int .i32 1040), (Value.int .i32 1103)]) m fun t u =>
 j4 [t] u))))))))
def b2F (x1 x4 x11 : Value) (w : World) (R : Value → World → Prop) (E : Pan) : Prop :=
 ∀ _τ : Fr, (xcond x11
 (R (Value.int .i64 5) w)
 (xcut (fun e f => b2E x1 (nth e 0) f R E) fun j3 =>
 opK Tryd.prog E (xBin .eql 21 (.tmp 4) (.const (Value.int .i32 215)) x4 (Value.int .i32 215)) w fun a b =>
 xcond a
 (j3 [a] b)
 (opK Tryd.prog E (xBin .eql 21 (.tmp 4) (.const (Value.int .i32 247)) x4 (Value.int .i32 247)) b fun c d =>
 xcond c
 (j3 [c] d)
 (opK Tryd.prog E (xBin .eql 21 (.tmp 4) (.const (Value.int .i32 930)) x4 (Value.int .i32 930)) d fun g i =>
 j3 [g] i))))
def b2G (x1 x4 x5 : Value) (w : World) (R : Value → World → Prop) (E : Pan) : Prop :=
 ∀ _τ : Fr, (xcond x5
 (R (Value.int .i64 1) w)
 (opK Tryd.prog E (xBin .eql 21 (.tmp 4) (.const (Value.int .i32 10)) x4 (Value.int .i32 10)) w fun ao a =>
 xcond ao
 (R (Value.int .i64 2) a)
 (xcut (fun ap aq => b2F x1 x4 (nth ap 0) aq R E) fun j2 =>
 opK Tryd.prog E (xBin .eql 21 (.tmp 4) (.const (Value.int .i32 59)) x4 (Value.int .i32 59)) a fun b c =>
 xcond b
 (j2 [b] c)
 (opK Tryd.prog E (xBin .eql 21 (.tmp 4) (.const (Value.int .i32 44)) x4 (Value.int .i32 44)) c fun d e =>
 xcond d
 (j2 [d] e)
 (opK Tryd.prog E (xBin .eql 21 (.tmp 4) (.const (Value.int .i32 123)) x4 (Value.int .i32 123)) e fun f g =>
 xcond f
 (j2 [f] g)
 (opK Tryd.prog E (xBin .eql 21 (.tmp 4) (.const (Value.int .i32 125)) x4 (Value.int .i32 125)) g fun i j =>
 xcond i
 (j2 [i] j)
 (opK Tryd.prog E (xBin .eql 21 (.tmp 4) (.const (Value.int .i32 40)) x4 (Value.int .i32 40)) j fun k l =>
 xcond k
 (j2 [k] l)
 (opK Tryd.prog E (xBin .eql 21 (.tmp 4) (.const (Value.int .i32 41)) x4 (Value.int .i32 41)) l fun m n =>
 xcond m
 (j2 [m] n)
 (opK Tryd.prog E (xBin .eql 21 (.tmp 4) (.const (Value.int .i32 91)) x4 (Value.int .i32 91)) n fun o p =>
 xcond o
 (j2 [o] p)
 (opK Tryd.prog E (xBin .eql 21 (.tmp 4) (.const (Value.int .i32 93)) x4 (Value.int .i32 93)) p fun q r =>
 xcond q
 (j2 [q] r)
 (opK Tryd.prog E (xBin .eql 21 (.tmp 4) (.const (Value.int .i32 61)) x4 (Value.int .i32 61)) r fun s t =>
 xcond s
 (j2 [s] t)
 (opK Tryd.prog E (xBin .eql 21 (.tmp 4) (.const (Value.int .i32 33)) x4 (Value.int .i32 33)) t fun u v =>
 xcond u
 (j2 [u] v)
 (opK Tryd.prog E (xBin .eql 21 (.tmp 4) (.const (Value.int .i32 60)) x4 (Value.int .i32 60)) v fun y z =>
 xcond y
 (j2 [y] z)
 (opK Tryd.prog E (xBin .eql 21 (.tmp 4) (.const (Value.int .i32 62)) x4 (Value.int .i32 62)) z fun aa ab =>
 xcond aa
 (j2 [aa] ab)
 (opK Tryd.prog E (xBin .eql 21 (.tmp 4) (.const (Value.int .i32 43)) x4 (Value.int .i32 43)) ab fun ac ad =>
 xcond ac
 (j2 [ac] ad)
 (opK Tryd.prog E (xBin .eql 21 (.tmp 4) (.const (Value.int .i32 45)) x4 (Value.int .i32 45)) ad fun ae af =>
 xcond ae
 (j2 [ae] af)
 (opK Tryd.prog E (xBin .eql 21 (.tmp 4) (.const (Value.int .i32 42)) x4 (Value.int .i32 42)) af fun ag ah =>
 xcond ag
 (j2 [ag] ah)
 (opK Tryd.prog E (xBin .eql 21 (.tmp 4) (.const (Value.int .i32 47)) x4 (Value.int .i32 47)) ah fun ai aj =>
 xcond ai
 (j2 [ai] aj)
 (opK Tryd.prog E (xBin .eql 21 (.tmp 4) (.const (Value.int .i32 37)) x4 (Value.int .i32 37)) aj fun ak al =>
 xcond ak
 (j2 [ak] al)
 (opK Tryd.prog E (xBin .eql 21 (.tmp 4) (.const (Value.int .i32 38)) x4 (Value.int .i32 38)) al fun am an =>
 xcond am
 (j2 [am] an)
 (opK Tryd.prog E (xBin .eql 21 (.tmp 4) (.const (Value.int .i32 124)) x4 (Value.int .i32 124)) an fun ar au =>
 j2 [ar] au)))))))))))))))))))))
def F70 (x0 : Value) (w : World) (R : Value → World → Prop) (E : Pan) : Prop :=
 opK Tryd.prog E (xV (Instr.box 21 x0)) w fun b g =>
 opK Tryd.prog E (xV (Instr.loadAt 21 b)) g fun a i =>
 xcut (fun j k => b2G b a (nth j 0) k R E) fun j1 =>
 opK Tryd.prog E (xBin .eql 21 (.tmp 4) (.const (Value.int .i32 32)) a (Value.int .i32 32)) i fun c d =>
 xcond c
 (j1 [c] d)
 (opK Tryd.prog E (xBin .eql 21 (.tmp 4) (.const (Value.int .i32 9)) a (Value.int .i32 9)) d fun e f =>
 xcond e
 (j1 [e] f)
 (opK Tryd.prog E (xBin .eql 21 (.tmp 4) (.const (Value.int .i32 13)) a (Value.int .i32 13)) f fun l m =>
 j1 [l] m))
def h70 : Hint := (.seq .none (.seq (.seq .none (.block (.cut [5] (.seq .none (.cond .none (.seq .none (.cond .none .none)))) (.cond (.seq .none .none) (.seq .none (.cond (.seq .none .none) (.cut [11] (.seq .none (.cond .none (.seq .none (.cond .none (.seq .none (.cond .none (.seq .none (.cond .none (.seq .none (.cond .none (.seq .none (.cond .none (.seq .none (.cond .none (.seq .none (.cond .none (.seq .none (.cond .none (.seq .none (.cond .none (.seq .none (.cond .none (.seq .none (.cond .none (.seq .none (.cond .none (.seq .none (.cond .none (.seq .none (.cond .none (.seq .none (.cond .none (.seq .none (.cond .none (.seq .none (.cond .none .none)))))))))))))))))))))))))))))))))))) (.cond (.seq .none .none) (.cut [31] (.seq .none (.cond .none (.seq .none (.cond .none .none)))) (.cond (.seq .none .none) .none)))))))))) (.seq .none (.seq (.block (.seq .none (.cond (.seq .none .none) (.cut [39] (.seq .none (.cond .none (.seq .none (.cond .none (.seq .none (.cond .none (.seq .none (.cond .none (.seq .none (.cond .none .none)))))))))) (.cond (.seq .none .none) .none))))) (.seq .none .none)))))
theorem c0J {x0 : Value} {w : World} {R : Value → World → Prop} {E : Pan} (h : F70 x0 w R E) : Cv Tryd.prog 70 #[x0] w R E := okF (args := [x0]) (h := h70) Tryd.func70 (by kernel_rfl) (by kernel_rfl) h
def b2H (w : World) (R : Value → World → Prop) (_E : Pan) : Prop :=
 ∀ _τ : Fr, (R (Value.int .i64 (-1)) w)
def b5Y (x0 x1 x7 x8 : Value) (w : World) (next2 : List Value → World → Prop) (j1 : List Value → World → Prop) (R : Value → World → Prop) (E : Pan) : Prop :=
 opK Tryd.prog E (xBin .lss 3 (.tmp 8) (.tmp 7) x8 x7) w fun c a =>
 xcond c
 (opK Tryd.prog E (xV (Instr.indexAt 26 x0 x8)) a fun d e =>
 opK Tryd.prog E (xV (Instr.loadAt 9 d)) e fun f g =>
 opK Tryd.prog E (xBin .eql 9 (.tmp 11) (.tmp 15) x1 f) g fun i b =>
 xcond i
 (R x8 b)
 (opK Tryd.prog E (xBin .add 3 (.tmp 8) (.const (Value.int .i64 1)) x8 (Value.int .i64 1)) b fun j k =>
 next2 [j] k))
 (j1 [] a)
def F71 (x0 x1 : Value) (w : World) (R : Value → World → Prop) (E : Pan) : Prop :=
 xcut (fun _ a => b2H a R E) fun j1 =>
 opK Tryd.prog E (xBuiltin .len #[26] 3 [false] [x0]) w fun b c =>
 xloop [8] [(Value.int .i64 0)] c fun d e next2 =>
 b5Y x0 x1 b (d 8) e next2 j1 R E
def h71 : Hint := (.seq .none (.cut [] (.seq .none (.block (.loop [8] (.seq .none (.seq (.cond .none .none) (.seq (.block (.seq .none (.seq .none (.cond (.seq .none .none) .none)))) .none)))))) (.seq .none .none)))
theorem c0K {x0 x1 : Value} {w : World} {R : Value → World → Prop} {E : Pan} (h : F71 x0 x1 w R E) : Cv Tryd.prog 71 #[x0, x1] w R E := okF (args := [x0, x1]) (h := h71) Tryd.func71 (by kernel_rfl) (by kernel_rfl) h
def b2I (x2 : Value) (w : World) (R : Value → World → Prop) (_E : Pan) : Prop :=
 ∀ _τ : Fr, (R x2 w)
def b5Z (x2 x4 : Value) (w : World) (next2 : List Value → World → Prop) (j1 : List Value → World → Prop) (_R : Value → World → Prop) (E : Pan) : Prop :=
 opK Tryd.prog E (xV (Instr.next x4 true 0)) w fun b c =>
 opK Tryd.prog E (xV (Instr.extract b 0)) c fun d a =>
 xcond d
 (opK Tryd.prog E (xBin .add 3 (.tmp 7) (.const (Value.int .i64 1)) x2 (Value.int .i64 1)) a fun e f =>
 next2 [e] f)
 (j1 [x2] a)
def F73 (x0 : Value) (w : World) (R : Value → World → Prop) (E : Pan) : Prop :=
 xcut (fun a b => b2I (nth a 0) b R E) fun j1 =>
 opK Tryd.prog E (xV (Instr.range 9 x0)) w fun c d =>
 xloop [2] [(Value.int .i64 0)] d fun e f next2 =>
 b5Z (e 2) c f next2 j1 R E
def h73 : Hint := (.seq .none (.cut [2] (.seq .none (.block (.loop [2] (.seq .none (.seq (.cond .none .none) (.block .none)))))) (.seq .none .none)))
theorem c0L {x0 : Value} {w : World} {R : Value → World → Prop} {E : Pan} (h : F73 x0 w R E) : Cv Tryd.prog 73 #[x0] w R E := okF (args := [x0]) (h := h73) Tryd.func73 (by kernel_rfl) (by kernel_rfl) h
def F74 (x0 x1 x2 : Value) (w : World) (R : Value → World → Prop) (E : Pan) : Prop :=
 opK Tryd.prog E (xV (Instr.loadAt 21 x2)) w fun b c =>
 opK Tryd.prog E (xBin .leq 21 (.tmp 6) (.tmp 7) x0 b) c fun a d =>
 opK Tryd.prog E (gsem (asB a) true (xV (Instr.loadAt 21 x2))) d fun e f =>
 opK Tryd.prog E (gsem (asB a) true (xBin .leq 21 (.tmp 10) (.tmp 11) e (gval (asB a) true x1))) f fun g i =>
 opK Tryd.prog E (xPick a g (Value.bool false)) i fun j k =>
 R j k
def h74 : Hint := (.seq .none (.seq .none .none))
theorem c0M {x0 x1 x2 : Value} {w : World} {R : Value → World → Prop} {E : Pan} (h : F74 x0 x1 x2 w R E) : Cv Tryd.prog 74 #[x0, x1, x2] w R E := okF (args := [x0, x1, x2]) (h := h74) Tryd.func74 (by kernel_rfl) (by kernel_rfl) h
def F91 (x0 : Value) (w : World) (R : Value → World → Prop) (E : Pan) : Prop :=
 opK Tryd.prog E (xV (Instr.box 138 x0)) w fun b c =>
 opK Tryd.prog E (xV (Instr.fieldAt 138 b 0)) c fun d e =>
 opK Tryd.prog E (xV (Instr.fieldAt 35 d 1)) e fun f g =>
 opK Tryd.prog E (xV (Instr.loadAt 3 f)) g fun i j =>
 opK Tryd.prog E (xBin .geq 3 (.tmp 5) (.const (Value.int .i64 0)) i (Value.int .i64 0)) j fun a k =>
 opK Tryd.prog E (gsem (asB a) true (xV (Instr.fieldAt 138 b 0))) k fun l m =>
 opK Tryd.prog E (gsem (asB a) true (xV (Instr.fieldAt 35 l 1))) m fun n o =>
 opK Tryd.prog E (gsem (asB a) true (xV (Instr.loadAt 3 n))) o fun p q =>
 opK Tryd.prog E (gsem (asB a) true (xBin .leq 3 (.tmp 10) (.const (Value.int .i64 2147483647)) p (Value.int .i64 2147483647))) q fun r s =>
 opK Tryd.prog E (xPick a r (Value.bool false)) s fun t u =>
 R t u
def h91 : Hint := (.seq .none (.seq .none .none))
theorem c0N {x0 : Value} {w : World} {R : Value → World → Prop} {E : Pan} (h : F91 x0 w R E) : Cv Tryd.prog 91 #[x0] w R E := okF (args := [x0]) (h := h91) Tryd.func91 (by kernel_rfl) (by kernel_rfl) h
def F92 (x0 : Value) (w : World) (R : Value → World → Prop) (E : Pan) : Prop :=
 opK Tryd.prog E (xV (Instr.box 138 x0)) w fun _t1_1 a =>
 R (Value.slice none 0 0) a
def h92 : Hint := (.seq .none (.seq .none .none))
theorem c0O {x0 : Value} {w : World} {R : Value → World → Prop} {E : Pan} (h : F92 x0 w R E) : Cv Tryd.prog 92 #[x0] w R E := okF (args := [x0]) (h := h92) Tryd.func92 (by kernel_rfl) (by kernel_rfl) h
def b2J (x4 x5 x35 x83 : Value) (w : World) (R : Value → World → Prop) (E : Pan) : Prop :=
 ∀ _τ : Fr, (xcond x83
 (opK Tryd.prog E (gsem (asB x5) true (xV (Instr.loadAt 175 x4))) w fun b c =>
 opK Tryd.prog E (gsem (asB x5) true (xV (Instr.build 175 #[(0, (Value.int .i64 0)), (1, (Value.int .i64 1))]))) c fun d e =>
 opK Tryd.prog E (gsem (asB x5) true (xBin .eql 175 (.tmp 88) (.tmp 89) b d)) e fun f g =>
 opK Tryd.prog E (xPick x5 f (Value.bool false)) g fun i j =>
 R i j)
 (opK Tryd.prog E (xBin .eql 3 (.tmp 35) (.const (Value.int .i64 7)) x35 (Value.int .i64 7)) w fun k a =>
 xcond k
 (opK Tryd.prog E (gsem (asB x5) true (xV (Instr.loadAt 175 x4))) a fun l m =>
 opK Tryd.prog E (gsem (asB x5) true (xV (Instr.build 175 #[]))) m fun n o =>
 opK Tryd.prog E (gsem (asB x5) true (xBin .eql 175 (.tmp 96) (.tmp 97) l n)) o fun p q =>
 opK Tryd.prog E (xPick x5 p (Value.bool false)) q fun r s =>
 R r s)
 (R (Value.bool false) a)))
def F93 (x0 : Value) (w : World) (R : Value → World → Prop) (E : Pan) : Prop :=
 opK Tryd.prog E (xV (Instr.box 140 x0)) w fun a r =>
 opK Tryd.prog E (xV (Instr.fieldAt 140 a 0)) r fun s t =>
 opK Tryd.prog E (xV (Instr.fieldAt 39 s 4)) t fun u v =>
 opK Tryd.prog E (xV (Instr.loadAt 37 u)) v fun y z =>
 opK Tryd.prog E (xBuiltin .len #[37] 3 [false] [y]) z fun aa ab =>
 opK Tryd.prog E (xV (Instr.fieldAt 140 a 0)) ab fun ac ad =>
 opK Tryd.prog E (xV (Instr.fieldAt 39 ac 5)) ad fun ae af =>
 opK Tryd.prog E (xV (Instr.loadAt 37 ae)) af fun ag ah =>
 opK Tryd.prog E (xBuiltin .len #[37] 3 [false] [ag]) ah fun ai aj =>
 opK Tryd.prog E (xBin .add 3 (.tmp 9) (.tmp 13) aa ai) aj fun ak al =>
 opK Tryd.prog E (xBin .gtr 3 (.tmp 14) (.const (Value.int .i64 0)) ak (Value.int .i64 0)) al fun j am =>
 opK Tryd.prog E (xV (Instr.fieldAt 140 a 0)) am fun an ao =>
 opK Tryd.prog E (xV (Instr.fieldAt 39 an 2)) ao fun ap aq =>
 opK Tryd.prog E (xV (Instr.loadAt 23 ap)) aq fun ar au =>
 opK Tryd.prog E (xBuiltin .len #[23] 3 [false] [ar]) au fun av aw =>
 opK Tryd.prog E (xV (Instr.fieldAt 140 a 0)) aw fun ax ay =>
 opK Tryd.prog E (xV (Instr.fieldAt 39 ax 3)) ay fun az ba =>
 opK Tryd.prog E (xV (Instr.loadAt 36 az)) ba fun bb bc =>
 opK Tryd.prog E (xBuiltin .len #[36] 3 [false] [bb]) bc fun bd be =>
 opK Tryd.prog E (xV (Instr.build 175 #[(0, av), (1, bd)])) be fun bf bg =>
 opK Tryd.prog E (xV (Instr.alloc 175 true (.tuple #[]))) bg fun c bh =>
 opK Tryd.prog E (xU (Instr.storeAt 175 c bf)) bh fun _ bi =>
 opK Tryd.prog E (xV (Instr.fieldAt 140 a 0)) bi fun bj bk =>
 opK Tryd.prog E (xV (Instr.fieldAt 39 bj 1)) bk fun bl bm =>
 opK Tryd.prog E (xV (Instr.loadAt 9 bl)) bm fun bn bo =>
 opK Tryd.prog E (xBin .eql 9 (.tmp 27) (.const (Value.string ⟨#[]⟩)) bn (Value.string ⟨#[]⟩)) bo fun k bp =>
 opK Tryd.prog E (gsem (asB k) true (xV (Op.unary .not (gval (asB k) true j)))) bp fun bq br =>
 opK Tryd.prog E (xPick k bq (Value.bool false)) br fun bs bt =>
 opK Tryd.prog E (xV (Instr.fieldAt 140 a 0)) bt fun bu bv =>
 opK Tryd.prog E (xV (Instr.fieldAt 39 bu 0)) bv fun bw bz =>
 opK Tryd.prog E (xV (Instr.loadAt 3 bw)) bz fun b ca =>
 opK Tryd.prog E (xBin .eql 3 (.tmp 35) (.const (Value.int .i64 1)) b (Value.int .i64 1)) ca fun cb l =>
 xcond cb
 (opK Tryd.prog E (xV (Op.unary .not j)) l fun e cc =>
 opK Tryd.prog E (gsem (asB e) true (xV (Instr.loadAt 175 c))) cc fun cd ce =>
 opK Tryd.prog E (gsem (asB e) true (xV (Instr.build 175 #[(0, (Value.int .i64 1)), (1, (Value.int .i64 0))]))) ce fun cf cg =>
 opK Tryd.prog E (gsem (asB e) true (xBin .eql 175 (.tmp 41) (.tmp 42) cd cf)) cg fun ch ci =>
 opK Tryd.prog E (xPick e ch (Value.bool false)) ci fun cj ck =>
 R cj ck)
 (opK Tryd.prog E (xBin .eql 3 (.tmp 35) (.const (Value.int .i64 2)) b (Value.int .i64 2)) l fun cl m =>
 xcond cl
 (opK Tryd.prog E (xV (Op.unary .not j)) m fun f cm =>
 opK Tryd.prog E (gsem (asB f) true (xV (Instr.loadAt 175 c))) cm fun cn co =>
 opK Tryd.prog E (gsem (asB f) true (xV (Instr.build 175 #[(0, (Value.int .i64 2)), (1, (Value.int .i64 0))]))) co fun cp cq =>
 opK Tryd.prog E (gsem (asB f) true (xBin .eql 175 (.tmp 50) (.tmp 51) cn cp)) cq fun cr cs =>
 opK Tryd.prog E (xPick f cr (Value.bool false)) cs fun ct cu =>
 R ct cu)
 (opK Tryd.prog E (xBin .eql 3 (.tmp 35) (.const (Value.int .i64 3)) b (Value.int .i64 3)) m fun cv n =>
 xcond cv
 (opK Tryd.prog E (xV (Instr.fieldAt 140 a 0)) n fun cw cx =>
 opK Tryd.prog E (xV (Instr.fieldAt 39 cw 1)) cx fun cy cz =>
 opK Tryd.prog E (xV (Instr.loadAt 9 cy)) cz fun da db =>
 opK Tryd.prog E (xBin .eql 9 (.tmp 58) (.const (Value.string ⟨#[]⟩)) da (Value.string ⟨#[]⟩)) db fun g dc =>
 opK Tryd.prog E (gsem (asB g) true (xV (Instr.loadAt 175 c))) dc fun dd de =>
 opK Tryd.prog E (gsem (asB g) true (xV (Instr.build 175 #[(0, (Value.int .i64 0)), (1, (Value.int .i64 1))]))) de fun df dg =>
 opK Tryd.prog E (gsem (asB g) true (xBin .eql 175 (.tmp 61) (.tmp 62) dd df)) dg fun dh di =>
 opK Tryd.prog E (xPick g dh (Value.bool false)) di fun dj dk =>
 R dj dk)
 (opK Tryd.prog E (xBin .eql 3 (.tmp 35) (.const (Value.int .i64 4)) b (Value.int .i64 4)) n fun dl o =>
 xcond dl
 (opK Tryd.prog E (xV (Instr.fieldAt 140 a 0)) o fun dm dn =>
 opK Tryd.prog E (xV (Instr.fieldAt 39 dm 1)) dn fun dp dq =>
 opK Tryd.prog E (xV (Instr.loadAt 9 dp)) dq fun dr ds =>
 opK Tryd.prog E (xBin .eql 9 (.tmp 69) (.const (Value.string ⟨#[]⟩)) dr (Value.string ⟨#[]⟩)) ds fun d dt =>
 opK Tryd.prog E (gsem (asB d) true (xV (Instr.fieldAt 140 a 0))) dt fun du dv =>
 opK Tryd.prog E (gsem (asB d) true (xV (Instr.fieldAt 39 du 5))) dv fun dw dx =>
 opK Tryd.prog E (gsem (asB d) true (xV (Instr.loadAt 37 dw))) dx fun dy dz =>
 opK Tryd.prog E (gsem (asB d) true (xBuiltin .len #[37] 3 [false] [dy])) dz fun ea eb =>
 opK Tryd.prog E (gsem (asB d) true (xBin .eql 3 (.tmp 75) (.const (Value.int .i64 0)) ea (Value.int .i64 0))) eb fun ec ed =>
 opK Tryd.prog E (xPick d ec (Value.bool false)) ed fun i ee =>
 opK Tryd.prog E (gsem (asB i) true (xV (Instr.loadAt 175 c))) ee fun ef eg =>
 opK Tryd.prog E (gsem (asB i) true (xV (Instr.build 175 #[(0, (Value.int .i64 0)), (1, (Value.int .i64 1))]))) eg fun eh ei =>
 opK Tryd.prog E (gsem (asB i) true (xBin .eql 175 (.tmp 79) (.tmp 80) ef eh)) ei fun ej ek =>
 opK Tryd.prog E (xPick i ej (Value.bool false)) ek fun el em =>
 R el em)
 (xcut (fun en eo => b2J c bs b (nth en 0) eo R E) fun j1 =>
 opK Tryd.prog E (xBin .eql 3 (.tmp 35) (.const (Value.int .i64 5)) b (Value.int .i64 5)) o fun p q =>
 xcond p
 (j1 [p] q)
 (opK Tryd.prog E (xBin .eql 3 (.tmp 35) (.const (Value.int .i64 6)) b (Value.int .i64 6)) q fun ep eq =>
 j1 [ep] eq)))))
def h93 : Hint := (.seq .none (.seq .none (.seq .none (.seq .none (.seq (.seq .none (.block (.seq .none (.cond (.seq .none .none) (.seq .none (.cond (.seq .none .none) (.seq .none (.cond (.seq .none .none) (.seq .none (.cond (.seq .none .none) (.cut [83] (.seq .none (.cond .none .none)) (.cond (.seq .none .none) (.seq .none (.cond (.seq .none .none) .none)))))))))))))) (.seq .none .none))))))
theorem c0P {x0 : Value} {w : World} {R : Value → World → Prop} {E : Pan} (h : F93 x0 w R E) : Cv Tryd.prog 93 #[x0] w R E := okF (args := [x0]) (h := h93) Tryd.func93 (by kernel_rfl) (by kernel_rfl) h
def F94 (x0 : Value) (w : World) (R : Value → World → Prop) (E : Pan) : Prop :=
 opK Tryd.prog E (xV (Instr.box 140 x0)) w fun c n =>
 dX n fun a =>
 qP Tryd.prog (xV (Instr.fieldAt 140 c 0)) fun o =>
 qP Tryd.prog (xV (Instr.fieldAt 39 o 3)) fun l =>
 qP Tryd.prog (xV (Instr.fieldAt 140 c 0)) fun p =>
 qP Tryd.prog (xV (Instr.fieldAt 39 p 2)) fun e =>
 qP Tryd.prog (xV (Instr.fieldAt 140 c 0)) fun q =>
 qP Tryd.prog (xV (Instr.fieldAt 39 q 4)) fun d =>
 qP Tryd.prog (xV (Instr.fieldAt 140 c 0)) fun r =>
 qP Tryd.prog (xV (Instr.fieldAt 39 r 5)) fun b =>
 qL Tryd.prog a (blk l) (xV (Instr.loadAt 36 l)) fun s =>
 qL Tryd.prog a (blk e) (xV (Instr.loadAt 23 e)) fun t =>
 qL Tryd.prog a (blk d) (xV (Instr.loadAt 37 d)) fun u =>
 qL Tryd.prog a (blk b) (xV (Instr.loadAt 37 b)) fun v =>
 opK Tryd.prog E (xCall (Value.func (.func 95) #[] #[]) [s, (Value.func (.func 96) #[] #[])]) a fun y f =>
 keepX [(blk b), (blk d), (blk e)] a f (opK Tryd.prog E (xCall (Value.func (.func 97) #[] #[]) [t, (Value.func (.func 98) #[] #[])]) f fun z g =>
 keepX [(blk b), (blk d)] f g (opK Tryd.prog E (xCall (Value.func (.func 58) #[] #[]) [u, (Value.func (.func 59) #[] #[])]) g fun aa i =>
 keepX [(blk b)] g i (opK Tryd.prog E (xCall (Value.func (.func 58) #[] #[]) [v, (Value.func (.func 59) #[] #[])]) i fun ab j =>
 keepX [] i j (opK Tryd.prog E (xV (Instr.buildSlice 135 4 #[(0, y), (1, z), (2, aa), (3, ab)])) j fun ac k =>
 keepX [] j k (opK Tryd.prog E (xCall (Value.func (.func 55) #[] #[]) [ac]) k fun ad m =>
 keepX [] k m (R ad m))))))
def h94 : Hint := (.seq .none (.seq (.reg [(0, 8, 2), (1, 16, 8), (2, 32, 16), (4, 64, 32), (0, 128, 2), (16, 256, 128), (32, 512, 256), (72, 1024, 512), (0, 2048, 2), (256, 4096, 2048), (512, 8192, 4096), (1152, 16384, 8192), (0, 32768, 2), (4096, 65536, 32768), (8192, 131072, 65536), (18432, 262144, 131072), (34952, 524288, 279616), (98304, 1048576, 524288), (262143, 4, 1048576)] [17476, 17476, 17472, 17472, 17476, 17476, 17412, 17408, 17476, 17476, 16452, 16384, 17476, 17476, 1092, 0, 0, 0, 17476] (.early 0 (.early 1 (.early 4 (.early 5 (.early 8 (.early 9 (.early 12 (.early 13 (.load 2 (.load 6 (.load 10 (.load 14 (.step 3 (.step 7 (.step 11 (.step 15 (.step 16 (.step 17 (.early 18 .done)))))))))))))))))))) .none))
theorem c0Q {x0 : Value} {w : World} {R : Value → World → Prop} {E : Pan} (h : F94 x0 w R E) : Cv Tryd.prog 94 #[x0] w R E := okF (args := [x0]) (h := h94) Tryd.func94 (by kernel_rfl) (by kernel_rfl) h
def b2K (x5 : Value) (w : World) (R : Value → World → Prop) (_E : Pan) : Prop :=
 ∀ _τ : Fr, (R x5 w)
def b6a (x1 x5 x8 x9 x10 : Value) (w : World) (next2 : List Value → World → Prop) (j1 : List Value → World → Prop) (_R : Value → World → Prop) (E : Pan) : Prop :=
 opK Tryd.prog E (xBin .lss 3 (.tmp 10) (.tmp 9) x10 x9) w fun c a =>
 xcond c
 (opK Tryd.prog E (xV (Instr.indexAt 36 x8 x10)) a fun d e =>
 opK Tryd.prog E (xV (Instr.loadAt 89 d)) e fun f g =>
 opK Tryd.prog E (xV (Instr.alloc 89 true (.tuple #[]))) g fun b i =>
 opK Tryd.prog E (xU (Instr.storeAt 89 b f)) i fun _ j =>
 opK Tryd.prog E (xV (Instr.loadAt 89 b)) j fun k l =>
 opK Tryd.prog E (xCall x1 [k]) l fun m n =>
 opK Tryd.prog E (xV (Instr.buildSlice 123 1 #[(0, m)])) n fun o p =>
 opK Tryd.prog E (xBuiltin .append #[123, 123] 123 [false, false] [x5, o]) p fun q r =>
 opK Tryd.prog E (xBin .add 3 (.tmp 10) (.const (Value.int .i64 1)) x10 (Value.int .i64 1)) r fun s t =>
 next2 [q, s] t)
 (j1 [x5] a)
def F95 (x0 x1 : Value) (w : World) (R : Value → World → Prop) (E : Pan) : Prop :=
 xcut (fun b c => b2K (nth b 0) c R E) fun j1 =>
 opK Tryd.prog E (xBuiltin .len #[36] 3 [false] [x0]) w fun d e =>
 xloop [5, 10] [(Value.slice none 0 0), (Value.int .i64 0)] e fun a f next2 =>
 b6a x1 (a 5) x0 d (a 10) f next2 j1 R E
def h95 : Hint := (.seq .none (.seq .none (.cut [5] (.seq .none (.block (.loop [5, 10] (.seq .none (.seq (.cond .none .none) (.seq (.block (.seq .none .none)) .none)))))) (.seq .none .none))))
theorem c0R {x0 x1 : Value} {w : World} {R : Value → World → Prop} {E : Pan} (h : F95 x0 x1 w R E) : Cv Tryd.prog 95 #[x0, x1] w R E := okF (args := [x0, x1]) (h := h95) Tryd.func95 (by kernel_rfl) (by kernel_rfl) h
def F96 (x0 : Value) (w : World) (R : Value → World → Prop) (E : Pan) : Prop :=
 opK Tryd.prog E (xV (Instr.box 89 x0)) w fun a b =>
 opK Tryd.prog E (xV (Instr.loadAt 89 a)) b fun c d =>
 opK Tryd.prog E (xV (Instr.build 181 #[(0, c)])) d fun e f =>
 opK Tryd.prog E (xV (Instr.makeInterface 181 e)) f fun g i =>
 R g i
def h96 : Hint := (.seq .none (.seq .none .none))
theorem c0S {x0 : Value} {w : World} {R : Value → World → Prop} {E : Pan} (h : F96 x0 w R E) : Cv Tryd.prog 96 #[x0] w R E := okF (args := [x0]) (h := h96) Tryd.func96 (by kernel_rfl) (by kernel_rfl) h
def b2L (x5 : Value) (w : World) (R : Value → World → Prop) (_E : Pan) : Prop :=
 ∀ _τ : Fr, (R x5 w)
def b6b (x1 x5 x8 x9 x10 : Value) (w : World) (next2 : List Value → World → Prop) (j1 : List Value → World → Prop) (_R : Value → World → Prop) (E : Pan) : Prop :=
 opK Tryd.prog E (xBin .lss 3 (.tmp 10) (.tmp 9) x10 x9) w fun c a =>
 xcond c
 (opK Tryd.prog E (xV (Instr.indexAt 23 x8 x10)) a fun d e =>
 opK Tryd.prog E (xV (Instr.loadAt 25 d)) e fun f g =>
 opK Tryd.prog E (xV (Instr.alloc 25 true (.tuple #[]))) g fun b i =>
 opK Tryd.prog E (xU (Instr.storeAt 25 b f)) i fun _ j =>
 opK Tryd.prog E (xV (Instr.loadAt 25 b)) j fun k l =>
 opK Tryd.prog E (xCall x1 [k]) l fun m n =>
 opK Tryd.prog E (xV (Instr.buildSlice 123 1 #[(0, m)])) n fun o p =>
 opK Tryd.prog E (xBuiltin .append #[123, 123] 123 [false, false] [x5, o]) p fun q r =>
 opK Tryd.prog E (xBin .add 3 (.tmp 10) (.const (Value.int .i64 1)) x10 (Value.int .i64 1)) r fun s t =>
 next2 [q, s] t)
 (j1 [x5] a)
def F97 (x0 x1 : Value) (w : World) (R : Value → World → Prop) (E : Pan) : Prop :=
 xcut (fun b c => b2L (nth b 0) c R E) fun j1 =>
 opK Tryd.prog E (xBuiltin .len #[23] 3 [false] [x0]) w fun d e =>
 xloop [5, 10] [(Value.slice none 0 0), (Value.int .i64 0)] e fun a f next2 =>
 b6b x1 (a 5) x0 d (a 10) f next2 j1 R E
def h97 : Hint := (.seq .none (.seq .none (.cut [5] (.seq .none (.block (.loop [5, 10] (.seq .none (.seq (.cond .none .none) (.seq (.block (.seq .none .none)) .none)))))) (.seq .none .none))))
theorem c0T {x0 x1 : Value} {w : World} {R : Value → World → Prop} {E : Pan} (h : F97 x0 x1 w R E) : Cv Tryd.prog 97 #[x0, x1] w R E := okF (args := [x0, x1]) (h := h97) Tryd.func97 (by kernel_rfl) (by kernel_rfl) h
def F98 (x0 : Value) (w : World) (R : Value → World → Prop) (E : Pan) : Prop :=
 opK Tryd.prog E (xV (Instr.box 25 x0)) w fun a b =>
 opK Tryd.prog E (xV (Instr.loadAt 25 a)) b fun c d =>
 opK Tryd.prog E (xV (Instr.build 146 #[(0, c)])) d fun e f =>
 opK Tryd.prog E (xV (Instr.makeInterface 146 e)) f fun g i =>
 R g i
def h98 : Hint := (.seq .none (.seq .none .none))
theorem c0U {x0 : Value} {w : World} {R : Value → World → Prop} {E : Pan} (h : F98 x0 w R E) : Cv Tryd.prog 98 #[x0] w R E := okF (args := [x0]) (h := h98) Tryd.func98 (by kernel_rfl) (by kernel_rfl) h
def b2M (x3 x59 : Value) (w : World) (R : Value → World → Prop) (E : Pan) : Prop :=
 ∀ _τ : Fr, (xcond x59
 (opK Tryd.prog E (xBin .eql 3 (.tmp 65) (.const (Value.int .i64 2)) x3 (Value.int .i64 2)) w fun a b =>
 R a b)
 (R (Value.bool false) w))
def b2N (x3 x38 x54 : Value) (w : World) (R : Value → World → Prop) (E : Pan) : Prop :=
 ∀ _τ : Fr, (xcond x54
 (opK Tryd.prog E (xBin .eql 3 (.tmp 57) (.const (Value.int .i64 1)) x3 (Value.int .i64 1)) w fun j k =>
 R j k)
 (xcut (fun l m => b2M x3 (nth l 0) m R E) fun j3 =>
 opK Tryd.prog E (xBin .eql 3 (.tmp 38) (.const (Value.int .i64 6)) x38 (Value.int .i64 6)) w fun a b =>
 xcond a
 (j3 [a] b)
 (opK Tryd.prog E (xBin .eql 3 (.tmp 38) (.const (Value.int .i64 7)) x38 (Value.int .i64 7)) b fun c d =>
 xcond c
 (j3 [c] d)
 (opK Tryd.prog E (xBin .eql 3 (.tmp 38) (.const (Value.int .i64 8)) x38 (Value.int .i64 8)) d fun e f =>
 xcond e
 (j3 [e] f)
 (opK Tryd.prog E (xBin .eql 3 (.tmp 38) (.const (Value.int .i64 9)) x38 (Value.int .i64 9)) f fun g i =>
 xcond g
 (j3 [g] i)
 (opK Tryd.prog E (xBin .eql 3 (.tmp 38) (.const (Value.int .i64 10)) x38 (Value.int .i64 10)) i fun n o =>
 j3 [n] o))))))
def b2O (x3 x38 x49 : Value) (w : World) (R : Value → World → Prop) (E : Pan) : Prop :=
 ∀ _τ : Fr, (xcond x49
 (opK Tryd.prog E (xBin .eql 3 (.tmp 52) (.const (Value.int .i64 0)) x3 (Value.int .i64 0)) w fun c d =>
 R c d)
 (xcut (fun e f => b2N x3 x38 (nth e 0) f R E) fun j2 =>
 opK Tryd.prog E (xBin .eql 3 (.tmp 38) (.const (Value.int .i64 4)) x38 (Value.int .i64 4)) w fun a b =>
 xcond a
 (j2 [a] b)
 (opK Tryd.prog E (xBin .eql 3 (.tmp 38) (.const (Value.int .i64 5)) x38 (Value.int .i64 5)) b fun g i =>
 j2 [g] i)))
def F99 (x0 : Value) (w : World) (R : Value → World → Prop) (E : Pan) : Prop :=
 opK Tryd.prog E (xV (Instr.box 146 x0)) w fun b n =>
 opK Tryd.prog E (xV (Instr.fieldAt 146 b 0)) n fun o p =>
 opK Tryd.prog E (xV (Instr.fieldAt 25 o 3)) p fun q r =>
 opK Tryd.prog E (xV (Instr.loadAt 23 q)) r fun s t =>
 opK Tryd.prog E (xBuiltin .len #[23] 3 [false] [s]) t fun g u =>
 opK Tryd.prog E (xV (Instr.loadAt 146 b)) u fun v y =>
 opK Tryd.prog E (xV (Instr.makeInterface 146 v)) y fun z aa =>
 opK Tryd.prog E (xCall (Value.func (.func 63) #[] #[]) [z]) aa fun i ab =>
 opK Tryd.prog E (xV (Instr.extract i 0)) ab fun _t14_17 ac =>
 opK Tryd.prog E (xV (Instr.extract i 1)) ac fun ad ae =>
 opK Tryd.prog E (xV (Instr.fieldAt 146 b 0)) ae fun af ag =>
 opK Tryd.prog E (xV (Instr.fieldAt 25 af 0)) ag fun ah ai =>
 opK Tryd.prog E (xV (Instr.loadAt 3 ah)) ai fun aj ak =>
 opK Tryd.prog E (xBin .neq 3 (.tmp 18) (.const (Value.int .i64 1)) aj (Value.int .i64 1)) ak fun c al =>
 opK Tryd.prog E (gsem (asB c) true (xV (Instr.fieldAt 146 b 0))) al fun am an =>
 opK Tryd.prog E (gsem (asB c) true (xV (Instr.fieldAt 25 am 1))) an fun ao ap =>
 opK Tryd.prog E (gsem (asB c) true (xV (Instr.loadAt 2 ao))) ap fun aq ar =>
 opK Tryd.prog E (gsem (asB c) true (xBin .neq 2 (.tmp 23) (.const (Value.int .i64 0)) aq (Value.int .i64 0))) ar fun au av =>
 opK Tryd.prog E (xPick c au (Value.bool false)) av fun a aw =>
 opK Tryd.prog E (gsem (asB a) false (xV (Op.unary .not (gval (asB a) false ad)))) aw fun d ax =>
 opK Tryd.prog E (gsem (asB (gval (asB a) false d)) true (xV (Instr.fieldAt 146 b 0))) ax fun ay az =>
 opK Tryd.prog E (gsem (asB (gval (asB a) false d)) true (xV (Instr.fieldAt 25 ay 2))) az fun ba bb =>
 opK Tryd.prog E (gsem (asB (gval (asB a) false d)) true (xV (Instr.loadAt 9 ba))) bb fun bc bd =>
 opK Tryd.prog E (gsem (asB (gval (asB a) false d)) true (xBin .neq 9 (.tmp 32) (.const (Value.string ⟨#[]⟩)) bc (Value.string ⟨#[]⟩))) bd fun be bf =>
 opK Tryd.prog E (gsem (asB a) false (xPick (gval (asB a) false d) be (Value.bool false))) bf fun bg bh =>
 opK Tryd.prog E (xPick a (Value.bool true) bg) bh fun bi j =>
 xcond bi
 (R (Value.bool false) j)
 (opK Tryd.prog E (xV (Instr.fieldAt 146 b 0)) j fun bj bk =>
 opK Tryd.prog E (xV (Instr.fieldAt 25 bj 0)) bk fun bl bm =>
 opK Tryd.prog E (xV (Instr.loadAt 3 bl)) bm fun e bn =>
 opK Tryd.prog E (xBin .eql 3 (.tmp 38) (.const (Value.int .i64 1)) e (Value.int .i64 1)) bn fun bo k =>
 xcond bo
 (opK Tryd.prog E (xV (Instr.fieldAt 146 b 0)) k fun bp bq =>
 opK Tryd.prog E (xV (Instr.fieldAt 25 bp 1)) bq fun br bs =>
 opK Tryd.prog E (xV (Instr.loadAt 2 br)) bs fun bt bu =>
 opK Tryd.prog E (xBin .geq 2 (.tmp 43) (.const (Value.int .i64 0)) bt (Value.int .i64 0)) bu fun f bv =>
 opK Tryd.prog E (gsem (asB f) true (xBin .eql 3 (.tmp 46) (.const (Value.int .i64 0)) (gval (asB f) true g) (Value.int .i64 0))) bv fun bw bz =>
 opK Tryd.prog E (xPick f bw (Value.bool false)) bz fun ca cb =>
 R ca cb)
 (xcut (fun cc cd => b2O g e (nth cc 0) cd R E) fun j1 =>
 opK Tryd.prog E (xBin .eql 3 (.tmp 38) (.const (Value.int .i64 2)) e (Value.int .i64 2)) k fun l m =>
 xcond l
 (j1 [l] m)
 (opK Tryd.prog E (xBin .eql 3 (.tmp 38) (.const (Value.int .i64 3)) e (Value.int .i64 3)) m fun ce cf =>
 j1 [ce] cf)))
def h99 : Hint := (.seq .none (.seq .none (.seq .none (.seq (.seq .none (.cond (.seq .none .none) .none)) (.seq (.seq .none (.block (.seq .none (.cond (.seq .none .none) (.cut [49] (.seq .none (.cond .none .none)) (.cond (.seq .none .none) (.cut [54] (.seq .none (.cond .none .none)) (.cond (.seq .none .none) (.cut [59] (.seq .none (.cond .none (.seq .none (.cond .none (.seq .none (.cond .none (.seq .none (.cond .none .none)))))))) (.cond (.seq .none .none) .none)))))))))) (.seq .none .none))))))
theorem c0V {x0 : Value} {w : World} {R : Value → World → Prop} {E : Pan} (h : F99 x0 w R E) : Cv Tryd.prog 99 #[x0] w R E := okF (args := [x0]) (h := h99) Tryd.func99 (by kernel_rfl) (by kernel_rfl) h
def c0W (x0 : Value) (w : World) (R : Value → World → Prop) (E : Pan) : Prop :=
 opK Tryd.prog E (xV (Instr.box 146 x0)) w fun a b =>
 opK Tryd.prog E (xV (Instr.fieldAt 146 a 0)) b fun c d =>
 opK Tryd.prog E (xV (Instr.fieldAt 25 c 3)) d fun e f =>
 opK Tryd.prog E (xV (Instr.loadAt 23 e)) f fun g i =>
 opK Tryd.prog E (xCall (Value.func (.func 97) #[] #[]) [g, (Value.func (.func 98) #[] #[])]) i fun j k =>
 R j k
def c2r : Hint := (.seq .none (.seq .none .none))
theorem b8C {x0 : Value} {w : World} {R : Value → World → Prop} {E : Pan} (h : c0W x0 w R E) : Cv Tryd.prog 100 #[x0] w R E := okF (args := [x0]) (h := c2r) Tryd.func100 (by kernel_rfl) (by kernel_rfl) h
def b0y (x3 x50 : Value) (w : World) (R : Value → World → Prop) (E : Pan) : Prop :=
 ∀ _τ : Fr, (xcond x50
 (opK Tryd.prog E (xV (Instr.loadAt 184 x3)) w fun a b =>
 opK Tryd.prog E (xV (Instr.build 184 #[(0, (Value.int .i64 0)), (1, (Value.int .i64 2))])) b fun c d =>
 opK Tryd.prog E (xBin .eql 184 (.tmp 53) (.tmp 54) a c) d fun e f =>
 R e f)
 (R (Value.bool false) w))
def b0z (x3 x38 x39 : Value) (w : World) (R : Value → World → Prop) (E : Pan) : Prop :=
 ∀ _τ : Fr, (xcond x39
 (opK Tryd.prog E (xV (Instr.loadAt 184 x3)) w fun d e =>
 opK Tryd.prog E (xV (Instr.build 184 #[])) e fun f g =>
 opK Tryd.prog E (xBin .eql 184 (.tmp 42) (.tmp 43) d f) g fun i j =>
 R i j)
 (opK Tryd.prog E (xBin .eql 3 (.tmp 38) (.const (Value.int .i64 4)) x38 (Value.int .i64 4)) w fun k a =>
 xcond k
 (opK Tryd.prog E (xV (Instr.loadAt 184 x3)) a fun l m =>
 opK Tryd.prog E (xV (Instr.build 184 #[(0, (Value.int .i64 0)), (1, (Value.int .i64 1))])) m fun n o =>
 opK Tryd.prog E (xBin .eql 184 (.tmp 47) (.tmp 48) l n) o fun p q =>
 R p q)
 (xcut (fun r s => b0y x3 (nth r 0) s R E) fun j2 =>
 opK Tryd.prog E (xBin .eql 3 (.tmp 38) (.const (Value.int .i64 5)) x38 (Value.int .i64 5)) a fun b c =>
 xcond b
 (j2 [b] c)
 (opK Tryd.prog E (xBin .eql 3 (.tmp 38) (.const (Value.int .i64 6)) x38 (Value.int .i64 6)) c fun t u =>
 j2 [t] u))))
def c0X (x0 : Value) (w : World) (R : Value → World → Prop) (E : Pan) : Prop :=
 opK Tryd.prog E (xV (Instr.box 181 x0)) w fun a k =>
 opK Tryd.prog E (xV (Instr.fieldAt 181 a 0)) k fun l m =>
 opK Tryd.prog E (xV (Instr.fieldAt 89 l 2)) m fun n o =>
 opK Tryd.prog E (xV (Instr.loadAt 23 n)) o fun p q =>
 opK Tryd.prog E (xBuiltin .len #[23] 3 [false] [p]) q fun r s =>
 opK Tryd.prog E (xV (Instr.fieldAt 181 a 0)) s fun t u =>
 opK Tryd.prog E (xV (Instr.fieldAt 89 t 3)) u fun v y =>
 opK Tryd.prog E (xV (Instr.loadAt 36 v)) y fun z aa =>
 opK Tryd.prog E (xBuiltin .len #[36] 3 [false] [z]) aa fun ab ac =>
 opK Tryd.prog E (xV (Instr.build 184 #[(0, r), (1, ab)])) ac fun ad ae =>
 opK Tryd.prog E (xV (Instr.alloc 184 true (.tuple #[]))) ae fun d af =>
 opK Tryd.prog E (xU (Instr.storeAt 184 d ad)) af fun _ ag =>
 opK Tryd.prog E (xV (Instr.fieldAt 181 a 0)) ag fun ah ai =>
 opK Tryd.prog E (xV (Instr.fieldAt 89 ah 0)) ai fun aj ak =>
 opK Tryd.prog E (xV (Instr.loadAt 3 aj)) ak fun al am =>
 opK Tryd.prog E (xBin .eql 3 (.tmp 15) (.const (Value.int .i64 3)) al (Value.int .i64 3)) am fun an f =>
 xcond an
 (opK Tryd.prog E (xV (Instr.fieldAt 181 a 0)) f fun ao ap =>
 opK Tryd.prog E (xV (Instr.fieldAt 89 ao 1)) ap fun aq ar =>
 opK Tryd.prog E (xV (Instr.loadAt 3 aq)) ar fun au av =>
 opK Tryd.prog E (xBin .geq 3 (.tmp 19) (.const (Value.int .i64 1)) au (Value.int .i64 1)) av fun b aw =>
 opK Tryd.prog E (gsem (asB b) true (xV (Instr.fieldAt 181 a 0))) aw fun ax ay =>
 opK Tryd.prog E (gsem (asB b) true (xV (Instr.fieldAt 89 ax 1))) ay fun az ba =>
 opK Tryd.prog E (gsem (asB b) true (xV (Instr.loadAt 3 az))) ba fun bb bc =>
 opK Tryd.prog E (gsem (asB b) true (xBin .leq 3 (.tmp 24) (.const (Value.int .i64 6)) bb (Value.int .i64 6))) bc fun bd be =>
 opK Tryd.prog E (xPick b bd (Value.bool false)) be fun c bf =>
 opK Tryd.prog E (gsem (asB c) true (xV (Instr.loadAt 184 d))) bf fun bg bh =>
 opK Tryd.prog E (gsem (asB c) true (xV (Instr.build 184 #[(0, (Value.int .i64 2)), (1, (Value.int .i64 0))]))) bh fun bi bj =>
 opK Tryd.prog E (gsem (asB c) true (xBin .eql 184 (.tmp 28) (.tmp 29) bg bi)) bj fun bk bl =>
 opK Tryd.prog E (xPick c bk (Value.bool false)) bl fun bm bn =>
 R bm bn)
 (opK Tryd.prog E (xV (Instr.fieldAt 181 a 0)) f fun bo bp =>
 opK Tryd.prog E (xV (Instr.fieldAt 89 bo 1)) bp fun bq br =>
 opK Tryd.prog E (xV (Instr.loadAt 3 bq)) br fun bs bt =>
 opK Tryd.prog E (xBin .neq 3 (.tmp 34) (.const (Value.int .i64 0)) bs (Value.int .i64 0)) bt fun bu g =>
 xcond bu
 (R (Value.bool false) g)
 (opK Tryd.prog E (xV (Instr.fieldAt 181 a 0)) g fun bv bw =>
 opK Tryd.prog E (xV (Instr.fieldAt 89 bv 0)) bw fun bz ca =>
 opK Tryd.prog E (xV (Instr.loadAt 3 bz)) ca fun e cb =>
 xcut (fun cc cd => b0z d e (nth cc 0) cd R E) fun j1 =>
 opK Tryd.prog E (xBin .eql 3 (.tmp 38) (.const (Value.int .i64 1)) e (Value.int .i64 1)) cb fun i j =>
 xcond i
 (j1 [i] j)
 (opK Tryd.prog E (xBin .eql 3 (.tmp 38) (.const (Value.int .i64 2)) e (Value.int .i64 2)) j fun ce cf =>
 j1 [ce] cf)))
def c2s : Hint := (.seq .none (.seq .none (.seq (.seq .none (.cond (.seq .none .none) .none)) (.seq (.seq .none (.cond (.seq .none .none) .none)) (.seq (.seq .none (.block (.cut [39] (.seq .none (.cond .none .none)) (.cond (.seq .none .none) (.seq .none (.cond (.seq .none .none) (.cut [50] (.seq .none (.cond .none .none)) (.cond (.seq .none .none) .none)))))))) (.seq .none .none))))))
theorem b8D {x0 : Value} {w : World} {R : Value → World → Prop} {E : Pan} (h : c0X x0 w R E) : Cv Tryd.prog 102 #[x0] w R E := okF (args := [x0]) (h := c2s) Tryd.func102 (by kernel_rfl) (by kernel_rfl) h
def c0Y (x0 : Value) (w : World) (R : Value → World → Prop) (E : Pan) : Prop :=
 opK Tryd.prog E (xV (Instr.box 181 x0)) w fun f j =>
 dX j fun a =>
 qP Tryd.prog (xV (Instr.fieldAt 181 f 0)) fun k =>
 qP Tryd.prog (xV (Instr.fieldAt 89 k 2)) fun g =>
 qP Tryd.prog (xV (Instr.fieldAt 181 f 0)) fun l =>
 qP Tryd.prog (xV (Instr.fieldAt 89 l 3)) fun b =>
 qL Tryd.prog a (blk g) (xV (Instr.loadAt 23 g)) fun m =>
 qL Tryd.prog a (blk b) (xV (Instr.loadAt 36 b)) fun n =>
 opK Tryd.prog E (xCall (Value.func (.func 97) #[] #[]) [m, (Value.func (.func 98) #[] #[])]) a fun o c =>
 keepX [(blk b)] a c (opK Tryd.prog E (xCall (Value.func (.func 95) #[] #[]) [n, (Value.func (.func 96) #[] #[])]) c fun p d =>
 keepX [] c d (opK Tryd.prog E (xV (Instr.buildSlice 135 2 #[(0, o), (1, p)])) d fun q e =>
 keepX [] d e (opK Tryd.prog E (xCall (Value.func (.func 55) #[] #[]) [q]) e fun r i =>
 keepX [] e i (R r i))))
def c2t : Hint := (.seq .none (.seq (.reg [(0, 8, 2), (1, 16, 8), (2, 32, 16), (4, 64, 32), (0, 128, 2), (16, 256, 128), (32, 512, 256), (72, 1024, 512), (136, 2048, 1088), (384, 4096, 2048), (1023, 4, 4096)] [68, 68, 64, 64, 68, 68, 4, 0, 0, 0, 68] (.early 0 (.early 1 (.early 4 (.early 5 (.load 2 (.load 6 (.step 3 (.step 7 (.step 8 (.step 9 (.early 10 .done)))))))))))) .none))
theorem b8E {x0 : Value} {w : World} {R : Value → World → Prop} {E : Pan} (h : c0Y x0 w R E) : Cv Tryd.prog 103 #[x0] w R E := okF (args := [x0]) (h := c2t) Tryd.func103 (by kernel_rfl) (by kernel_rfl) h
end Go.Proofs.YtaokfhdinhimfaaDoor
