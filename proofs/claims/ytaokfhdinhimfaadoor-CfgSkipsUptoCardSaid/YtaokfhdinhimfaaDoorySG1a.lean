/- The second reading of some of the program's functions, printed by gen2.py off the code; each is held against the code by the kernel. -/
import Derived.Test.YtaokfhdinhimfaaDoorProg
import Derived.KernelRfl
import Derived.Test.YtaokfhdinhimfaaDoorySK0
namespace Go.Proofs.YtaokfhdinhimfaaDoor
open Go.RowKit
set_option maxRecDepth 100000
def h3 : Hint := (.seq .none (.seq (.seq .none (.cond (.seq .none .none) .none)) (.seq (.seq .none (.cond (.seq .none .none) .none)) (.seq .none (.cut [] (.seq .none (.block (.loop [4] (.seq (.seq .none (.cond .none .none)) (.seq (.block .none) .none))))) (.seq .none (.seq (.seq .none (.cond (.seq .none .none) .none)) (.seq (.reg [(0, 35184372088832, 64), (1, 70368744177664, 35184372088832), (2, 140737488355328, 70368744177664), (4, 281474976710656, 140737488355360), (12, 562949953421312, 422212465065984), (4, 1125899906842624, 140737488355329), (52, 2251799813685248, 1829587348619264), (68, 4503599627370496, 2392537302040576), (132, 9007199254740992, 4503599627370496), (256, 18014398509481984, 9007199254741024), (768, 36028797018963968, 27021597764222976), (1280, 72057594037927936, 45035996273704960), (256, 144115188075855872, 9007199254740993), (4352, 288230376151711744, 153122387330596864), (8448, 576460752303423488, 297237575406452736), (18688, 1152921504606846976, 657525545596092416), (33024, 2305843009213693952, 1161928703861587968), (65792, 4611686018427387904, 2305843009213693952), (131072, 9223372036854775808, 4611686018427387936), (393216, 18446744073709551616, 13835058055282163712), (131072, 36893488147419103232, 4611686018427387905), (1179648, 73786976294838206464, 41505174165846491136), (2752512, 147573952589676412928, 96845406386975145984), (4325376, 295147905179352825856, 152185638608103800832), (16777215, 4, 295147905179352825856)] [525328, 525328, 525328, 525328, 525312, 525328, 525328, 525328, 525328, 525328, 524304, 525328, 525328, 525328, 525328, 525328, 525328, 525328, 525328, 1040, 525328, 525328, 525328, 525328, 525328] (.early 0 (.early 1 (.early 2 (.early 3 (.early 5 (.load 4 (.early 6 (.early 7 (.early 8 (.early 9 (.early 12 (.early 13 (.early 14 (.load 10 (.early 11 (.early 15 (.early 16 (.early 17 (.early 18 (.early 20 (.early 21 (.load 19 (.early 22 (.early 23 (.early 24 .done)))))))))))))))))))))))))) .none))))))))
def c1G (x1 x5 x6 : Value) (w : World) (R : Value → World → Prop) (E : Pan) : Prop :=
 ∀ _τ : Fr, (opK Tryd.prog E (xV (Instr.fieldAt 41 x1 1)) w fun c d =>
 opK Tryd.prog E (xV (Instr.loadAt 37 c)) d fun e f =>
 opK Tryd.prog E (xCall (Value.func (.func 8) #[] #[]) [e]) f fun b g =>
 opK Tryd.prog E (xBin .eql 3 (.tmp 42) (.tmp 43) x5 b) g fun a i =>
 opK Tryd.prog E (gsem (asB a) true (xBin .eql 3 (.tmp 46) (.tmp 47) (gval (asB a) true x6) (gval (asB a) true b))) i fun j k =>
 opK Tryd.prog E (xPick a j (Value.bool false)) k fun l m =>
 R l m)
def c1H (_x1 _x3 x5 x6 x7 : Value) (w : World) (next2 : List Value → World → Prop) (_R : Value → World → Prop) (E : Pan) : Prop :=
 ∀ _τ : Fr, (opK Tryd.prog E (xBin .add 3 (.tmp 23) (.const (Value.int .i64 1)) x7 (Value.int .i64 1)) w fun a b =>
 next2 [x5, x6, a] b)
def c1I (x1 x3 x5 x6 x7 : Value) (w : World) (next2 : List Value → World → Prop) (j1 : List Value → World → Prop) (R : Value → World → Prop) (E : Pan) : Prop :=
 opK Tryd.prog E (xV (Instr.fieldAt 30 x3 5)) w fun f g =>
 opK Tryd.prog E (xV (Instr.loadAt 28 f)) g fun i j =>
 opK Tryd.prog E (xBuiltin .len #[28] 3 [false] [i]) j fun k l =>
 opK Tryd.prog E (xBin .lss 3 (.tmp 18) (.tmp 21) x7 k) l fun m a =>
 xcond m
 (xcut (fun b n => c1H x1 x3 (nth b 0) (nth b.tail 0) x7 n next2 R E) fun j3 =>
 opK Tryd.prog E (xV (Instr.fieldAt 30 x3 5)) a fun o p =>
 opK Tryd.prog E (xV (Instr.loadAt 28 o)) p fun q r =>
 opK Tryd.prog E (xV (Instr.indexAt 28 q x7)) r fun s t =>
 opK Tryd.prog E (xV (Instr.fieldAt 46 s 2)) t fun u v =>
 opK Tryd.prog E (xV (Instr.loadAt 3 u)) v fun c y =>
 opK Tryd.prog E (xBin .eql 3 (.tmp 30) (.const (Value.int .i64 13)) c (Value.int .i64 13)) y fun z d =>
 xcond z
 (opK Tryd.prog E (xBin .add 3 (.tmp 33) (.const (Value.int .i64 1)) x5 (Value.int .i64 1)) d fun aa ab =>
 j3 [aa, x6] ab)
 (opK Tryd.prog E (xBin .eql 3 (.tmp 30) (.const (Value.int .i64 14)) c (Value.int .i64 14)) d fun ac e =>
 xcond ac
 (opK Tryd.prog E (xBin .add 3 (.tmp 37) (.const (Value.int .i64 1)) x6 (Value.int .i64 1)) e fun ad ae =>
 j3 [x5, ad] ae)
 (j3 [x5, x6] e)))
 (j1 [x5, x6] a)
def F4 (x0 : Value) (w : World) (R : Value → World → Prop) (E : Pan) : Prop :=
 opK Tryd.prog E (xV (Instr.box 41 x0)) w fun a i =>
 opK Tryd.prog E (xCall (Value.func (.func 6) #[] #[]) []) i fun j k =>
 opK Tryd.prog E (xV (Op.unary .not j)) k fun l c =>
 xcond l
 (R (Value.bool false) c)
 (opK Tryd.prog E (xV (Instr.loadAt 41 a)) c fun m n =>
 opK Tryd.prog E (xCall (Value.func (.func 7) #[] #[]) [m]) n fun d o =>
 opK Tryd.prog E (xV (Instr.extract d 0)) o fun p q =>
 opK Tryd.prog E (xV (Instr.extract d 1)) q fun r s =>
 opK Tryd.prog E (xV (Instr.alloc 30 true (.tuple #[]))) s fun e t =>
 opK Tryd.prog E (xU (Instr.storeAt 30 e p)) t fun _ u =>
 opK Tryd.prog E (xBin .neq 31 (.tmp 16) (.const (Value.int .i64 0)) r (Value.int .i64 0)) u fun v f =>
 xcond v
 (R (Value.bool true) f)
 (xcut (fun g y => c1G a (nth g 0) (nth g.tail 0) y R E) fun j1 =>
 xloop [5, 6, 7] [(Value.int .i64 0), (Value.int .i64 0), (Value.int .i64 0)] f fun b z next2 =>
 c1I a e (b 5) (b 6) (b 7) z next2 j1 R E))
def h4 : Hint := (.seq .none (.seq (.seq .none (.cond (.seq .none .none) .none)) (.seq .none (.seq (.seq .none (.cond (.seq .none .none) .none)) (.seq .none (.cut [5, 6] (.seq .none (.block (.loop [5, 6, 7] (.seq (.seq .none (.cond .none .none)) (.cut [5, 6] (.block (.seq .none (.block (.seq .none (.cond .none (.seq .none (.cond .none .none))))))) .none))))) (.seq .none (.seq .none .none))))))))
def b4n (w : World) (R : Value → World → Prop) (_E : Pan) : Prop :=
 ∀ _τ : Fr, (R (Value.bool true) w)
def b7F (x0 x5 x7 x9 : Value) (w : World) (next3 : List Value → World → Prop) (j2 : List Value → World → Prop) (R : Value → World → Prop) (E : Pan) : Prop :=
 opK Tryd.prog E (xBin .lss 3 (.tmp 88) (.tmp 89) x9 x0) w fun n d =>
 xcond n
 (dX d fun c =>
 qP Tryd.prog (xV (Instr.fieldAt 30 x5 5)) fun e =>
 qL Tryd.prog c (blk e) (xV (Instr.loadAt 28 e)) fun o =>
 qP Tryd.prog (xV (Instr.indexAt 28 o x9)) fun p =>
 qP Tryd.prog (xV (Instr.fieldAt 46 p 2)) fun f =>
 qL Tryd.prog c (blk f) (xV (Instr.loadAt 3 f)) fun q =>
 qP Tryd.prog (xBin .neq 3 (.tmp 98) (.const (Value.int .i64 1)) q (Value.int .i64 1)) fun b =>
 qP Tryd.prog (gsem (asB b) false (xV (Instr.fieldAt 30 x5 5))) fun g =>
 qP Tryd.prog (gsem (asB b) false (xV (Instr.indexAt 49 (gval (asB b) false x7) (gval (asB b) false x9)))) fun i =>
 qL Tryd.prog c (blk g) (gsem (asB b) false (xV (Instr.loadAt 28 g))) fun r =>
 qP Tryd.prog (gsem (asB b) false (xV (Instr.indexAt 28 r (gval (asB b) false x9)))) fun s =>
 qP Tryd.prog (gsem (asB b) false (xV (Instr.fieldAt 46 s 0))) fun j =>
 qL Tryd.prog c (blk j) (gsem (asB b) false (xV (Instr.loadAt 3 j))) fun t =>
 qL Tryd.prog c (blk i) (gsem (asB b) false (xV (Instr.loadAt 3 i))) fun u =>
 qP Tryd.prog (gsem (asB b) false (xBin .neq 3 (.tmp 106) (.tmp 110) t u)) fun v =>
 qP Tryd.prog (xPick b (Value.bool true) v) fun a =>
 qP Tryd.prog (gsem (asB a) false (xV (Instr.fieldAt 30 x5 5))) fun k =>
 qP Tryd.prog (gsem (asB a) false (xBin .add 3 (.tmp 121) (.const (Value.int .i64 1)) (gval (asB a) false x9) (Value.int .i64 1))) fun y =>
 qP Tryd.prog (gsem (asB a) false (xV (Instr.indexAt 49 (gval (asB a) false x7) y))) fun l =>
 qL Tryd.prog c (blk k) (gsem (asB a) false (xV (Instr.loadAt 28 k))) fun z =>
 qP Tryd.prog (gsem (asB a) false (xV (Instr.indexAt 28 z (gval (asB a) false x9)))) fun aa =>
 qP Tryd.prog (gsem (asB a) false (xV (Instr.fieldAt 46 aa 1))) fun m =>
 qL Tryd.prog c (blk m) (gsem (asB a) false (xV (Instr.loadAt 3 m))) fun ab =>
 qL Tryd.prog c (blk l) (gsem (asB a) false (xV (Instr.loadAt 3 l))) fun ac =>
 qP Tryd.prog (gsem (asB a) false (xBin .neq 3 (.tmp 119) (.tmp 124) ab ac)) fun ad =>
 qP Tryd.prog (xPick a (Value.bool true) ad) fun ae =>
 xcond ae
 (R (Value.bool false) c)
 (opK Tryd.prog E (xBin .add 3 (.tmp 91) (.const (Value.int .i64 1)) x9 (Value.int .i64 1)) c fun af ag =>
 next3 [af] ag))
 (j2 [] d)
def b4o (x0 x3 : Value) (w : World) (R : Value → World → Prop) (E : Pan) : Prop :=
 ∀ _τ : Fr, (opK Tryd.prog E (xV (Instr.loadAt 41 x3)) w fun o p =>
 opK Tryd.prog E (xCall (Value.func (.func 7) #[] #[]) [o]) p fun k q =>
 opK Tryd.prog E (xV (Instr.extract k 0)) q fun r s =>
 opK Tryd.prog E (xV (Instr.extract k 1)) s fun t u =>
 opK Tryd.prog E (xV (Instr.alloc 30 true (.tuple #[]))) u fun a v =>
 opK Tryd.prog E (xU (Instr.storeAt 30 a r)) v fun _ y =>
 opK Tryd.prog E (xBin .neq 31 (.tmp 35) (.const (Value.int .i64 0)) t (Value.int .i64 0)) y fun b z =>
 opK Tryd.prog E (gsem (asB b) false (xV (Instr.fieldAt 30 a 3))) z fun aa ab =>
 opK Tryd.prog E (gsem (asB b) false (xV (Instr.loadAt 3 aa))) ab fun ac ad =>
 opK Tryd.prog E (gsem (asB b) false (xBin .add 3 (.tmp 40) (.const (Value.int .i64 1)) (gval (asB b) false x0) (Value.int .i64 1))) ad fun ae af =>
 opK Tryd.prog E (gsem (asB b) false (xBin .neq 3 (.tmp 39) (.tmp 41) ac ae)) af fun ag ah =>
 opK Tryd.prog E (xPick b (Value.bool true) ag) ah fun c ai =>
 opK Tryd.prog E (gsem (asB c) false (xV (Instr.fieldAt 30 a 5))) ai fun aj ak =>
 opK Tryd.prog E (gsem (asB c) false (xV (Instr.loadAt 28 aj))) ak fun al am =>
 opK Tryd.prog E (gsem (asB c) false (xBuiltin .len #[28] 3 [false] [al])) am fun an ao =>
 opK Tryd.prog E (gsem (asB c) false (xBin .neq 3 (.tmp 47) (.tmp 48) an (gval (asB c) false x0))) ao fun ap aq =>
 opK Tryd.prog E (xPick c (Value.bool true) ap) aq fun g ar =>
 opK Tryd.prog E (gsem (asB g) false (xV (Instr.fieldAt 30 a 4))) ar fun au av =>
 opK Tryd.prog E (gsem (asB g) false (xV (Instr.loadAt 3 au))) av fun aw ax =>
 opK Tryd.prog E (gsem (asB g) false (xBin .neq 3 (.tmp 53) (.const (Value.int .i64 1)) aw (Value.int .i64 1))) ax fun ay az =>
 opK Tryd.prog E (xPick g (Value.bool true) ay) az fun i ba =>
 opK Tryd.prog E (gsem (asB i) false (xV (Instr.fieldAt 30 a 1))) ba fun bb bc =>
 opK Tryd.prog E (gsem (asB i) false (xV (Instr.loadAt 3 bb))) bc fun bd be =>
 opK Tryd.prog E (gsem (asB i) false (xBin .neq 3 (.tmp 58) (.const (Value.int .i64 0)) bd (Value.int .i64 0))) be fun bf bg =>
 opK Tryd.prog E (xPick i (Value.bool true) bf) bg fun bh l =>
 xcond bh
 (R (Value.bool false) l)
 (opK Tryd.prog E (xV (Instr.loadAt 30 a)) l fun bi bj =>
 opK Tryd.prog E (xCall (Value.func (.func 9) #[] #[]) [bi]) bj fun m bk =>
 opK Tryd.prog E (xV (Instr.extract m 0)) bk fun j bl =>
 opK Tryd.prog E (xV (Instr.extract m 1)) bl fun bm bn =>
 opK Tryd.prog E (xBin .neq 31 (.tmp 66) (.const (Value.int .i64 0)) bm (Value.int .i64 0)) bn fun d bo =>
 opK Tryd.prog E (gsem (asB d) false (xBuiltin .len #[49] 3 [false] [(gval (asB d) false j)])) bo fun bp bq =>
 opK Tryd.prog E (gsem (asB d) false (xBin .add 3 (.tmp 71) (.const (Value.int .i64 1)) (gval (asB d) false x0) (Value.int .i64 1))) bq fun br bs =>
 opK Tryd.prog E (gsem (asB d) false (xBin .neq 3 (.tmp 70) (.tmp 72) bp br)) bs fun bt bu =>
 opK Tryd.prog E (xPick d (Value.bool true) bt) bu fun f bv =>
 opK Tryd.prog E (gsem (asB f) false (xV (Instr.indexAt 49 (gval (asB f) false j) (Value.int .i64 0)))) bv fun bw bz =>
 opK Tryd.prog E (gsem (asB f) false (xV (Instr.loadAt 3 bw))) bz fun ca cb =>
 opK Tryd.prog E (gsem (asB f) false (xBin .neq 3 (.tmp 78) (.const (Value.int .i64 0)) ca (Value.int .i64 0))) cb fun cc cd =>
 opK Tryd.prog E (xPick f (Value.bool true) cc) cd fun e ce =>
 opK Tryd.prog E (gsem (asB e) false (xV (Instr.indexAt 49 (gval (asB e) false j) (gval (asB e) false x0)))) ce fun cf cg =>
 opK Tryd.prog E (gsem (asB e) false (xV (Instr.loadAt 3 cf))) cg fun ch ci =>
 opK Tryd.prog E (gsem (asB e) false (xBin .neq 3 (.tmp 85) (.const (Value.int .i64 1)) ch (Value.int .i64 1))) ci fun cj ck =>
 opK Tryd.prog E (xPick e (Value.bool true) cj) ck fun cl n =>
 xcond cl
 (R (Value.bool false) n)
 (xcut (fun _ cm => b4n cm R E) fun j2 =>
 xloop [9] [(Value.int .i64 0)] n fun cn co next3 =>
 b7F x0 a j (cn 9) co next3 j2 R E)))
def b7G (x0 x3 x4 : Value) (w : World) (next4 : List Value → World → Prop) (j1 : List Value → World → Prop) (_R : Value → World → Prop) (E : Pan) : Prop :=
 opK Tryd.prog E (xBin .lss 3 (.tmp 19) (.tmp 20) x4 x0) w fun b a =>
 xcond b
 (opK Tryd.prog E (xV (Instr.fieldAt 41 x3 1)) a fun c d =>
 opK Tryd.prog E (xV (Instr.loadAt 37 c)) d fun e f =>
 opK Tryd.prog E (xV (Instr.build 39 #[(0, (Value.int .i64 7))])) f fun g i =>
 opK Tryd.prog E (xV (Instr.buildSlice 37 1 #[(0, g)])) i fun j k =>
 opK Tryd.prog E (xBuiltin .append #[37, 37] 37 [false, false] [e, j]) k fun l m =>
 opK Tryd.prog E (xV (Instr.fieldAt 41 x3 1)) m fun n o =>
 opK Tryd.prog E (xU (Instr.storeAt 37 n l)) o fun _ p =>
 opK Tryd.prog E (xBin .add 3 (.tmp 22) (.const (Value.int .i64 1)) x4 (Value.int .i64 1)) p fun q r =>
 next4 [q] r)
 (j1 [] a)
def F5 (x0 : Value) (w : World) (R : Value → World → Prop) (E : Pan) : Prop :=
 opK Tryd.prog E (xCall (Value.func (.func 6) #[] #[]) []) w fun e f =>
 opK Tryd.prog E (xV (Op.unary .not e)) f fun g c =>
 xcond g
 (R (Value.bool false) c)
 (opK Tryd.prog E (xBin .lss 3 (.tmp 12) (.const (Value.int .i64 1)) x0 (Value.int .i64 1)) c fun a i =>
 opK Tryd.prog E (gsem (asB a) false (xBin .gtr 3 (.tmp 15) (.const (Value.int .i64 1000)) (gval (asB a) false x0) (Value.int .i64 1000))) i fun j k =>
 opK Tryd.prog E (xPick a (Value.bool true) j) k fun l d =>
 xcond l
 (R (Value.bool true) d)
 (opK Tryd.prog E (xV (Instr.build 41 #[])) d fun m n =>
 opK Tryd.prog E (xV (Instr.alloc 41 true (.tuple #[]))) n fun b o =>
 opK Tryd.prog E (xU (Instr.storeAt 41 b m)) o fun _ p =>
 xcut (fun _ q => b4o x0 b q R E) fun j1 =>
 xloop [4] [(Value.int .i64 0)] p fun r s next4 =>
 b7G x0 b (r 4) s next4 j1 R E))
def h5 : Hint := (.seq .none (.seq (.seq .none (.cond (.seq .none .none) .none)) (.seq (.seq .none (.cond (.seq .none .none) .none)) (.seq .none (.cut [] (.seq .none (.block (.loop [4] (.seq (.seq .none (.cond .none .none)) (.seq (.block .none) .none))))) (.seq .none (.seq (.seq .none (.cond (.seq .none .none) .none)) (.seq .none (.seq (.seq .none (.cond (.seq .none .none) .none)) (.cut [] (.seq .none (.block (.loop [9] (.seq (.seq .none (.cond .none .none)) (.seq (.block (.seq (.reg [(0, 9903520314283042199192993792, 32), (1, 19807040628566084398385987584, 9903520314283042199192993792), (0, 39614081257132168796771975168, 512), (6, 79228162514264337593543950336, 59421121885698253195157962752), (8, 158456325028528675187087900672, 79228162514264337593543950336), (16, 316912650057057350374175801344, 158456325028528675187087900672), (32, 633825300114114700748351602688, 316912650057057350374175801344), (64, 1267650600228229401496703205376, 633825300114114700748351602688), (128, 2535301200456458802993406410752, 1267650600228229401496703205408), (384, 5070602400912917605986812821504, 3802951800684688204490109616128), (128, 10141204801825835211973625643008, 1267650600228229401496703205888), (1664, 20282409603651670423947251286016, 16479457802966982219457141669888), (2176, 40564819207303340847894502572032, 21550060203879899825443954491392), (4224, 81129638414606681695789005144064, 41832469807531570249391205777408), (128, 162259276829213363391578010288128, 1267650600228229401496703205504), (128, 324518553658426726783156020576256, 1267650600228229401496703205888), (49280, 649037107316853453566312041152512, 488045481087868319576230734069760), (65664, 1298074214633706907132624082305024, 650304757917081682967808744357888), (139392, 2596148429267413814265248164610048, 1380471503648541818229909790654464), (262272, 5192296858534827628530496329220096, 2597416079867642043666744867815424), (524416, 10384593717069655257060992658440192, 5192296858534827628530496329220096), (1048576, 20769187434139310514121985316880384, 10384593717069655257060992658440224), (3145728, 41538374868278621028243970633760768, 31153781151208965771182977975320576), (1048576, 83076749736557242056487941267521536, 10384593717069655257060992658440704), (13631488, 166153499473114484112975882535043072, 134999718321905518341792904559722496), (17825792, 332306998946228968225951765070086144, 176538093190184139370036875193483264), (34603008, 664613997892457936451903530140172288, 342691592663298623483012757728526336), (1048576, 1329227995784915872903807060280344576, 10384593717069655257060992658440320), (1048576, 2658455991569831745807614120560689152, 10384593717069655257060992658440704), (269484032, 5316911983139663491615228241121378304, 2668840585286901401064675113219129344), (672137216, 10633823966279326983230456482242756608, 6656524572641649019776096294060163072), (1074790400, 21267647932558653966460912964485513216, 10644208559996396638487517474901196800), (2215641088, 42535295865117307932921825928971026432, 21942646524168181558169877487284125696), (4296015872, 85070591730234615865843651857942052864, 42545680458834377588178886921629466624)] [2218926626, 2218926624, 2218926626, 2218926626, 2218926626, 2218926594, 2218926626, 2218926626, 2218926626, 2218926114, 2218926626, 2218926626, 2218926626, 2218918434, 2218926626, 2218926626, 2218926626, 2218795554, 2218926626, 2218926626, 2218926626, 2218926626, 2214732322, 2218926626, 2218926626, 2218926626, 2151817762, 2218926626, 2218926626, 2218926626, 2218926626, 71442978, 2218926626, 2218926626] (.early 0 (.early 2 (.load 1 (.early 3 (.early 4 (.load 5 (.early 6 (.early 7 (.early 8 (.early 10 (.early 14 (.early 15 (.early 16 (.load 9 (.early 11 (.early 12 (.load 13 (.load 17 (.early 18 (.early 19 (.early 20 (.early 21 (.early 23 (.early 27 (.early 28 (.early 29 (.early 30 (.load 22 (.early 24 (.early 25 (.load 26 (.load 31 (.early 32 (.early 33 .done))))))))))))))))))))))))))))))))))) (.cond (.seq .none .none) .none))) .none))))) (.seq .none .none)))))))))))
theorem c1J {x0 : Value} {w : World} {R : Value → World → Prop} {E : Pan} (h : F5 x0 w R E) : Cv Tryd.prog 5 #[x0] w R E := okF (args := [x0]) (h := h5) Tryd.func5 (by kernel_rfl) (by kernel_rfl) h
def F6 (w : World) (R : Value → World → Prop) (E : Pan) : Prop :=
 opK Tryd.prog E (xV (Instr.build 39 #[(0, (Value.int .i64 7))])) w fun g i =>
 opK Tryd.prog E (xV (Instr.buildSlice 37 1 #[(0, g)])) i fun j k =>
 opK Tryd.prog E (xV (Instr.build 41 #[(1, j)])) k fun l m =>
 opK Tryd.prog E (xCall (Value.func (.func 7) #[] #[]) [l]) m fun f n =>
 opK Tryd.prog E (xV (Instr.extract f 0)) n fun o p =>
 opK Tryd.prog E (xV (Instr.extract f 1)) p fun q r =>
 opK Tryd.prog E (xV (Instr.alloc 30 true (.tuple #[]))) r fun b s =>
 opK Tryd.prog E (xU (Instr.storeAt 30 b o)) s fun _ t =>
 opK Tryd.prog E (xBin .eql 31 (.tmp 10) (.const (Value.int .i64 0)) q (Value.int .i64 0)) t fun d u =>
 opK Tryd.prog E (gsem (asB d) true (xV (Instr.fieldAt 30 b 3))) u fun v y =>
 opK Tryd.prog E (gsem (asB d) true (xV (Instr.loadAt 3 v))) y fun z aa =>
 opK Tryd.prog E (gsem (asB d) true (xBin .eql 3 (.tmp 14) (.const (Value.int .i64 2)) z (Value.int .i64 2))) aa fun ab ac =>
 opK Tryd.prog E (xPick d ab (Value.bool false)) ac fun e ad =>
 opK Tryd.prog E (gsem (asB e) true (xV (Instr.fieldAt 30 b 4))) ad fun ae af =>
 opK Tryd.prog E (gsem (asB e) true (xV (Instr.loadAt 3 ae))) af fun ag ah =>
 opK Tryd.prog E (gsem (asB e) true (xBin .eql 3 (.tmp 19) (.const (Value.int .i64 1)) ag (Value.int .i64 1))) ah fun ai aj =>
 opK Tryd.prog E (xPick e ai (Value.bool false)) aj fun c ak =>
 opK Tryd.prog E (gsem (asB c) true (xV (Instr.fieldAt 30 b 5))) ak fun al am =>
 opK Tryd.prog E (gsem (asB c) true (xV (Instr.loadAt 28 al))) am fun an ao =>
 opK Tryd.prog E (gsem (asB c) true (xBuiltin .len #[28] 3 [false] [an])) ao fun ap aq =>
 opK Tryd.prog E (gsem (asB c) true (xBin .eql 3 (.tmp 25) (.const (Value.int .i64 1)) ap (Value.int .i64 1))) aq fun ar au =>
 opK Tryd.prog E (xPick c ar (Value.bool false)) au fun a av =>
 opK Tryd.prog E (gsem (asB a) true (xV (Instr.fieldAt 30 b 5))) av fun aw ax =>
 opK Tryd.prog E (gsem (asB a) true (xV (Instr.loadAt 28 aw))) ax fun ay az =>
 opK Tryd.prog E (gsem (asB a) true (xV (Instr.indexAt 28 ay (Value.int .i64 0)))) az fun ba bb =>
 opK Tryd.prog E (gsem (asB a) true (xV (Instr.loadAt 46 ba))) bb fun bc bd =>
 opK Tryd.prog E (gsem (asB a) true (xV (Instr.build 44 #[(0, (Value.int .i64 (-1)))]))) bd fun be bf =>
 opK Tryd.prog E (gsem (asB a) true (xV (Instr.build 44 #[(0, (Value.int .i64 (-1)))]))) bf fun bg bh =>
 opK Tryd.prog E (gsem (asB a) true (xV (Instr.build 46 #[(1, (Value.int .i64 1)), (2, (Value.int .i64 1)), (3, (Value.int .i64 (-1))), (4, (Value.int .i64 (-1))), (6, be), (7, bg)]))) bh fun bi bj =>
 opK Tryd.prog E (gsem (asB a) true (xBin .eql 46 (.tmp 32) (.tmp 35) bc bi)) bj fun bk bl =>
 opK Tryd.prog E (xPick a bk (Value.bool false)) bl fun bm bn =>
 R bm bn
def h6 : Hint := (.seq .none (.seq .none (.seq .none .none)))
theorem c1K {w : World} {R : Value → World → Prop} {E : Pan} (h : F6  w R E) : Cv Tryd.prog 6 #[] w R E := okF (args := []) (h := h6) Tryd.func6 (by kernel_rfl) (by kernel_rfl) h
def b4p (x1 x2 x4 x8 : Value) (w : World) (R : Value → World → Prop) (E : Pan) : Prop :=
 ∀ _τ : Fr, (opK Tryd.prog E (xV (Instr.makeFunc (.func 13) #[x8] #[])) w fun l m =>
 dX m fun b =>
 qP Tryd.prog (xV (Instr.fieldAt 41 x1 1)) fun c =>
 qP Tryd.prog (xNil x8) fun n =>
 qP Tryd.prog (xV (Instr.fieldAt 59 n 0)) fun o =>
 qP Tryd.prog (xV (Instr.fieldAt 30 o 4)) fun d =>
 qL Tryd.prog b (blk c) (xV (Instr.loadAt 37 c)) fun p =>
 qL Tryd.prog b (blk d) (xV (Instr.loadAt 3 d)) fun q =>
 opK Tryd.prog E (xCall l [p, (Value.int .i64 0), q]) b fun _t84_47 e =>
 keepX [] b e (opK Tryd.prog E (xBuiltin .len #[26] 3 [false] [x4]) e fun r s =>
 opK Tryd.prog E (xNil x8) s fun t u =>
 opK Tryd.prog E (xV (Instr.fieldAt 59 t 0)) u fun v y =>
 opK Tryd.prog E (xV (Instr.fieldAt 30 v 1)) y fun z aa =>
 opK Tryd.prog E (xV (Instr.loadAt 3 z)) aa fun ab ac =>
 opK Tryd.prog E (xBin .add 3 (.tmp 87) (.tmp 92) r ab) ac fun ad ae =>
 opK Tryd.prog E (xBin .gtr 3 (.tmp 93) (.const (Value.int .i64 64)) ad (Value.int .i64 64)) ae fun af f =>
 xcond af
 (opK Tryd.prog E (xV (Instr.build 30 #[])) f fun ag ah =>
 opK Tryd.prog E (xU (Instr.storeAt 30 x2 ag)) ah fun _ g =>
 xcell Tryd.prog 30 x2 g fun ai =>
 R (Value.tuple #[ai, (Value.int .i64 90)]) g)
 (opK Tryd.prog E (xNil x8) f fun aj ak =>
 opK Tryd.prog E (xV (Instr.fieldAt 59 aj 0)) ak fun al am =>
 opK Tryd.prog E (xV (Instr.fieldAt 30 al 3)) am fun an ao =>
 opK Tryd.prog E (xV (Instr.loadAt 3 an)) ao fun ap aq =>
 opK Tryd.prog E (xBin .gtr 3 (.tmp 101) (.const (Value.int .i64 4096)) ap (Value.int .i64 4096)) aq fun a ar =>
 opK Tryd.prog E (gsem (asB a) false (xNil (gval (asB a) false x8))) ar fun au av =>
 opK Tryd.prog E (gsem (asB a) false (xV (Instr.fieldAt 59 au 0))) av fun aw ax =>
 opK Tryd.prog E (gsem (asB a) false (xV (Instr.fieldAt 30 aw 5))) ax fun ay az =>
 opK Tryd.prog E (gsem (asB a) false (xV (Instr.loadAt 28 ay))) az fun ba bb =>
 opK Tryd.prog E (gsem (asB a) false (xBuiltin .len #[28] 3 [false] [ba])) bb fun bc bd =>
 opK Tryd.prog E (gsem (asB a) false (xBin .gtr 3 (.tmp 109) (.const (Value.int .i64 8192)) bc (Value.int .i64 8192))) bd fun be bf =>
 opK Tryd.prog E (xPick a (Value.bool true) be) bf fun bg i =>
 xcond bg
 (opK Tryd.prog E (xV (Instr.build 30 #[])) i fun bh bi =>
 opK Tryd.prog E (xU (Instr.storeAt 30 x2 bh)) bi fun _ j =>
 xcell Tryd.prog 30 x2 j fun bj =>
 R (Value.tuple #[bj, (Value.int .i64 91)]) j)
 (opK Tryd.prog E (xNil x8) i fun bk bl =>
 opK Tryd.prog E (xV (Instr.fieldAt 59 bk 0)) bl fun bm bn =>
 opK Tryd.prog E (xV (Instr.loadAt 30 bm)) bn fun bo bp =>
 opK Tryd.prog E (xU (Instr.storeAt 30 x2 bo)) bp fun _ k =>
 xcell Tryd.prog 30 x2 k fun bq =>
 R (Value.tuple #[bq, (Value.int .i64 0)]) k))))
def b4q (x1 x2 x4 x8 : Value) (w : World) (R : Value → World → Prop) (E : Pan) : Prop :=
 ∀ _τ : Fr, (xcut (fun _ b => b4p x1 x2 x4 x8 b R E) fun j3 =>
 opK Tryd.prog E (xV (Instr.fieldAt 41 x1 1)) w fun c d =>
 opK Tryd.prog E (xV (Instr.loadAt 37 c)) d fun e f =>
 opK Tryd.prog E (xBuiltin .len #[37] 3 [false] [e]) f fun g i =>
 opK Tryd.prog E (xBin .gtr 3 (.tmp 66) (.const (Value.int .i64 0)) g (Value.int .i64 0)) i fun j a =>
 xcond j
 (opK Tryd.prog E (xCall (Value.func (.func 12) #[] #[]) [x8]) a fun k l =>
 opK Tryd.prog E (xNil x8) l fun m n =>
 opK Tryd.prog E (xV (Instr.fieldAt 59 m 0)) n fun o p =>
 opK Tryd.prog E (xV (Instr.fieldAt 30 o 4)) p fun q r =>
 opK Tryd.prog E (xU (Instr.storeAt 3 q k)) r fun _ s =>
 j3 [] s)
 (j3 [] a))
def b7H (_x1 _x2 _x4 x8 x49 x50 x51 : Value) (w : World) (next4 : List Value → World → Prop) (j2 : List Value → World → Prop) (_R : Value → World → Prop) (E : Pan) : Prop :=
 opK Tryd.prog E (xBin .lss 3 (.tmp 51) (.tmp 50) x51 x50) w fun g b =>
 xcond g
 (opK Tryd.prog E (xV (Instr.indexAt 27 x49 x51)) b fun i j =>
 opK Tryd.prog E (xV (Instr.loadAt 35 i)) j fun k l =>
 opK Tryd.prog E (xV (Instr.alloc 35 true (.tuple #[]))) l fun c m =>
 opK Tryd.prog E (xU (Instr.storeAt 35 c k)) m fun _ n =>
 dX n fun a =>
 qP Tryd.prog (xNil x8) fun o =>
 qP Tryd.prog (xV (Instr.fieldAt 59 o 2)) fun d =>
 qP Tryd.prog (xV (Instr.fieldAt 35 c 0)) fun e =>
 qL Tryd.prog a (blk d) (xV (Instr.loadAt 57 d)) fun p =>
 qL Tryd.prog a (blk e) (xV (Instr.loadAt 9 e)) fun q =>
 opK Tryd.prog E (xU (Instr.mapUpdate 57 p q x51)) a fun _ f =>
 keepX [] a f (opK Tryd.prog E (xBin .add 3 (.tmp 51) (.const (Value.int .i64 1)) x51 (Value.int .i64 1)) f fun r s =>
 next4 [r] s))
 (j2 [] b)
def b4r (x1 x2 x4 x6 x8 : Value) (w : World) (R : Value → World → Prop) (E : Pan) : Prop :=
 ∀ _τ : Fr, (xcut (fun _ a => b4q x1 x2 x4 x8 a R E) fun j2 =>
 opK Tryd.prog E (xBuiltin .len #[27] 3 [false] [x6]) w fun b c =>
 xloop [51] [(Value.int .i64 0)] c fun d e next4 =>
 b7H x1 x2 x4 x8 x6 b (d 51) e next4 j2 R E)
def b7I (_x1 _x2 _x4 _x6 x8 x35 x36 x37 : Value) (w : World) (next5 : List Value → World → Prop) (j1 : List Value → World → Prop) (_R : Value → World → Prop) (E : Pan) : Prop :=
 opK Tryd.prog E (xBin .lss 3 (.tmp 37) (.tmp 36) x37 x36) w fun b a =>
 xcond b
 (opK Tryd.prog E (xV (Instr.indexAt 26 x35 x37)) a fun c d =>
 opK Tryd.prog E (xV (Instr.loadAt 9 c)) d fun e f =>
 opK Tryd.prog E (xNil x8) f fun g i =>
 opK Tryd.prog E (xV (Instr.fieldAt 59 g 1)) i fun j k =>
 opK Tryd.prog E (xV (Instr.loadAt 57 j)) k fun l m =>
 opK Tryd.prog E (xU (Instr.mapUpdate 57 l e x37)) m fun _ n =>
 opK Tryd.prog E (xBin .add 3 (.tmp 37) (.const (Value.int .i64 1)) x37 (Value.int .i64 1)) n fun o p =>
 next5 [o] p)
 (j1 [] a)
def F7 (x0 : Value) (w : World) (R : Value → World → Prop) (E : Pan) : Prop :=
 opK Tryd.prog E (xV (Instr.box 41 x0)) w fun b l =>
 opK Tryd.prog E (xV (Instr.alloc 30 true (.tuple #[]))) l fun c m =>
 opK Tryd.prog E (xV (Instr.loadAt 41 b)) m fun n o =>
 opK Tryd.prog E (xCall (Value.func (.func 10) #[] #[]) [n]) o fun e p =>
 opK Tryd.prog E (xV (Instr.extract e 0)) p fun a q =>
 opK Tryd.prog E (xV (Instr.extract e 1)) q fun f r =>
 opK Tryd.prog E (xBin .neq 31 (.tmp 19) (.const (Value.int .i64 0)) f (Value.int .i64 0)) r fun s g =>
 xcond s
 (opK Tryd.prog E (xV (Instr.build 30 #[])) g fun t u =>
 opK Tryd.prog E (xU (Instr.storeAt 30 c t)) u fun _ i =>
 xcell Tryd.prog 30 c i fun v =>
 R (Value.tuple #[v, f]) i)
 (opK Tryd.prog E (xV (Instr.loadAt 41 b)) g fun y z =>
 opK Tryd.prog E (xCall (Value.func (.func 11) #[] #[]) [y]) z fun j aa =>
 opK Tryd.prog E (xV (Instr.extract j 0)) aa fun d ab =>
 opK Tryd.prog E (xV (Instr.extract j 1)) ab fun _t27_26 ac =>
 opK Tryd.prog E (xV (Instr.build 30 #[(0, a), (2, d), (3, (Value.int .i64 1))])) ac fun ad ae =>
 opK Tryd.prog E (xV (Instr.makeMap 57 none)) ae fun af ag =>
 opK Tryd.prog E (xV (Instr.makeMap 57 none)) ag fun ah ai =>
 opK Tryd.prog E (xV (Instr.build 59 #[(0, ad), (1, af), (2, ah)])) ai fun aj ak =>
 opK Tryd.prog E (xV (Instr.box 59 aj)) ak fun k al =>
 xcut (fun _ am => b4r b c a d k am R E) fun j1 =>
 opK Tryd.prog E (xBuiltin .len #[26] 3 [false] [a]) al fun an ao =>
 xloop [37] [(Value.int .i64 0)] ao fun ap aq next5 =>
 b7I b c a d k a an (ap 37) aq next5 j1 R E)
def h7 : Hint := (.seq .none (.seq .none (.seq (.seq .none (.cond (.seq .none .none) .none)) (.seq .none (.seq .none (.cut [] (.seq .none (.block (.loop [37] (.seq .none (.seq (.cond .none .none) (.seq (.block (.seq .none .none)) .none)))))) (.cut [] (.seq .none (.block (.loop [51] (.seq .none (.seq (.cond .none .none) (.seq (.block (.seq .none (.reg [(0, 72057594037927936, 256), (1, 144115188075855872, 72057594037927936), (2, 288230376151711744, 144115188075855872), (4, 576460752303423488, 288230376151711744), (0, 1152921504606846976, 4096), (16, 2305843009213693952, 1152921504606846976), (0, 4611686018427387904, 2048), (127, 0, 7493989779944505344)] [40, 40, 40, 32, 40, 8, 40, 0] (.early 0 (.early 1 (.early 2 (.early 4 (.early 6 (.load 3 (.load 5 (.step 7 .done))))))))))) .none)))))) (.cut [] (.seq .none (.cond .none .none)) (.seq .none (.seq (.reg [(0, 75557863725914323419136, 8192), (0, 151115727451828646838272, 2), (2, 302231454903657293676544, 151115727451828646838272), (0, 604462909807314587353088, 256), (8, 1208925819614629174706176, 604462909807314587353088), (16, 2417851639229258349412352, 1208925819614629174706176), (32, 4835703278458516698824704, 2417851639229258349412352), (64, 9671406556917033397649408, 4835703278458516698824704), (133, 19342813113834066795298816, 10049195875546605014745088)] [132, 132, 128, 132, 132, 132, 132, 4, 0] (.early 0 (.early 1 (.early 3 (.early 4 (.early 5 (.early 6 (.load 2 (.load 7 (.step 8 .done)))))))))) (.seq (.block (.seq .none (.cond (.seq .none .none) (.seq .none (.cond (.seq .none .none) .none))))) (.seq .none .none))))))))))))
theorem c1L {x0 : Value} {w : World} {R : Value → World → Prop} {E : Pan} (h : F7 x0 w R E) : Cv Tryd.prog 7 #[x0] w R E := okF (args := [x0]) (h := h7) Tryd.func7 (by kernel_rfl) (by kernel_rfl) h
def h8 : Hint := (.seq .none (.seq .none (.cut [3] (.seq .none (.block (.loop [3, 4] (.seq (.seq .none (.cond .none .none)) (.seq (.block (.cut [3] (.seq .none (.cond .none .none)) (.reg [(0, 524288, 8), (0, 1048576, 1), (0, 2097152, 16), (6, 4194304, 3145728), (8, 8388608, 4194304), (16, 16777216, 8388608), (32, 33554432, 16777216), (65, 67108864, 34078720), (0, 134217728, 1), (0, 268435456, 16), (768, 536870912, 402653184), (1024, 1073741824, 536870912), (2048, 2147483648, 1073741824), (4160, 4294967296, 2147483648), (8320, 8589934592, 4362076160), (32767, 8, 8589934592)] [4128, 4128, 4128, 4128, 4128, 4096, 4096, 4128, 4128, 4128, 4128, 4128, 32, 0, 4128, 4128] (.early 0 (.early 1 (.early 2 (.early 3 (.early 4 (.early 8 (.early 9 (.early 10 (.early 11 (.load 5 (.load 12 (.step 6 (.early 7 (.step 13 (.early 14 (.early 15 .done))))))))))))))))))) .none))))) (.seq .none .none))))
def b4s (x7 : Value) (w : World) (R : Value → World → Prop) (E : Pan) : Prop :=
 ∀ _τ : Fr, (opK Tryd.prog E (xV (Instr.loadAt 49 x7)) w fun a b =>
 R (Value.tuple #[a, (Value.int .i64 0)]) b)
def b4t (_x6 _x7 _x26 x27 : Value) (w : World) (next2 : List Value → World → Prop) (_R : Value → World → Prop) (E : Pan) : Prop :=
 ∀ _τ : Fr, (opK Tryd.prog E (xBin .add 3 (.tmp 27) (.const (Value.int .i64 1)) x27 (Value.int .i64 1)) w fun a b =>
 next2 [a] b)
def b7J (x6 x7 x26 x27 : Value) (w : World) (next2 : List Value → World → Prop) (j1 : List Value → World → Prop) (R : Value → World → Prop) (E : Pan) : Prop :=
 opK Tryd.prog E (xBin .lss 3 (.tmp 27) (.tmp 26) x27 x26) w fun c a =>
 xcond c
 (xcut (fun _ d => b4t x6 x7 x26 x27 d next2 R E) fun j3 =>
 opK Tryd.prog E (xV (Instr.loadAt 65 x6)) a fun e f =>
 opK Tryd.prog E (xV (Instr.indexAt 65 e x27)) f fun g i =>
 opK Tryd.prog E (xV (Instr.loadAt 4 g)) i fun j k =>
 opK Tryd.prog E (xV (Op.unary .not j)) k fun l b =>
 xcond l
 (opK Tryd.prog E (xV (Instr.loadAt 49 x7)) b fun m n =>
 opK Tryd.prog E (xV (Instr.buildSlice 49 1 #[(0, x27)])) n fun o p =>
 opK Tryd.prog E (xBuiltin .append #[49, 49] 49 [false, false] [m, o]) p fun q r =>
 opK Tryd.prog E (xU (Instr.storeAt 49 x7 q)) r fun _ s =>
 j3 [] s)
 (j3 [] b))
 (j1 [] a)
def F9 (x0 : Value) (w : World) (R : Value → World → Prop) (E : Pan) : Prop :=
 opK Tryd.prog E (xV (Instr.box 30 x0)) w fun a j =>
 opK Tryd.prog E (xV (Instr.loadAt 30 a)) j fun k l =>
 opK Tryd.prog E (xCall (Value.func (.func 14) #[] #[]) [k]) l fun e m =>
 opK Tryd.prog E (xBin .neq 31 (.tmp 12) (.const (Value.int .i64 0)) e (Value.int .i64 0)) m fun n f =>
 xcond n
 (R (Value.tuple #[(Value.slice none 0 0), e]) f)
 (opK Tryd.prog E (xV (Instr.loadAt 30 a)) f fun o p =>
 opK Tryd.prog E (xCall (Value.func (.func 15) #[] #[]) [o]) p fun q r =>
 opK Tryd.prog E (xV (Instr.alloc 63 true (.tuple #[]))) r fun g s =>
 opK Tryd.prog E (xU (Instr.storeAt 63 g q)) s fun _ t =>
 opK Tryd.prog E (xV (Instr.fieldAt 30 a 3)) t fun u v =>
 opK Tryd.prog E (xV (Instr.loadAt 3 u)) v fun i y =>
 opK Tryd.prog E (xV (Instr.makeSlice 65 i i)) y fun z aa =>
 opK Tryd.prog E (xV (Instr.alloc 65 true (.tuple #[]))) aa fun c ab =>
 opK Tryd.prog E (xU (Instr.storeAt 65 c z)) ab fun _ ac =>
 opK Tryd.prog E (xV (Instr.alloc 49 true (.tuple #[]))) ac fun b ad =>
 opK Tryd.prog E (xV (Instr.alloc 66 true (.tuple #[]))) ad fun d ae =>
 opK Tryd.prog E (xV (Instr.makeFunc (.func 16) #[] #[c, g, a, d, b])) ae fun af ag =>
 opK Tryd.prog E (xU (Instr.storeAt 66 d af)) ag fun _ ah =>
 opK Tryd.prog E (xV (Instr.loadAt 66 d)) ah fun ai aj =>
 opK Tryd.prog E (xCall ai [(Value.int .i64 0)]) aj fun _t22_37 ak =>
 opK Tryd.prog E (xV (Instr.loadAt 49 b)) ak fun al am =>
 opK Tryd.prog E (xCall (Value.func (.func 17) #[] #[]) [al]) am fun _t24_41 an =>
 xcut (fun _ ao => b4s b ao R E) fun j1 =>
 opK Tryd.prog E (xV (Instr.fieldAt 30 a 3)) an fun ap aq =>
 opK Tryd.prog E (xV (Instr.loadAt 3 ap)) aq fun ar au =>
 xloop [27] [(Value.int .i64 0)] au fun av aw next2 =>
 b7J c b ar (av 27) aw next2 j1 R E)
def h9 : Hint := (.seq .none (.seq (.seq .none (.seq .none (.cond (.seq .none .none) .none))) (.seq .none (.seq .none (.seq .none (.seq .none (.seq .none (.seq .none (.seq .none (.cut [] (.seq .none (.block (.loop [27] (.seq .none (.seq (.cond .none .none) (.cut [] (.block (.seq .none (.seq .none (.cond .none .none)))) .none)))))) (.seq .none .none)))))))))))
theorem c1M {x0 : Value} {w : World} {R : Value → World → Prop} {E : Pan} (h : F9 x0 w R E) : Cv Tryd.prog 9 #[x0] w R E := okF (args := [x0]) (h := h9) Tryd.func9 (by kernel_rfl) (by kernel_rfl) h
def b1W (x5 x6 : Value) (w : World) (R : Value → World → Prop) (_E : Pan) : Prop :=
 ∀ _τ : Fr, (R (Value.tuple #[x6, x5]) w)
def b5v (_x5 x6 x14 x15 x16 : Value) (w : World) (next2 : List Value → World → Prop) (j1 : List Value → World → Prop) (_R : Value → World → Prop) (E : Pan) : Prop :=
 opK Tryd.prog E (xBin .lss 3 (.tmp 16) (.tmp 15) x16 x15) w fun c a =>
 xcond c
 (opK Tryd.prog E (xV (Instr.indexAt 27 x14 x16)) a fun d e =>
 opK Tryd.prog E (xV (Instr.loadAt 35 d)) e fun f g =>
 opK Tryd.prog E (xV (Instr.alloc 35 true (.tuple #[]))) g fun b i =>
 opK Tryd.prog E (xU (Instr.storeAt 35 b f)) i fun _ j =>
 opK Tryd.prog E (xV (Instr.fieldAt 35 b 0)) j fun k l =>
 opK Tryd.prog E (xV (Instr.loadAt 9 k)) l fun m n =>
 opK Tryd.prog E (xV (Instr.buildSlice 26 1 #[(0, m)])) n fun o p =>
 opK Tryd.prog E (xBuiltin .append #[26, 26] 26 [false, false] [x6, o]) p fun q r =>
 opK Tryd.prog E (xBin .add 3 (.tmp 16) (.const (Value.int .i64 1)) x16 (Value.int .i64 1)) r fun s t =>
 next2 [q, s] t)
 (j1 [x6] a)
def F10 (x0 : Value) (w : World) (R : Value → World → Prop) (E : Pan) : Prop :=
 opK Tryd.prog E (xV (Instr.box 41 x0)) w fun e f =>
 opK Tryd.prog E (xV (Instr.loadAt 41 e)) f fun g i =>
 opK Tryd.prog E (xCall (Value.func (.func 18) #[] #[]) [g, (Value.int .i64 1)]) i fun a j =>
 opK Tryd.prog E (xV (Instr.extract a 0)) j fun b k =>
 opK Tryd.prog E (xV (Instr.extract a 1)) k fun c l =>
 xcut (fun m n => b1W c (nth m 0) n R E) fun j1 =>
 opK Tryd.prog E (xBuiltin .len #[27] 3 [false] [b]) l fun o p =>
 xloop [6, 16] [(Value.slice none 0 0), (Value.int .i64 0)] p fun d q next2 =>
 b5v c (d 6) b o (d 16) q next2 j1 R E
def h10 : Hint := (.seq .none (.seq .none (.seq .none (.cut [6] (.seq .none (.block (.loop [6, 16] (.seq .none (.seq (.cond .none .none) (.seq (.block (.seq .none .none)) .none)))))) (.seq .none .none)))))
theorem b9C {x0 : Value} {w : World} {R : Value → World → Prop} {E : Pan} (h : F10 x0 w R E) : Cv Tryd.prog 10 #[x0] w R E := okF (args := [x0]) (h := h10) Tryd.func10 (by kernel_rfl) (by kernel_rfl) h
def F11 (x0 : Value) (w : World) (R : Value → World → Prop) (E : Pan) : Prop :=
 opK Tryd.prog E (xV (Instr.box 41 x0)) w fun b c =>
 opK Tryd.prog E (xV (Instr.loadAt 41 b)) c fun d e =>
 opK Tryd.prog E (xCall (Value.func (.func 18) #[] #[]) [d, (Value.int .i64 2)]) e fun a f =>
 opK Tryd.prog E (xV (Instr.extract a 0)) f fun g i =>
 opK Tryd.prog E (xV (Instr.extract a 1)) i fun j k =>
 R (Value.tuple #[g, j]) k
def h11 : Hint := (.seq .none (.seq .none .none))
theorem b9D {x0 : Value} {w : World} {R : Value → World → Prop} {E : Pan} (h : F11 x0 w R E) : Cv Tryd.prog 11 #[x0] w R E := okF (args := [x0]) (h := h11) Tryd.func11 (by kernel_rfl) (by kernel_rfl) h
def F12 (x0 : Value) (w : World) (R : Value → World → Prop) (E : Pan) : Prop :=
 opK Tryd.prog E (xNil x0) w fun a b =>
 opK Tryd.prog E (xV (Instr.fieldAt 59 a 0)) b fun c d =>
 opK Tryd.prog E (xV (Instr.fieldAt 30 c 3)) d fun e f =>
 opK Tryd.prog E (xV (Instr.loadAt 3 e)) f fun g i =>
 opK Tryd.prog E (xBin .add 3 (.tmp 7) (.const (Value.int .i64 1)) g (Value.int .i64 1)) i fun j k =>
 opK Tryd.prog E (xNil x0) k fun l m =>
 opK Tryd.prog E (xV (Instr.fieldAt 59 l 0)) m fun n o =>
 opK Tryd.prog E (xV (Instr.fieldAt 30 n 3)) o fun p q =>
 opK Tryd.prog E (xU (Instr.storeAt 3 p j)) q fun _ r =>
 opK Tryd.prog E (xNil x0) r fun s t =>
 opK Tryd.prog E (xV (Instr.fieldAt 59 s 0)) t fun u v =>
 opK Tryd.prog E (xV (Instr.fieldAt 30 u 3)) v fun y z =>
 opK Tryd.prog E (xV (Instr.loadAt 3 y)) z fun aa ab =>
 opK Tryd.prog E (xBin .sub 3 (.tmp 16) (.const (Value.int .i64 1)) aa (Value.int .i64 1)) ab fun ac ad =>
 R ac ad
def h12 : Hint := (.seq .none (.seq .none (.seq .none .none)))
theorem b9E {x0 : Value} {w : World} {R : Value → World → Prop} {E : Pan} (h : F12 x0 w R E) : Cv Tryd.prog 12 #[x0] w R E := okF (args := [x0]) (h := h12) Tryd.func12 (by kernel_rfl) (by kernel_rfl) h
def b5w (x0 x8 x31 x32 x33 : Value) (w : World) (next2 : List Value → World → Prop) (R : Value → World → Prop) (E : Pan) : Prop :=
 opK Tryd.prog E (xBin .lss 3 (.tmp 33) (.tmp 32) x33 x32) w fun g c =>
 xcond g
 (opK Tryd.prog E (xV (Instr.indexAt 37 x31 x33)) c fun i j =>
 opK Tryd.prog E (xV (Instr.loadAt 39 i)) j fun k l =>
 opK Tryd.prog E (xV (Instr.alloc 39 true (.tuple #[]))) l fun b m =>
 opK Tryd.prog E (xU (Instr.storeAt 39 b k)) m fun _ n =>
 dX n fun a =>
 qP Tryd.prog (xV (Instr.indexAt 49 x8 x33)) fun d =>
 qP Tryd.prog (xBin .add 3 (.tmp 45) (.const (Value.int .i64 1)) x33 (Value.int .i64 1)) fun o =>
 qP Tryd.prog (xV (Instr.indexAt 49 x8 o)) fun e =>
 qL Tryd.prog a (blk b) (xV (Instr.loadAt 39 b)) fun p =>
 qL Tryd.prog a (blk d) (xV (Instr.loadAt 3 d)) fun q =>
 qL Tryd.prog a (blk e) (xV (Instr.loadAt 3 e)) fun r =>
 opK Tryd.prog E (xCall (Value.func (.func 19) #[] #[]) [x0, p, q, r]) a fun _t49_30 f =>
 keepX [] a f (opK Tryd.prog E (xBin .add 3 (.tmp 33) (.const (Value.int .i64 1)) x33 (Value.int .i64 1)) f fun s t =>
 next2 [s] t))
 (R (Value.tuple #[]) c)
def b1X (x0 x1 x3 x8 : Value) (w : World) (R : Value → World → Prop) (E : Pan) : Prop :=
 ∀ _τ : Fr, (opK Tryd.prog E (xV (Instr.buildSlice 49 1 #[(0, x3)])) w fun a b =>
 opK Tryd.prog E (xBuiltin .append #[49, 49] 49 [false, false] [x8, a]) b fun c d =>
 opK Tryd.prog E (xBuiltin .len #[37] 3 [false] [x1]) d fun e f =>
 xloop [33] [(Value.int .i64 0)] f fun g i next2 =>
 b5w x0 c x1 e (g 33) i next2 R E)
def b5x (x0 _x1 _x3 x8 x18 x19 : Value) (w : World) (next3 : List Value → World → Prop) (j1 : List Value → World → Prop) (_R : Value → World → Prop) (E : Pan) : Prop :=
 opK Tryd.prog E (xBin .lss 3 (.tmp 19) (.tmp 18) x19 x18) w fun b a =>
 xcond b
 (opK Tryd.prog E (xCall (Value.func (.func 12) #[] #[]) [x0]) a fun c d =>
 opK Tryd.prog E (xV (Instr.buildSlice 49 1 #[(0, c)])) d fun e f =>
 opK Tryd.prog E (xBuiltin .append #[49, 49] 49 [false, false] [x8, e]) f fun g i =>
 opK Tryd.prog E (xBin .add 3 (.tmp 19) (.const (Value.int .i64 1)) x19 (Value.int .i64 1)) i fun j k =>
 next3 [g, j] k)
 (j1 [x8] a)
def F13 (x0 x1 x2 x3 : Value) (w : World) (R : Value → World → Prop) (E : Pan) : Prop :=
 opK Tryd.prog E (xBuiltin .len #[37] 3 [false] [x1]) w fun c d =>
 opK Tryd.prog E (xBin .eql 3 (.tmp 12) (.const (Value.int .i64 0)) c (Value.int .i64 0)) d fun e a =>
 xcond e
 (R (Value.tuple #[]) a)
 (opK Tryd.prog E (xV (Instr.buildSlice 49 1 #[(0, x2)])) a fun f g =>
 xcut (fun i j => b1X x0 x1 x3 (nth i 0) j R E) fun j1 =>
 opK Tryd.prog E (xBuiltin .len #[37] 3 [false] [x1]) g fun k l =>
 opK Tryd.prog E (xBin .sub 3 (.tmp 17) (.const (Value.int .i64 1)) k (Value.int .i64 1)) l fun m n =>
 xloop [8, 19] [f, (Value.int .i64 0)] n fun b o next3 =>
 b5x x0 x1 x3 (b 8) m (b 19) o next3 j1 R E)
def h13 : Hint := (.seq (.seq .none (.cond .none .none)) (.seq .none (.cut [8] (.seq .none (.block (.loop [8, 19] (.seq .none (.seq (.cond .none .none) (.seq (.block .none) .none)))))) (.seq .none (.seq .none (.block (.loop [33] (.seq .none (.seq (.cond .none .none) (.seq (.block (.seq .none (.reg [(0, 274877906944, 1), (0, 549755813888, 1024), (0, 1099511627776, 256), (0, 2199023255552, 512), (12, 4398046511104, 3298534883328), (16, 8796093022208, 4398046511104), (0, 17592186044416, 256), (0, 35184372088832, 512), (128, 70368744177664, 35184372088832), (320, 140737488355328, 87960930222080), (512, 281474976710656, 140737488355328), (1059, 562949953421312, 291095703453696)] [1058, 1056, 1058, 1058, 1058, 1026, 1058, 1058, 1058, 1058, 34, 0] (.early 0 (.early 2 (.early 3 (.early 4 (.early 6 (.early 7 (.early 8 (.early 9 (.load 1 (.load 5 (.load 10 (.step 11 .done))))))))))))))) .none))))))))))
theorem b9F {x0 x1 x2 x3 : Value} {w : World} {R : Value → World → Prop} {E : Pan} (h : F13 x0 x1 x2 x3 w R E) : Cv Tryd.prog 13 #[x0, x1, x2, x3] w R E := okF (args := [x0, x1, x2, x3]) (h := h13) Tryd.func13 (by kernel_rfl) (by kernel_rfl) h
def b1Y (w : World) (R : Value → World → Prop) (_E : Pan) : Prop :=
 ∀ _τ : Fr, (R (Value.int .i64 0) w)
def b5y (x6 x99 x100 : Value) (w : World) (next4 : List Value → World → Prop) (j3 : List Value → World → Prop) (R : Value → World → Prop) (E : Pan) : Prop :=
 opK Tryd.prog E (xBin .lss 3 (.tmp 100) (.tmp 99) x100 x99) w fun c a =>
 xcond c
 (opK Tryd.prog E (xV (Instr.indexAt 72 x6 x100)) a fun d e =>
 opK Tryd.prog E (xV (Instr.loadAt 28 d)) e fun f g =>
 opK Tryd.prog E (xCall (Value.func (.func 22) #[] #[]) [f]) g fun i j =>
 opK Tryd.prog E (xV (Op.unary .not i)) j fun k b =>
 xcond k
 (R (Value.int .i64 92) b)
 (opK Tryd.prog E (xBin .add 3 (.tmp 100) (.const (Value.int .i64 1)) x100 (Value.int .i64 1)) b fun l m =>
 next4 [l] m))
 (j3 [] a)
def b1Z (x1 x6 : Value) (w : World) (R : Value → World → Prop) (E : Pan) : Prop :=
 ∀ _τ : Fr, (xcut (fun _ a => b1Y a R E) fun j3 =>
 opK Tryd.prog E (xV (Instr.fieldAt 30 x1 3)) w fun b c =>
 opK Tryd.prog E (xV (Instr.loadAt 3 b)) c fun d e =>
 xloop [100] [(Value.int .i64 0)] e fun f g next4 =>
 b5y x6 d (f 100) g next4 j3 R E)
def b5z (_x1 x5 x6 x75 x76 x77 : Value) (w : World) (next5 : List Value → World → Prop) (j2 : List Value → World → Prop) (R : Value → World → Prop) (E : Pan) : Prop :=
 opK Tryd.prog E (xBin .lss 3 (.tmp 77) (.tmp 76) x77 x76) w fun l i =>
 xcond l
 (opK Tryd.prog E (xV (Instr.indexAt 28 x75 x77)) i fun m n =>
 opK Tryd.prog E (xV (Instr.loadAt 46 m)) n fun o p =>
 opK Tryd.prog E (xV (Instr.alloc 46 true (.tuple #[]))) p fun a q =>
 opK Tryd.prog E (xU (Instr.storeAt 46 a o)) q fun _ r =>
 opK Tryd.prog E (xV (Instr.loadAt 71 x5)) r fun s t =>
 opK Tryd.prog E (xV (Instr.loadAt 46 a)) t fun u v =>
 opK Tryd.prog E (xCall (Value.func (.func 21) #[] #[]) [s, u]) v fun y z =>
 opK Tryd.prog E (xV (Op.unary .not y)) z fun aa j =>
 xcond aa
 (R (Value.int .i64 92) j)
 (dX j fun b =>
 qP Tryd.prog (xV (Instr.fieldAt 46 a 0)) fun c =>
 qP Tryd.prog (xV (Instr.fieldAt 46 a 0)) fun d =>
 qL Tryd.prog b (blk c) (xV (Instr.loadAt 3 c)) fun ab =>
 qL Tryd.prog b (blk d) (xV (Instr.loadAt 3 d)) fun ac =>
 qP Tryd.prog (xV (Instr.indexAt 72 x6 ac)) fun e =>
 qL Tryd.prog b (blk e) (xV (Instr.loadAt 28 e)) fun ad =>
 qL Tryd.prog b (blk a) (xV (Instr.loadAt 46 a)) fun ae =>
 opK Tryd.prog E (xV (Instr.buildSlice 28 1 #[(0, ae)])) b fun af f =>
 keepX [(blk e), (blk d), (blk c)] b f (opK Tryd.prog E (xBuiltin .append #[28, 28] 28 [false, false] [ad, af]) f fun ag g =>
 keepX [(blk c)] f g (qP Tryd.prog (xV (Instr.indexAt 72 x6 ab)) fun ah =>
 opK Tryd.prog E (xU (Instr.storeAt 28 ah ag)) g fun _ k =>
 keepX [] g k (opK Tryd.prog E (xBin .add 3 (.tmp 77) (.const (Value.int .i64 1)) x77 (Value.int .i64 1)) k fun ai aj =>
 next5 [ai] aj)))))
 (j2 [] i)
def b2a (x1 : Value) (w : World) (R : Value → World → Prop) (E : Pan) : Prop :=
 ∀ _τ : Fr, (opK Tryd.prog E (xV (Instr.loadAt 30 x1)) w fun f g =>
 opK Tryd.prog E (xV (Instr.build 71 #[(0, f)])) g fun i j =>
 opK Tryd.prog E (xV (Instr.alloc 71 true (.tuple #[]))) j fun a k =>
 opK Tryd.prog E (xU (Instr.storeAt 71 a i)) k fun _ l =>
 opK Tryd.prog E (xV (Instr.loadAt 71 a)) l fun m n =>
 opK Tryd.prog E (xV (Instr.fieldAt 30 x1 4)) n fun o p =>
 opK Tryd.prog E (xV (Instr.loadAt 3 o)) p fun q r =>
 opK Tryd.prog E (xCall (Value.func (.func 20) #[] #[]) [m, q]) r fun s t =>
 opK Tryd.prog E (xV (Op.unary .not s)) t fun u b =>
 xcond u
 (R (Value.int .i64 92) b)
 (opK Tryd.prog E (xV (Instr.fieldAt 30 x1 3)) b fun v y =>
 opK Tryd.prog E (xV (Instr.loadAt 3 v)) y fun c z =>
 opK Tryd.prog E (xV (Instr.makeSlice 72 c c)) z fun d aa =>
 xcut (fun _ ab => b1Z x1 d ab R E) fun j2 =>
 opK Tryd.prog E (xV (Instr.fieldAt 30 x1 5)) aa fun ac ad =>
 opK Tryd.prog E (xV (Instr.loadAt 28 ac)) ad fun e ae =>
 opK Tryd.prog E (xBuiltin .len #[28] 3 [false] [e]) ae fun af ag =>
 xloop [77] [(Value.int .i64 0)] ag fun ah ai next5 =>
 b5z x1 a d e af (ah 77) ai next5 j2 R E))
def b5A (_x1 x49 x50 x51 : Value) (w : World) (next6 : List Value → World → Prop) (j1 : List Value → World → Prop) (R : Value → World → Prop) (E : Pan) : Prop :=
 opK Tryd.prog E (xBin .lss 3 (.tmp 51) (.tmp 50) x51 x50) w fun e c =>
 xcond e
 (opK Tryd.prog E (xV (Instr.indexAt 27 x49 x51)) c fun f g =>
 opK Tryd.prog E (xV (Instr.loadAt 35 f)) g fun i j =>
 opK Tryd.prog E (xV (Instr.alloc 35 true (.tuple #[]))) j fun b k =>
 opK Tryd.prog E (xU (Instr.storeAt 35 b i)) k fun _ l =>
 opK Tryd.prog E (xV (Instr.fieldAt 35 b 1)) l fun m n =>
 opK Tryd.prog E (xV (Instr.loadAt 3 m)) n fun o p =>
 opK Tryd.prog E (xBin .lss 3 (.tmp 56) (.const (Value.int .i64 1)) o (Value.int .i64 1)) p fun a q =>
 opK Tryd.prog E (gsem (asB a) false (xV (Instr.fieldAt 35 b 1))) q fun r s =>
 opK Tryd.prog E (gsem (asB a) false (xV (Instr.loadAt 3 r))) s fun t u =>
 opK Tryd.prog E (gsem (asB a) false (xBin .gtr 3 (.tmp 60) (.const (Value.int .i64 1024)) t (Value.int .i64 1024))) u fun v y =>
 opK Tryd.prog E (xPick a (Value.bool true) v) y fun z d =>
 xcond z
 (R (Value.int .i64 92) d)
 (opK Tryd.prog E (xBin .add 3 (.tmp 51) (.const (Value.int .i64 1)) x51 (Value.int .i64 1)) d fun aa ab =>
 next6 [aa] ab))
 (j1 [] c)
def F14 (x0 : Value) (w : World) (R : Value → World → Prop) (E : Pan) : Prop :=
 opK Tryd.prog E (xV (Instr.box 30 x0)) w fun a k =>
 opK Tryd.prog E (xV (Instr.fieldAt 30 a 1)) k fun l m =>
 opK Tryd.prog E (xV (Instr.loadAt 3 l)) m fun n o =>
 opK Tryd.prog E (xBin .lss 3 (.tmp 12) (.const (Value.int .i64 0)) n (Value.int .i64 0)) o fun d p =>
 opK Tryd.prog E (gsem (asB d) false (xV (Instr.fieldAt 30 a 1))) p fun q r =>
 opK Tryd.prog E (gsem (asB d) false (xV (Instr.loadAt 3 q))) r fun s t =>
 opK Tryd.prog E (gsem (asB d) false (xBin .gtr 3 (.tmp 16) (.const (Value.int .i64 64)) s (Value.int .i64 64))) t fun u v =>
 opK Tryd.prog E (xPick d (Value.bool true) u) v fun b y =>
 opK Tryd.prog E (gsem (asB b) false (xV (Instr.fieldAt 30 a 0))) y fun z aa =>
 opK Tryd.prog E (gsem (asB b) false (xV (Instr.loadAt 26 z))) aa fun ab ac =>
 opK Tryd.prog E (gsem (asB b) false (xBuiltin .len #[26] 3 [false] [ab])) ac fun ad ae =>
 opK Tryd.prog E (gsem (asB b) false (xV (Instr.fieldAt 30 a 1))) ae fun af ag =>
 opK Tryd.prog E (gsem (asB b) false (xV (Instr.loadAt 3 af))) ag fun ah ai =>
 opK Tryd.prog E (gsem (asB b) false (xBin .add 3 (.tmp 22) (.tmp 24) ad ah)) ai fun aj ak =>
 opK Tryd.prog E (gsem (asB b) false (xBin .gtr 3 (.tmp 25) (.const (Value.int .i64 64)) aj (Value.int .i64 64))) ak fun al am =>
 opK Tryd.prog E (xPick b (Value.bool true) al) am fun an f =>
 xcond an
 (R (Value.int .i64 90) f)
 (opK Tryd.prog E (xV (Instr.fieldAt 30 a 3)) f fun ao ap =>
 opK Tryd.prog E (xV (Instr.loadAt 3 ao)) ap fun aq ar =>
 opK Tryd.prog E (xBin .lss 3 (.tmp 30) (.const (Value.int .i64 1)) aq (Value.int .i64 1)) ar fun e au =>
 opK Tryd.prog E (gsem (asB e) false (xV (Instr.fieldAt 30 a 3))) au fun av aw =>
 opK Tryd.prog E (gsem (asB e) false (xV (Instr.loadAt 3 av))) aw fun ax ay =>
 opK Tryd.prog E (gsem (asB e) false (xBin .gtr 3 (.tmp 34) (.const (Value.int .i64 4096)) ax (Value.int .i64 4096))) ay fun az ba =>
 opK Tryd.prog E (xPick e (Value.bool true) az) ba fun c bb =>
 opK Tryd.prog E (gsem (asB c) false (xV (Instr.fieldAt 30 a 5))) bb fun bc bd =>
 opK Tryd.prog E (gsem (asB c) false (xV (Instr.loadAt 28 bc))) bd fun be bf =>
 opK Tryd.prog E (gsem (asB c) false (xBuiltin .len #[28] 3 [false] [be])) bf fun bg bh =>
 opK Tryd.prog E (gsem (asB c) false (xBin .gtr 3 (.tmp 40) (.const (Value.int .i64 8192)) bg (Value.int .i64 8192))) bh fun bi bj =>
 opK Tryd.prog E (xPick c (Value.bool true) bi) bj fun bk g =>
 xcond bk
 (R (Value.int .i64 91) g)
 (opK Tryd.prog E (xV (Instr.fieldAt 30 a 2)) g fun bl bm =>
 opK Tryd.prog E (xV (Instr.loadAt 27 bl)) bm fun bn bo =>
 opK Tryd.prog E (xBuiltin .len #[27] 3 [false] [bn]) bo fun bp bq =>
 opK Tryd.prog E (xBin .gtr 3 (.tmp 46) (.const (Value.int .i64 16)) bp (Value.int .i64 16)) bq fun br i =>
 xcond br
 (R (Value.int .i64 92) i)
 (xcut (fun _ bs => b2a a bs R E) fun j1 =>
 opK Tryd.prog E (xV (Instr.fieldAt 30 a 2)) i fun bt bu =>
 opK Tryd.prog E (xV (Instr.loadAt 27 bt)) bu fun j bv =>
 opK Tryd.prog E (xBuiltin .len #[27] 3 [false] [j]) bv fun bw bz =>
 xloop [51] [(Value.int .i64 0)] bz fun ca cb next6 =>
 b5A a j bw (ca 51) cb next6 j1 R E)))
def h14 : Hint := (.seq .none (.seq (.block (.seq .none (.cond (.seq .none .none) (.seq .none (.cond (.seq .none .none) (.seq .none (.cond (.seq .none .none) .none))))))) (.cut [] (.seq .none (.block (.loop [51] (.seq .none (.seq (.cond .none .none) (.seq (.block (.seq .none (.seq .none (.cond (.seq .none .none) .none)))) .none)))))) (.seq .none (.seq (.seq .none (.cond (.seq .none .none) .none)) (.seq .none (.cut [] (.seq .none (.block (.loop [77] (.seq .none (.seq (.cond .none .none) (.seq (.block (.seq .none (.seq (.seq .none (.cond (.seq .none .none) .none)) (.reg [(0, 38685626227668133590597632, 64), (0, 77371252455336267181195264, 256), (2, 154742504910672534362390528, 77371252455336267181195264), (0, 309485009821345068724781056, 64), (0, 618970019642690137449562112, 256), (16, 1237940039285380274899124224, 618970019642690137449562112), (40, 2475880078570760549798248448, 1547425049106725343623905280), (64, 4951760157141521099596496896, 2475880078570760549798248448), (0, 9903520314283042199192993792, 256), (256, 19807040628566084398385987584, 9903520314283042199192993792), (640, 39614081257132168796771975168, 24758800785707605497982484480), (2047, 79228162514264337593543950336, 193428131138340667952988160), (4095, 0, 118842243771396506390315925504)] [420, 420, 416, 420, 420, 388, 420, 292, 164, 164, 4, 420, 0] (.early 0 (.early 1 (.early 3 (.early 4 (.load 2 (.load 5 (.early 6 (.load 7 (.load 8 (.step 9 (.step 10 (.early 11 (.step 12 .done))))))))))))))))) .none)))))) (.cut [] (.seq .none (.block (.loop [100] (.seq .none (.seq (.cond .none .none) (.seq (.block (.seq .none (.seq .none (.cond (.seq .none .none) .none)))) .none)))))) (.seq .none .none)))))))))
theorem b9G {x0 : Value} {w : World} {R : Value → World → Prop} {E : Pan} (h : F14 x0 w R E) : Cv Tryd.prog 14 #[x0] w R E := okF (args := [x0]) (h := h14) Tryd.func14 (by kernel_rfl) (by kernel_rfl) h
def b2b (x3 : Value) (w : World) (R : Value → World → Prop) (_E : Pan) : Prop :=
 ∀ _τ : Fr, (R x3 w)
def b5B (x3 x10 x11 x12 : Value) (w : World) (next2 : List Value → World → Prop) (j1 : List Value → World → Prop) (_R : Value → World → Prop) (E : Pan) : Prop :=
 opK Tryd.prog E (xBin .lss 3 (.tmp 12) (.tmp 11) x12 x11) w fun k i =>
 xcond k
 (opK Tryd.prog E (xV (Instr.indexAt 28 x10 x12)) i fun l m =>
 opK Tryd.prog E (xV (Instr.loadAt 46 l)) m fun n o =>
 opK Tryd.prog E (xV (Instr.alloc 46 true (.tuple #[]))) o fun c p =>
 opK Tryd.prog E (xU (Instr.storeAt 46 c n)) p fun _ q =>
 dX q fun a =>
 qP Tryd.prog (xV (Instr.fieldAt 46 c 0)) fun b =>
 qP Tryd.prog (xV (Instr.fieldAt 46 c 0)) fun d =>
 qL Tryd.prog a (blk b) (xV (Instr.loadAt 3 b)) fun r =>
 qL Tryd.prog a (blk d) (xV (Instr.loadAt 3 d)) fun s =>
 qP Tryd.prog (xV (Instr.indexAt 63 x3 s)) fun e =>
 qL Tryd.prog a (blk e) (xV (Instr.loadAt 49 e)) fun t =>
 opK Tryd.prog E (xV (Instr.buildSlice 49 1 #[(0, x12)])) a fun u f =>
 keepX [(blk e), (blk d), (blk b)] a f (opK Tryd.prog E (xBuiltin .append #[49, 49] 49 [false, false] [t, u]) f fun v g =>
 keepX [(blk b)] f g (qP Tryd.prog (xV (Instr.indexAt 63 x3 r)) fun y =>
 opK Tryd.prog E (xU (Instr.storeAt 49 y v)) g fun _ j =>
 keepX [] g j (opK Tryd.prog E (xBin .add 3 (.tmp 12) (.const (Value.int .i64 1)) x12 (Value.int .i64 1)) j fun z aa =>
 next2 [z] aa))))
 (j1 [] i)
def F15 (x0 : Value) (w : World) (R : Value → World → Prop) (E : Pan) : Prop :=
 opK Tryd.prog E (xV (Instr.box 30 x0)) w fun a e =>
 opK Tryd.prog E (xV (Instr.fieldAt 30 a 3)) e fun f g =>
 opK Tryd.prog E (xV (Instr.loadAt 3 f)) g fun b i =>
 opK Tryd.prog E (xV (Instr.makeSlice 63 b b)) i fun c j =>
 xcut (fun _ k => b2b c k R E) fun j1 =>
 opK Tryd.prog E (xV (Instr.fieldAt 30 a 5)) j fun l m =>
 opK Tryd.prog E (xV (Instr.loadAt 28 l)) m fun d n =>
 opK Tryd.prog E (xBuiltin .len #[28] 3 [false] [d]) n fun o p =>
 xloop [12] [(Value.int .i64 0)] p fun q r next2 =>
 b5B c d o (q 12) r next2 j1 R E
def h15 : Hint := (.seq .none (.seq .none (.cut [] (.seq .none (.block (.loop [12] (.seq .none (.seq (.cond .none .none) (.seq (.block (.seq .none (.reg [(0, 131072, 8), (0, 262144, 32), (2, 524288, 262144), (0, 1048576, 8), (0, 2097152, 32), (16, 4194304, 2097152), (40, 8388608, 5242880), (64, 16777216, 8388608), (0, 33554432, 16), (256, 67108864, 33554432), (640, 134217728, 83886080), (2047, 268435456, 655360), (4095, 0, 402653184)] [164, 164, 160, 164, 164, 132, 164, 36, 164, 164, 4, 164, 0] (.early 0 (.early 1 (.early 3 (.early 4 (.early 8 (.load 2 (.load 5 (.early 6 (.load 7 (.step 9 (.step 10 (.early 11 (.step 12 .done)))))))))))))))) .none)))))) (.seq .none .none))))
theorem b9H {x0 : Value} {w : World} {R : Value → World → Prop} {E : Pan} (h : F15 x0 w R E) : Cv Tryd.prog 15 #[x0] w R E := okF (args := [x0]) (h := h15) Tryd.func15 (by kernel_rfl) (by kernel_rfl) h
def b2c (x0 x5 : Value) (w : World) (R : Value → World → Prop) (E : Pan) : Prop :=
 ∀ _τ : Fr, (opK Tryd.prog E (xV (Instr.loadAt 49 x5)) w fun a b =>
 opK Tryd.prog E (xV (Instr.buildSlice 49 1 #[(0, x0)])) b fun c d =>
 opK Tryd.prog E (xBuiltin .append #[49, 49] 49 [false, false] [a, c]) d fun e f =>
 opK Tryd.prog E (xU (Instr.storeAt 49 x5 e)) f fun _ g =>
 R (Value.tuple #[]) g)
def b2d (_x0 _x1 _x3 _x4 _x5 _x16 _x17 x18 : Value) (w : World) (next2 : List Value → World → Prop) (_R : Value → World → Prop) (E : Pan) : Prop :=
 ∀ _τ : Fr, (opK Tryd.prog E (xBin .add 3 (.tmp 18) (.const (Value.int .i64 1)) x18 (Value.int .i64 1)) w fun a b =>
 next2 [a] b)
def b5C (x0 x1 x3 x4 x5 x16 x17 x18 : Value) (w : World) (next2 : List Value → World → Prop) (j1 : List Value → World → Prop) (R : Value → World → Prop) (E : Pan) : Prop :=
 opK Tryd.prog E (xBin .lss 3 (.tmp 18) (.tmp 17) x18 x17) w fun d a =>
 xcond d
 (xcut (fun _ e => b2d x0 x1 x3 x4 x5 x16 x17 x18 e next2 R E) fun j3 =>
 opK Tryd.prog E (xV (Instr.indexAt 49 x16 x18)) a fun f g =>
 opK Tryd.prog E (xV (Instr.loadAt 3 f)) g fun i j =>
 opK Tryd.prog E (xV (Instr.fieldAt 30 x3 5)) j fun k l =>
 opK Tryd.prog E (xV (Instr.loadAt 28 k)) l fun m n =>
 opK Tryd.prog E (xV (Instr.indexAt 28 m i)) n fun o p =>
 opK Tryd.prog E (xV (Instr.fieldAt 46 o 1)) p fun q r =>
 opK Tryd.prog E (xV (Instr.loadAt 3 q)) r fun b s =>
 opK Tryd.prog E (xV (Instr.loadAt 65 x1)) s fun t u =>
 opK Tryd.prog E (xV (Instr.indexAt 65 t b)) u fun v y =>
 opK Tryd.prog E (xV (Instr.loadAt 4 v)) y fun z aa =>
 opK Tryd.prog E (xV (Op.unary .not z)) aa fun ab c =>
 xcond ab
 (opK Tryd.prog E (xV (Instr.loadAt 66 x4)) c fun ac ad =>
 opK Tryd.prog E (xCall ac [b]) ad fun _t35_55 ae =>
 j3 [] ae)
 (j3 [] c))
 (j1 [] a)
def F16 (x0 x1 x2 x3 x4 x5 : Value) (w : World) (R : Value → World → Prop) (E : Pan) : Prop :=
 opK Tryd.prog E (xV (Instr.loadAt 65 x1)) w fun b c =>
 opK Tryd.prog E (xV (Instr.indexAt 65 b x0)) c fun d e =>
 opK Tryd.prog E (xU (Instr.storeAt 4 d (Value.bool true))) e fun _ f =>
 xcut (fun _ g => b2c x0 x5 g R E) fun j1 =>
 opK Tryd.prog E (xV (Instr.loadAt 63 x2)) f fun i j =>
 opK Tryd.prog E (xV (Instr.indexAt 63 i x0)) j fun k l =>
 opK Tryd.prog E (xV (Instr.loadAt 49 k)) l fun a m =>
 opK Tryd.prog E (xBuiltin .len #[49] 3 [false] [a]) m fun n o =>
 xloop [18] [(Value.int .i64 0)] o fun p q next2 =>
 b5C x0 x1 x3 x4 x5 a n (p 18) q next2 j1 R E
def h16 : Hint := (.seq .none (.cut [] (.seq .none (.block (.loop [18] (.seq .none (.seq (.cond .none .none) (.cut [] (.block (.seq .none (.seq .none (.seq .none (.cond .none .none))))) .none)))))) .none))
theorem b9I {x0 x1 x2 x3 x4 x5 : Value} {w : World} {R : Value → World → Prop} {E : Pan} (h : F16 x0 x1 x2 x3 x4 x5 w R E) : Cv Tryd.prog 16 #[x0, x1, x2, x3, x4, x5] w R E := okF (args := [x0, x1, x2, x3, x4, x5]) (h := h16) Tryd.func16 (by kernel_rfl) (by kernel_rfl) h
def b5D (x0 x2 x3 : Value) (w : World) (next1 : List Value → World → Prop) (R : Value → World → Prop) (E : Pan) : Prop :=
 opK Tryd.prog E (xBin .lss 3 (.tmp 7) (.tmp 8) x2 x3) w fun g c =>
 xcond g
 (dX c fun a =>
 qP Tryd.prog (xV (Instr.indexAt 49 x0 x3)) fun d =>
 qP Tryd.prog (xV (Instr.indexAt 49 x0 x2)) fun e =>
 qL Tryd.prog a (blk d) (xV (Instr.loadAt 3 d)) fun i =>
 qL Tryd.prog a (blk e) (xV (Instr.loadAt 3 e)) fun j =>
 qP Tryd.prog (xV (Instr.indexAt 49 x0 x2)) fun k =>
 opK Tryd.prog E (xU (Instr.storeAt 3 k i)) a fun _ b =>
 keepX [] a b (qP Tryd.prog (xV (Instr.indexAt 49 x0 x3)) fun l =>
 opK Tryd.prog E (xU (Instr.storeAt 3 l j)) b fun _ f =>
 keepX [] b f (opK Tryd.prog E (xBin .add 3 (.tmp 10) (.const (Value.int .i64 1)) x2 (Value.int .i64 1)) f fun m n =>
 opK Tryd.prog E (xBin .sub 3 (.tmp 12) (.const (Value.int .i64 1)) x3 (Value.int .i64 1)) n fun o p =>
 next1 [m, o] p)))
 (R (Value.tuple #[]) c)
def F17 (x0 : Value) (w : World) (R : Value → World → Prop) (E : Pan) : Prop :=
 opK Tryd.prog E (xBuiltin .len #[49] 3 [false] [x0]) w fun b c =>
 opK Tryd.prog E (xBin .sub 3 (.tmp 5) (.const (Value.int .i64 1)) b (Value.int .i64 1)) c fun d e =>
 xloop [2, 3] [(Value.int .i64 0), d] e fun a f next1 =>
 b5D x0 (a 2) (a 3) f next1 R E
def h17 : Hint := (.seq .none (.block (.loop [2, 3] (.seq (.seq .none (.cond .none .none)) (.seq (.block (.reg [(0, 16384, 1), (0, 32768, 4), (0, 65536, 1), (0, 131072, 8), (0, 262144, 1), (0, 524288, 8), (48, 1048576, 786432), (64, 2097152, 1048576), (0, 4194304, 1), (0, 8388608, 4), (768, 16777216, 12582912), (1024, 33554432, 16777216), (2291, 67108864, 49152), (6387, 0, 69206016), (16383, 134217728, 196608), (32767, 0, 167772160)] [2176, 2176, 2176, 2176, 2176, 2176, 2176, 2048, 2176, 2176, 2176, 128, 2176, 0, 2176, 0] (.early 0 (.early 1 (.early 2 (.early 3 (.early 4 (.early 5 (.early 6 (.early 8 (.early 9 (.early 10 (.load 7 (.load 11 (.early 12 (.step 13 (.early 14 (.step 15 .done)))))))))))))))))) .none)))))
theorem b9J {x0 : Value} {w : World} {R : Value → World → Prop} {E : Pan} (h : F17 x0 w R E) : Cv Tryd.prog 17 #[x0] w R E := okF (args := [x0]) (h := h17) Tryd.func17 (by kernel_rfl) (by kernel_rfl) h
def F18 (x0 x1 : Value) (w : World) (R : Value → World → Prop) (E : Pan) : Prop :=
 opK Tryd.prog E (xV (Instr.box 41 x0)) w fun a e =>
 opK Tryd.prog E (xV (Instr.box 3 x1)) e fun f g =>
 opK Tryd.prog E (xV (Instr.loadAt 41 a)) g fun i j =>
 opK Tryd.prog E (xCall (Value.func (.func 23) #[] #[]) [i]) j fun b k =>
 opK Tryd.prog E (xV (Instr.extract b 0)) k fun _t11_9 l =>
 opK Tryd.prog E (xV (Instr.extract b 1)) l fun c m =>
 opK Tryd.prog E (xBin .neq 31 (.tmp 13) (.const (Value.int .i64 0)) c (Value.int .i64 0)) m fun n d =>
 xcond n
 (R (Value.tuple #[(Value.slice none 0 0), c]) d)
 (opK Tryd.prog E (xV (Instr.fieldAt 41 a 0)) d fun o p =>
 opK Tryd.prog E (xV (Instr.loadAt 27 o)) p fun q r =>
 opK Tryd.prog E (xCall (Value.func (.func 25) #[] #[]) [q]) r fun s t =>
 opK Tryd.prog E (xV (Instr.makeFunc (.func 26) #[] #[f])) t fun u v =>
 opK Tryd.prog E (xCall (Value.func (.func 24) #[] #[]) [s, u]) v fun y z =>
 R (Value.tuple #[y, (Value.int .i64 0)]) z)
def h18 : Hint := (.seq .none (.seq (.seq .none (.seq .none (.cond (.seq .none .none) .none))) (.seq .none .none)))
theorem b9K {x0 x1 : Value} {w : World} {R : Value → World → Prop} {E : Pan} (h : F18 x0 x1 w R E) : Cv Tryd.prog 18 #[x0, x1] w R E := okF (args := [x0, x1]) (h := h18) Tryd.func18 (by kernel_rfl) (by kernel_rfl) h
def F19 (x0 x1 x2 x3 : Value) (w : World) (R : Value → World → Prop) (E : Pan) : Prop :=
 opK Tryd.prog E (xV (Instr.box 39 x1)) w fun a aj =>
 opK Tryd.prog E (xV (Instr.fieldAt 39 a 0)) aj fun ak al =>
 opK Tryd.prog E (xV (Instr.loadAt 3 ak)) al fun c am =>
 opK Tryd.prog E (xBin .eql 3 (.tmp 15) (.const (Value.int .i64 1)) c (Value.int .i64 1)) am fun an i =>
 xcond an
 (dX i fun b =>
 qP Tryd.prog (xNil x0) fun ao =>
 qP Tryd.prog (xV (Instr.fieldAt 59 ao 1)) fun j =>
 qP Tryd.prog (xV (Instr.fieldAt 39 a 1)) fun k =>
 qP Tryd.prog (xV (Instr.fieldAt 39 a 2)) fun l =>
 qL Tryd.prog b (blk j) (xV (Instr.loadAt 57 j)) fun m =>
 qL Tryd.prog b (blk k) (xV (Instr.loadAt 9 k)) fun ap =>
 qL Tryd.prog b (blk m) (xV (Instr.lookup 57 m ap false)) fun aq =>
 qL Tryd.prog b (blk l) (xV (Instr.loadAt 23 l)) fun ar =>
 qP Tryd.prog (xV (Instr.indexAt 23 ar (Value.int .i64 0))) fun n =>
 qL Tryd.prog b (blk n) (xV (Instr.loadAt 25 n)) fun au =>
 opK Tryd.prog E (xCall (Value.func (.func 28) #[] #[]) [x0, aq, au, x2, x3]) b fun _t37_20 o =>
 keepX [] b o (R (Value.tuple #[]) o))
 (opK Tryd.prog E (xBin .eql 3 (.tmp 15) (.const (Value.int .i64 2)) c (Value.int .i64 2)) i fun av p =>
 xcond av
 (opK Tryd.prog E (xCall (Value.func (.func 29) #[] #[]) [x2, x3, (Value.int .i64 11)]) p fun aw ax =>
 opK Tryd.prog E (xV (Instr.alloc 46 true (.tuple #[]))) ax fun d ay =>
 opK Tryd.prog E (xU (Instr.storeAt 46 d aw)) ay fun _ az =>
 dX az fun e =>
 qP Tryd.prog (xNil x0) fun ba =>
 qP Tryd.prog (xV (Instr.fieldAt 59 ba 2)) fun q =>
 qP Tryd.prog (xV (Instr.fieldAt 39 a 1)) fun r =>
 qL Tryd.prog e (blk q) (xV (Instr.loadAt 57 q)) fun s =>
 qL Tryd.prog e (blk r) (xV (Instr.loadAt 9 r)) fun bb =>
 qL Tryd.prog e (blk s) (xV (Instr.lookup 57 s bb false)) fun bc =>
 qP Tryd.prog (xV (Instr.fieldAt 46 d 4)) fun bd =>
 opK Tryd.prog E (xU (Instr.storeAt 3 bd bc)) e fun _ t =>
 keepX [] e t (opK Tryd.prog E (xV (Instr.fieldAt 39 a 2)) t fun be bf =>
 opK Tryd.prog E (xV (Instr.loadAt 23 be)) bf fun bg bh =>
 opK Tryd.prog E (xCall (Value.func (.func 30) #[] #[]) [x0, bg, x2, (Value.int .i64 0)]) bh fun g bi =>
 opK Tryd.prog E (xV (Instr.extract g 0)) bi fun bj bk =>
 opK Tryd.prog E (xV (Instr.extract g 1)) bk fun bl bm =>
 opK Tryd.prog E (xV (Instr.extract g 2)) bm fun bn bo =>
 opK Tryd.prog E (xV (Instr.fieldAt 46 d 6)) bo fun bp bq =>
 opK Tryd.prog E (xU (Instr.storeAt 44 bp bj)) bq fun _ br =>
 opK Tryd.prog E (xV (Instr.fieldAt 46 d 7)) br fun bs bt =>
 opK Tryd.prog E (xU (Instr.storeAt 44 bs bl)) bt fun _ bu =>
 opK Tryd.prog E (xV (Instr.fieldAt 46 d 0)) bu fun bv bw =>
 opK Tryd.prog E (xU (Instr.storeAt 3 bv bn)) bw fun _ bz =>
 opK Tryd.prog E (xV (Instr.loadAt 46 d)) bz fun ca cb =>
 opK Tryd.prog E (xCall (Value.func (.func 31) #[] #[]) [x0, ca]) cb fun _t65_66 cc =>
 R (Value.tuple #[]) cc))
 (opK Tryd.prog E (xBin .eql 3 (.tmp 15) (.const (Value.int .i64 3)) c (Value.int .i64 3)) p fun cd u =>
 xcond cd
 (opK Tryd.prog E (xV (Instr.fieldAt 39 a 4)) u fun ce cf =>
 opK Tryd.prog E (xV (Instr.loadAt 37 ce)) cf fun cg ch =>
 opK Tryd.prog E (xCall (Value.func (.func 32) #[] #[]) [x0, cg, x3]) ch fun v ci =>
 opK Tryd.prog E (xV (Instr.fieldAt 39 a 5)) ci fun cj ck =>
 opK Tryd.prog E (xV (Instr.loadAt 37 cj)) ck fun cl cm =>
 opK Tryd.prog E (xCall (Value.func (.func 32) #[] #[]) [x0, cl, x3]) cm fun y cn =>
 opK Tryd.prog E (xV (Instr.fieldAt 39 a 3)) cn fun co cp =>
 opK Tryd.prog E (xV (Instr.loadAt 36 co)) cp fun cq cr =>
 opK Tryd.prog E (xV (Instr.indexAt 36 cq (Value.int .i64 0))) cr fun cs ct =>
 opK Tryd.prog E (xV (Instr.loadAt 89 cs)) ct fun cu cv =>
 opK Tryd.prog E (xCall (Value.func (.func 33) #[] #[]) [x0, cu, x2, v, y]) cv fun _t86_90 cw =>
 opK Tryd.prog E (xV (Instr.fieldAt 39 a 4)) cw fun cx cy =>
 opK Tryd.prog E (xV (Instr.loadAt 37 cx)) cy fun cz da =>
 opK Tryd.prog E (xCall (Value.func (.func 13) #[] #[]) [x0, cz, v, x3]) da fun _t92_96 db =>
 opK Tryd.prog E (xV (Instr.fieldAt 39 a 5)) db fun dc dd =>
 opK Tryd.prog E (xV (Instr.loadAt 37 dc)) dd fun de df =>
 opK Tryd.prog E (xCall (Value.func (.func 13) #[] #[]) [x0, de, y, x3]) df fun _t98_102 dg =>
 R (Value.tuple #[]) dg)
 (opK Tryd.prog E (xBin .eql 3 (.tmp 15) (.const (Value.int .i64 4)) c (Value.int .i64 4)) u fun dh z =>
 xcond dh
 (opK Tryd.prog E (xV (Instr.fieldAt 39 a 4)) z fun di dj =>
 opK Tryd.prog E (xV (Instr.loadAt 37 di)) dj fun dk dl =>
 opK Tryd.prog E (xCall (Value.func (.func 32) #[] #[]) [x0, dk, x2]) dl fun aa dm =>
 opK Tryd.prog E (xV (Instr.fieldAt 39 a 3)) dm fun dn dp =>
 opK Tryd.prog E (xV (Instr.loadAt 36 dn)) dp fun dq dr =>
 opK Tryd.prog E (xV (Instr.indexAt 36 dq (Value.int .i64 0))) dr fun ds dt =>
 opK Tryd.prog E (xV (Instr.loadAt 89 ds)) dt fun du dv =>
 opK Tryd.prog E (xCall (Value.func (.func 33) #[] #[]) [x0, du, x2, aa, x3]) dv fun _t114_120 dw =>
 opK Tryd.prog E (xV (Instr.fieldAt 39 a 4)) dw fun dx dy =>
 opK Tryd.prog E (xV (Instr.loadAt 37 dx)) dy fun dz ea =>
 opK Tryd.prog E (xCall (Value.func (.func 13) #[] #[]) [x0, dz, aa, x2]) ea fun _t120_126 eb =>
 R (Value.tuple #[]) eb)
 (opK Tryd.prog E (xBin .eql 3 (.tmp 15) (.const (Value.int .i64 5)) c (Value.int .i64 5)) z fun ec ab =>
 xcond ec
 (opK Tryd.prog E (xCall (Value.func (.func 12) #[] #[]) [x0]) ab fun ac ed =>
 opK Tryd.prog E (xCall (Value.func (.func 12) #[] #[]) [x0]) ed fun ad ee =>
 opK Tryd.prog E (xV (Instr.fieldAt 39 a 3)) ee fun ef eg =>
 opK Tryd.prog E (xV (Instr.loadAt 36 ef)) eg fun eh ei =>
 opK Tryd.prog E (xV (Instr.indexAt 36 eh (Value.int .i64 0))) ei fun ej ek =>
 opK Tryd.prog E (xV (Instr.loadAt 89 ej)) ek fun el em =>
 opK Tryd.prog E (xCall (Value.func (.func 33) #[] #[]) [x0, el, x2, ac, ad]) em fun _t135_142 en =>
 opK Tryd.prog E (xCall (Value.func (.func 29) #[] #[]) [ac, x3, (Value.int .i64 13)]) en fun eo ep =>
 opK Tryd.prog E (xCall (Value.func (.func 31) #[] #[]) [x0, eo]) ep fun _t140_146 eq =>
 opK Tryd.prog E (xCall (Value.func (.func 29) #[] #[]) [ad, x3, (Value.int .i64 14)]) eq fun er es =>
 opK Tryd.prog E (xCall (Value.func (.func 31) #[] #[]) [x0, er]) es fun _t145_150 et =>
 R (Value.tuple #[]) et)
 (opK Tryd.prog E (xBin .eql 3 (.tmp 15) (.const (Value.int .i64 6)) c (Value.int .i64 6)) ab fun eu ae =>
 xcond eu
 (dX ae fun f =>
 qP Tryd.prog (xV (Instr.fieldAt 39 a 3)) fun af =>
 qP Tryd.prog (xNil x0) fun ev =>
 qP Tryd.prog (xV (Instr.fieldAt 59 ev 0)) fun ew =>
 qP Tryd.prog (xV (Instr.fieldAt 30 ew 4)) fun ag =>
 qL Tryd.prog f (blk af) (xV (Instr.loadAt 36 af)) fun ex =>
 qP Tryd.prog (xV (Instr.indexAt 36 ex (Value.int .i64 0))) fun ah =>
 qL Tryd.prog f (blk ah) (xV (Instr.loadAt 89 ah)) fun ey =>
 qL Tryd.prog f (blk ag) (xV (Instr.loadAt 3 ag)) fun ez =>
 opK Tryd.prog E (xCall (Value.func (.func 33) #[] #[]) [x0, ey, x2, x3, ez]) f fun _t160_163 ai =>
 keepX [] f ai (R (Value.tuple #[]) ai))
 (opK Tryd.prog E (xCall (Value.func (.func 29) #[] #[]) [x2, x3, (Value.int .i64 1)]) ae fun fa fb =>
 opK Tryd.prog E (xCall (Value.func (.func 31) #[] #[]) [x0, fa]) fb fun _t20_167 fc =>
 R (Value.tuple #[]) fc))))))
def h19 : Hint := (.seq .none (.seq .none (.block (.seq .none (.cond (.reg [(0, 8388608, 1), (0, 16777216, 1), (2, 33554432, 16777216), (4, 67108864, 33554432), (8, 134217728, 67108864), (0, 268435456, 32), (32, 536870912, 268435456), (80, 1073741824, 671088640), (0, 2147483648, 32), (256, 4294967296, 2147483648), (512, 8589934592, 4294967296), (1024, 17179869184, 8589934592), (0, 34359738368, 4), (0, 68719476736, 8), (14465, 137438953472, 121341214720)] [2768, 2768, 2768, 2768, 2752, 2768, 2704, 2640, 2768, 2256, 2768, 720, 2768, 2768, 0] (.early 0 (.early 1 (.early 2 (.early 3 (.early 5 (.early 8 (.early 12 (.early 13 (.load 4 (.load 6 (.load 7 (.load 9 (.early 10 (.load 11 (.step 14 .done)))))))))))))))) (.seq .none (.cond (.seq .none (.seq (.reg [(0, 8796093022208, 1), (1, 17592186044416, 8796093022208), (2, 35184372088832, 17592186044416), (4, 70368744177664, 35184372088832), (0, 140737488355328, 32), (16, 281474976710656, 140737488355328), (40, 562949953421312, 351843720888320), (127, 1125899906842624, 256), (255, 0, 1688849860263936)] [104, 104, 104, 96, 104, 72, 40, 104, 0] (.early 0 (.early 1 (.early 2 (.early 4 (.load 3 (.load 5 (.load 6 (.early 7 (.step 8 .done)))))))))) (.seq .none .none))) (.seq .none (.cond (.seq .none (.seq .none (.seq .none (.seq .none .none)))) (.seq .none (.cond (.seq .none (.seq .none .none)) (.seq .none (.cond (.seq .none (.seq .none (.seq .none .none))) (.seq .none (.cond (.reg [(0, 356811923176489970264571492362373784095686656, 1), (0, 713623846352979940529142984724747568191373312, 32), (2, 1427247692705959881058285969449495136382746624, 713623846352979940529142984724747568191373312), (4, 2854495385411919762116571938898990272765493248, 1427247692705959881058285969449495136382746624), (8, 5708990770823839524233143877797980545530986496, 2854495385411919762116571938898990272765493248), (0, 11417981541647679048466287755595961091061972992, 4), (0, 22835963083295358096932575511191922182123945984, 8), (0, 45671926166590716193865151022383844364247891968, 1), (128, 91343852333181432387730302044767688728495783936, 45671926166590716193865151022383844364247891968), (256, 182687704666362864775460604089535377456991567872, 91343852333181432387730302044767688728495783936), (512, 365375409332725729550921208179070754913983135744, 182687704666362864775460604089535377456991567872), (1024, 730750818665451459101842416358141509827966271488, 365375409332725729550921208179070754913983135744), (2161, 1461501637330902918203684832716283019655932542976, 771070565984394825741738994995089747430778863616)] [2068, 2068, 2064, 2068, 2052, 2068, 2068, 2068, 2068, 2068, 2068, 20, 0] (.early 0 (.early 1 (.early 5 (.early 6 (.early 7 (.early 8 (.early 9 (.early 10 (.load 2 (.early 3 (.load 4 (.load 11 (.step 12 .done)))))))))))))) .none)))))))))))))))
theorem b9L {x0 x1 x2 x3 : Value} {w : World} {R : Value → World → Prop} {E : Pan} (h : F19 x0 x1 x2 x3 w R E) : Cv Tryd.prog 19 #[x0, x1, x2, x3] w R E := okF (args := [x0, x1, x2, x3]) (h := h19) Tryd.func19 (by kernel_rfl) (by kernel_rfl) h
def F20 (x0 x1 : Value) (w : World) (R : Value → World → Prop) (E : Pan) : Prop :=
 opK Tryd.prog E (xV (Instr.box 71 x0)) w fun b c =>
 opK Tryd.prog E (xBin .geq 3 (.tmp 5) (.const (Value.int .i64 0)) x1 (Value.int .i64 0)) c fun a d =>
 opK Tryd.prog E (gsem (asB a) true (xV (Instr.fieldAt 71 b 0))) d fun e f =>
 opK Tryd.prog E (gsem (asB a) true (xV (Instr.fieldAt 30 e 3))) f fun g i =>
 opK Tryd.prog E (gsem (asB a) true (xV (Instr.loadAt 3 g))) i fun j k =>
 opK Tryd.prog E (gsem (asB a) true (xBin .lss 3 (.tmp 8) (.tmp 11) (gval (asB a) true x1) j)) k fun l m =>
 opK Tryd.prog E (xPick a l (Value.bool false)) m fun n o =>
 R n o
def h20 : Hint := (.seq .none (.seq .none .none))
theorem b9M {x0 x1 : Value} {w : World} {R : Value → World → Prop} {E : Pan} (h : F20 x0 x1 w R E) : Cv Tryd.prog 20 #[x0, x1] w R E := okF (args := [x0, x1]) (h := h20) Tryd.func20 (by kernel_rfl) (by kernel_rfl) h
def F21 (x0 x1 : Value) (w : World) (R : Value → World → Prop) (E : Pan) : Prop :=
 opK Tryd.prog E (xV (Instr.box 71 x0)) w fun e au =>
 opK Tryd.prog E (xV (Instr.box 46 x1)) au fun a av =>
 opK Tryd.prog E (xV (Instr.loadAt 71 e)) av fun aw ax =>
 opK Tryd.prog E (xV (Instr.fieldAt 46 a 0)) ax fun ay az =>
 opK Tryd.prog E (xV (Instr.loadAt 3 ay)) az fun ba bb =>
 opK Tryd.prog E (xCall (Value.func (.func 20) #[] #[]) [aw, ba]) bb fun bc bd =>
 opK Tryd.prog E (xV (Op.unary .not bc)) bd fun m be =>
 opK Tryd.prog E (gsem (asB m) false (xV (Instr.loadAt 71 e))) be fun bf bg =>
 opK Tryd.prog E (gsem (asB m) false (xV (Instr.fieldAt 46 a 1))) bg fun bh bi =>
 opK Tryd.prog E (gsem (asB m) false (xV (Instr.loadAt 3 bh))) bi fun bj bk =>
 opK Tryd.prog E (gsem (asB m) false (xCall (Value.func (.func 20) #[] #[]) [bf, bj])) bk fun bl bm =>
 opK Tryd.prog E (gsem (asB m) false (xV (Op.unary .not bl))) bm fun bn bo =>
 opK Tryd.prog E (xPick m (Value.bool true) bn) bo fun g bp =>
 opK Tryd.prog E (gsem (asB g) false (xV (Instr.fieldAt 46 a 0))) bp fun bq br =>
 opK Tryd.prog E (gsem (asB g) false (xV (Instr.loadAt 3 bq))) br fun bs bt =>
 opK Tryd.prog E (gsem (asB g) false (xV (Instr.fieldAt 71 e 0))) bt fun bu bv =>
 opK Tryd.prog E (gsem (asB g) false (xV (Instr.fieldAt 30 bu 4))) bv fun bw bz =>
 opK Tryd.prog E (gsem (asB g) false (xV (Instr.loadAt 3 bw))) bz fun ca cb =>
 opK Tryd.prog E (gsem (asB g) false (xBin .eql 3 (.tmp 20) (.tmp 23) bs ca)) cb fun cc cd =>
 opK Tryd.prog E (xPick g (Value.bool true) cc) cd fun p ce =>
 opK Tryd.prog E (gsem (asB p) false (xV (Instr.fieldAt 46 a 2))) ce fun cf cg =>
 opK Tryd.prog E (gsem (asB p) false (xV (Instr.loadAt 3 cf))) cg fun ch ci =>
 opK Tryd.prog E (gsem (asB p) false (xBin .lss 3 (.tmp 28) (.const (Value.int .i64 1)) ch (Value.int .i64 1))) ci fun cj ck =>
 opK Tryd.prog E (xPick p (Value.bool true) cj) ck fun q cl =>
 opK Tryd.prog E (gsem (asB q) false (xV (Instr.fieldAt 46 a 2))) cl fun cm cn =>
 opK Tryd.prog E (gsem (asB q) false (xV (Instr.loadAt 3 cm))) cn fun co cp =>
 opK Tryd.prog E (gsem (asB q) false (xBin .gtr 3 (.tmp 33) (.const (Value.int .i64 14)) co (Value.int .i64 14))) cp fun cq cr =>
 opK Tryd.prog E (xPick q (Value.bool true) cq) cr fun cs ai =>
 xcond cs
 (R (Value.bool false) ai)
 (opK Tryd.prog E (xV (Instr.fieldAt 46 a 2)) ai fun ct cu =>
 opK Tryd.prog E (xV (Instr.loadAt 3 ct)) cu fun cv cw =>
 opK Tryd.prog E (xCall (Value.func (.func 34) #[] #[]) [cv]) cw fun cx cy =>
 opK Tryd.prog E (xV (Instr.alloc 91 true (.tuple #[]))) cy fun n cz =>
 opK Tryd.prog E (xU (Instr.storeAt 91 n cx)) cz fun _ da =>
 dX da fun o =>
 qP Tryd.prog (xV (Instr.fieldAt 91 n 0)) fun y =>
 qP Tryd.prog (xV (Instr.fieldAt 46 a 3)) fun aj =>
 qP Tryd.prog (xV (Instr.fieldAt 46 a 3)) fun z =>
 qL Tryd.prog o (blk y) (xV (Instr.loadAt 4 y)) fun db =>
 qL Tryd.prog o (blk e) (xV (Instr.loadAt 71 e)) fun dc =>
 qL Tryd.prog o (blk aj) (xV (Instr.loadAt 3 aj)) fun dd =>
 qL Tryd.prog o (blk z) (xV (Instr.loadAt 3 z)) fun de =>
 qP Tryd.prog (xBin .eql 3 (.tmp 46) (.const (Value.int .i64 (-1))) de (Value.int .i64 (-1))) fun df =>
 opK Tryd.prog E (xCall (Value.func (.func 36) #[] #[]) [dc, dd]) o fun dg aa =>
 keepX [(blk z), (blk y)] o aa (opK Tryd.prog E (xCall (Value.func (.func 35) #[] #[]) [db, dg, df]) aa fun f i =>
 keepX [] aa i (qP Tryd.prog (gsem (asB f) true (xV (Instr.fieldAt 91 n 1))) fun ab =>
 qP Tryd.prog (gsem (asB f) true (xV (Instr.fieldAt 46 a 4))) fun ak =>
 qP Tryd.prog (gsem (asB f) true (xV (Instr.fieldAt 46 a 4))) fun ac =>
 qL Tryd.prog i (blk ab) (gsem (asB f) true (xV (Instr.loadAt 4 ab))) fun dh =>
 qL Tryd.prog i (blk e) (gsem (asB f) true (xV (Instr.loadAt 71 e))) fun di =>
 qL Tryd.prog i (blk ak) (gsem (asB f) true (xV (Instr.loadAt 3 ak))) fun dj =>
 qL Tryd.prog i (blk ac) (gsem (asB f) true (xV (Instr.loadAt 3 ac))) fun dk =>
 qP Tryd.prog (gsem (asB f) true (xBin .eql 3 (.tmp 57) (.const (Value.int .i64 (-1))) dk (Value.int .i64 (-1)))) fun dl =>
 opK Tryd.prog E (gsem (asB f) true (xCall (Value.func (.func 37) #[] #[]) [di, dj])) i fun dm ad =>
 keepX [(blk ac), (blk ab)] i ad (opK Tryd.prog E (gsem (asB f) true (xCall (Value.func (.func 35) #[] #[]) [dh, dm, dl])) ad fun dn j =>
 keepX [] ad j (qP Tryd.prog (xPick f dn (Value.bool false)) fun b =>
 qP Tryd.prog (gsem (asB b) true (xV (Instr.fieldAt 91 n 2))) fun al =>
 qP Tryd.prog (gsem (asB b) true (xV (Instr.fieldAt 46 a 5))) fun am =>
 qP Tryd.prog (gsem (asB b) true (xV (Instr.fieldAt 46 a 5))) fun an =>
 qL Tryd.prog j (blk al) (gsem (asB b) true (xV (Instr.loadAt 4 al))) fun dp =>
 qL Tryd.prog j (blk am) (gsem (asB b) true (xV (Instr.loadAt 3 am))) fun dq =>
 qP Tryd.prog (gsem (asB b) true (xBin .geq 3 (.tmp 65) (.const (Value.int .i64 1)) dq (Value.int .i64 1))) fun r =>
 qP Tryd.prog (gsem (asB (gval (asB b) true r)) true (xV (Instr.fieldAt 46 a 5))) fun ao =>
 qL Tryd.prog j (blk ao) (gsem (asB (gval (asB b) true r)) true (xV (Instr.loadAt 3 ao))) fun dr =>
 qP Tryd.prog (gsem (asB (gval (asB b) true r)) true (xBin .leq 3 (.tmp 69) (.const (Value.int .i64 6)) dr (Value.int .i64 6))) fun ds =>
 qP Tryd.prog (gsem (asB b) true (xPick (gval (asB b) true r) ds (Value.bool false))) fun dt =>
 qL Tryd.prog j (blk an) (gsem (asB b) true (xV (Instr.loadAt 3 an))) fun du =>
 qP Tryd.prog (gsem (asB b) true (xBin .eql 3 (.tmp 73) (.const (Value.int .i64 0)) du (Value.int .i64 0))) fun dv =>
 opK Tryd.prog E (gsem (asB b) true (xCall (Value.func (.func 35) #[] #[]) [dp, dt, dv])) j fun dw k =>
 keepX [] j k (qP Tryd.prog (xPick b dw (Value.bool false)) fun c =>
 qP Tryd.prog (gsem (asB c) true (xV (Instr.fieldAt 91 n 3))) fun s =>
 qP Tryd.prog (gsem (asB c) true (xV (Instr.fieldAt 46 a 6))) fun ap =>
 qP Tryd.prog (gsem (asB c) true (xV (Instr.fieldAt 46 a 6))) fun t =>
 qL Tryd.prog k (blk s) (gsem (asB c) true (xV (Instr.loadAt 4 s))) fun dx =>
 qL Tryd.prog k (blk e) (gsem (asB c) true (xV (Instr.loadAt 71 e))) fun dy =>
 qL Tryd.prog k (blk ap) (gsem (asB c) true (xV (Instr.loadAt 44 ap))) fun dz =>
 qL Tryd.prog k (blk t) (gsem (asB c) true (xV (Instr.loadAt 44 t))) fun ea =>
 opK Tryd.prog E (gsem (asB c) true (xCall (Value.func (.func 38) #[] #[]) [dy, dz])) k fun eb ae =>
 keepX [(blk t), (blk s)] k ae (opK Tryd.prog E (gsem (asB c) true (xCall (Value.func (.func 39) #[] #[]) [])) ae fun ec af =>
 keepX [(blk t), (blk s)] ae af (qP Tryd.prog (gsem (asB c) true (xBin .eql 44 (.tmp 85) (.tmp 86) ea ec)) fun ed =>
 opK Tryd.prog E (gsem (asB c) true (xCall (Value.func (.func 35) #[] #[]) [dx, eb, ed])) af fun ee l =>
 keepX [] af l (qP Tryd.prog (xPick c ee (Value.bool false)) fun d =>
 qP Tryd.prog (gsem (asB d) true (xV (Instr.fieldAt 91 n 4))) fun u =>
 qP Tryd.prog (gsem (asB d) true (xV (Instr.fieldAt 46 a 7))) fun aq =>
 qP Tryd.prog (gsem (asB d) true (xV (Instr.fieldAt 46 a 7))) fun v =>
 qL Tryd.prog l (blk u) (gsem (asB d) true (xV (Instr.loadAt 4 u))) fun ef =>
 qL Tryd.prog l (blk e) (gsem (asB d) true (xV (Instr.loadAt 71 e))) fun eg =>
 qL Tryd.prog l (blk aq) (gsem (asB d) true (xV (Instr.loadAt 44 aq))) fun eh =>
 qL Tryd.prog l (blk v) (gsem (asB d) true (xV (Instr.loadAt 44 v))) fun ei =>
 opK Tryd.prog E (gsem (asB d) true (xCall (Value.func (.func 38) #[] #[]) [eg, eh])) l fun ej ag =>
 keepX [(blk v), (blk u)] l ag (opK Tryd.prog E (gsem (asB d) true (xCall (Value.func (.func 39) #[] #[]) [])) ag fun ek ah =>
 keepX [(blk v), (blk u)] ag ah (qP Tryd.prog (gsem (asB d) true (xBin .eql 44 (.tmp 98) (.tmp 99) ei ek)) fun el =>
 opK Tryd.prog E (gsem (asB d) true (xCall (Value.func (.func 35) #[] #[]) [ef, ej, el])) ah fun em ar =>
 keepX [] ah ar (qP Tryd.prog (xPick d em (Value.bool false)) fun en =>
 R en ar))))))))))))
def h21 : Hint := (.seq .none (.seq (.seq .none (.cond (.seq .none .none) .none)) (.seq .none (.seq (.reg [(0, 549755813888, 32), (1, 1099511627776, 549755813888), (0, 2199023255552, 4), (0, 4398046511104, 8), (8, 8796093022208, 4398046511104), (20, 17592186044416, 10995116277760), (0, 35184372088832, 8), (64, 70368744177664, 35184372088832), (128, 140737488355328, 70368744177664), (290, 281474976710656, 159429186027520), (512, 562949953421312, 281474976710656), (1024, 1125899906842624, 562949953421344), (3072, 2251799813685248, 1688849860263936), (1024, 4503599627370496, 562949953421316), (1024, 9007199254740992, 562949953421320), (17408, 18014398509481984, 9570149208162304), (41984, 36028797018963968, 23080948090273792), (1024, 72057594037927936, 562949953421320), (132096, 144115188075855872, 72620543991349248), (263168, 288230376151711744, 144678138029277184), (594944, 576460752303423488, 327073922937782272), (1049600, 1152921504606846976, 577023702256844800), (3145728, 2305843009213693952, 1152921504606846976), (4194304, 4611686018427387904, 2305843009213693984), (12582912, 9223372036854775808, 6917529027641081856), (4194304, 18446744073709551616, 2305843009213693960), (37748736, 36893488147419103232, 20752587082923245568), (71303168, 73786976294838206464, 39199331156632797184), (138412032, 147573952589676412928, 76092819304051900416), (268435456, 295147905179352825856, 147573952589676412936), (805306368, 590295810358705651712, 442721857769029238784), (1342177280, 1180591620717411303424, 737869762948382064640), (2420113408, 2361183241434822606848, 1330471416316301410304), (4194304, 4722366482869645213696, 2305843009213693960), (8594128896, 9444732965739290427392, 4724672325878858907648), (17184063488, 18889465931478580854784, 9447038808748504121344), (38944112640, 37778931862957161709568, 21262178387959471931392), (68723671040, 75557863725914323419136, 37781237705966375403520), (206158430208, 151115727451828646838272, 75557863725914323419136), (274877906944, 302231454903657293676544, 151115727451828646838304), (824633720832, 604462909807314587353088, 453347182355485940514816), (274877906944, 1208925819614629174706176, 151115727451828646838276), (274877906944, 2417851639229258349412352, 151115727451828646838280), (4672924418048, 4835703278458516698824704, 2568967366681086996250624), (11269994184704, 9671406556917033397649408, 6195744825524974520369152), (274877906944, 19342813113834066795298816, 151115727451828646838280), (35459249995776, 38685626227668133590597632, 19493928841285895442137088), (17867063951360, 77371252455336267181195264, 151115727451828646838272), (211381110439936, 154742504910672534362390528, 116207994410456229418631168), (441179040645120, 309485009821345068724781056, 165169490104848710994231296), (563224831328256, 618970019642690137449562112, 309636125548796897371619328), (1688849860263936, 1237940039285380274899124224, 618970019642690137449562112), (2251799813685248, 2475880078570760549798248448, 1237940039285380274899124256), (6755399441055744, 4951760157141521099596496896, 3713820117856140824697372672), (2251799813685248, 9903520314283042199192993792, 1237940039285380274899124228), (2251799813685248, 19807040628566084398385987584, 1237940039285380274899124232), (38280596832649216, 39614081257132168796771975168, 21044980667851464673285111808), (92323792361095168, 79228162514264337593543950336, 50755541610700591270864093184), (2251799813685248, 158456325028528675187087900672, 1237940039285380274899124232), (290482175965396992, 316912650057057350374175801344, 159694265067814055461987024896), (146366987889541120, 633825300114114700748351602688, 1237940039285380274899124224), (1731634056723955712, 1267650600228229401496703205376, 951975890210457431397426528256), (3614138700964823040, 2535301200456458802993406410752, 1353068462938920640464742776832), (4613937818241073152, 5070602400912917605986812821504, 2536539140495744183268305534976), (18446744073709551615, 16, 5070602400912917605986812821504)] [675622425815462038, 675622425815462036, 675622425815462034, 675622425815462038, 675622425815462022, 130, 675622425815462038, 675622425815461910, 675622425815462038, 0, 675622425815462038, 675622425815462038, 675622425815457942, 675622425815453846, 675622425815462038, 675622425815429270, 266240, 675622425815462038, 675622425815199894, 675622425815462038, 0, 675622425815462038, 675622425815462038, 675622425815462038, 675622425798684822, 675622425815462038, 675622425748353174, 675622425815462038, 675622425815462038, 675622425815462038, 675622424741720214, 675622425815462038, 675622425815462038, 675622425815462038, 675622408635592854, 675622425815462038, 0, 675622425815462038, 675622425815462038, 675622425815462038, 675621326303834262, 675620226792206486, 675622425815462038, 675613629722439830, 71468255805440, 675622425815462038, 675552057071284374, 71468255805440, 675622425815462038, 0, 675622425815462038, 675622425815462038, 675622425815462038, 666615226560721046, 657608027305980054, 675622425815462038, 603564831777534102, 585467951558164480, 675622425815462038, 99161673512038550, 585467951558164480, 675622425815462038, 0, 675622425815462038, 675622425815462038] (.early 0 (.early 3 (.early 6 (.load 1 (.load 2 (.load 4 (.load 7 (.early 8 (.step 5 (.step 9 (.early 10 (.early 11 (.early 14 (.early 17 (.load 12 (.load 13 (.load 15 (.load 18 (.early 19 (.step 16 (.step 20 (.early 21 (.early 22 (.early 23 (.early 25 (.early 33 (.load 24 (.load 26 (.early 27 (.early 28 (.early 29 (.load 30 (.early 31 (.early 32 (.load 34 (.early 35 (.step 36 (.early 37 (.early 38 (.early 39 (.early 42 (.early 45 (.load 40 (.load 41 (.load 43 (.load 46 (.step 44 (.step 47 (.early 48 (.step 49 (.early 50 (.early 51 (.early 52 (.early 55 (.early 58 (.load 53 (.load 54 (.load 56 (.load 59 (.step 57 (.step 60 (.early 61 (.step 62 (.early 63 (.early 64 .done)))))))))))))))))))))))))))))))))))))))))))))))))))))))))))))))))) .none))))
theorem b9N {x0 x1 : Value} {w : World} {R : Value → World → Prop} {E : Pan} (h : F21 x0 x1 w R E) : Cv Tryd.prog 21 #[x0, x1] w R E := okF (args := [x0, x1]) (h := h21) Tryd.func21 (by kernel_rfl) (by kernel_rfl) h
def b2e (x3 x4 : Value) (w : World) (R : Value → World → Prop) (E : Pan) : Prop :=
 ∀ _τ : Fr, (dX w fun a =>
 qP Tryd.prog (xV (Instr.fieldAt 46 x3 2)) fun g =>
 qL Tryd.prog a (blk g) (xV (Instr.loadAt 3 g)) fun p =>
 qP Tryd.prog (xBin .eql 3 (.tmp 25) (.const (Value.int .i64 12)) p (Value.int .i64 12)) fun e =>
 qP Tryd.prog (gsem (asB e) true (xV (Instr.fieldAt 46 x4 2))) fun i =>
 qL Tryd.prog a (blk i) (gsem (asB e) true (xV (Instr.loadAt 3 i))) fun q =>
 qP Tryd.prog (gsem (asB e) true (xBin .eql 3 (.tmp 29) (.const (Value.int .i64 12)) q (Value.int .i64 12))) fun r =>
 qP Tryd.prog (xPick e r (Value.bool false)) fun c =>
 qP Tryd.prog (gsem (asB c) true (xV (Instr.fieldAt 46 x3 6))) fun j =>
 qP Tryd.prog (gsem (asB c) true (xV (Instr.fieldAt 46 x4 6))) fun k =>
 qL Tryd.prog a (blk j) (gsem (asB c) true (xV (Instr.loadAt 44 j))) fun s =>
 qL Tryd.prog a (blk k) (gsem (asB c) true (xV (Instr.loadAt 44 k))) fun t =>
 qP Tryd.prog (gsem (asB c) true (xBin .eql 44 (.tmp 34) (.tmp 36) s t)) fun u =>
 qP Tryd.prog (xPick c u (Value.bool false)) fun d =>
 qP Tryd.prog (gsem (asB d) true (xV (Instr.fieldAt 46 x3 7))) fun l =>
 qP Tryd.prog (gsem (asB d) true (xV (Instr.fieldAt 46 x4 7))) fun m =>
 qL Tryd.prog a (blk l) (gsem (asB d) true (xV (Instr.loadAt 44 l))) fun v =>
 qL Tryd.prog a (blk m) (gsem (asB d) true (xV (Instr.loadAt 44 m))) fun y =>
 qP Tryd.prog (gsem (asB d) true (xBin .eql 44 (.tmp 41) (.tmp 43) v y)) fun z =>
 qP Tryd.prog (xPick d z (Value.bool false)) fun b =>
 qP Tryd.prog (gsem (asB b) true (xV (Instr.fieldAt 46 x4 5))) fun f =>
 qP Tryd.prog (gsem (asB b) true (xV (Instr.fieldAt 46 x3 5))) fun n =>
 qL Tryd.prog a (blk f) (gsem (asB b) true (xV (Instr.loadAt 3 f))) fun aa =>
 qL Tryd.prog a (blk n) (gsem (asB b) true (xV (Instr.loadAt 3 n))) fun ab =>
 opK Tryd.prog E (gsem (asB b) true (xCall (Value.func (.func 40) #[] #[]) [ab])) a fun ac o =>
 keepX [(blk f)] a o (qP Tryd.prog (gsem (asB b) true (xBin .eql 3 (.tmp 48) (.tmp 51) aa ac)) fun ad =>
 qP Tryd.prog (xPick b ad (Value.bool false)) fun ae =>
 R ae o))
def F22 (x0 : Value) (w : World) (R : Value → World → Prop) (E : Pan) : Prop :=
 opK Tryd.prog E (xBuiltin .len #[28] 3 [false] [x0]) w fun d z =>
 opK Tryd.prog E (xBin .eql 3 (.tmp 6) (.const (Value.int .i64 0)) d (Value.int .i64 0)) z fun aa l =>
 xcond aa
 (R (Value.bool true) l)
 (opK Tryd.prog E (xBin .eql 3 (.tmp 6) (.const (Value.int .i64 1)) d (Value.int .i64 1)) l fun ab m =>
 xcond ab
 (opK Tryd.prog E (xV (Instr.indexAt 28 x0 (Value.int .i64 0))) m fun ac ad =>
 opK Tryd.prog E (xV (Instr.fieldAt 46 ac 2)) ad fun ae af =>
 opK Tryd.prog E (xV (Instr.loadAt 3 ae)) af fun ag ah =>
 opK Tryd.prog E (xBin .neq 3 (.tmp 14) (.const (Value.int .i64 12)) ag (Value.int .i64 12)) ah fun ai aj =>
 R ai aj)
 (opK Tryd.prog E (xBin .eql 3 (.tmp 6) (.const (Value.int .i64 2)) d (Value.int .i64 2)) m fun ak n =>
 xcond ak
 (xcut (fun o al => b2e (nth o 0) (nth o.tail 0) al R E) fun j1 =>
 dX n fun b =>
 qP Tryd.prog (xV (Instr.indexAt 28 x0 (Value.int .i64 0))) fun c =>
 qP Tryd.prog (xV (Instr.indexAt 28 x0 (Value.int .i64 1))) fun a =>
 qL Tryd.prog b (blk c) (xV (Instr.loadAt 46 c)) fun p =>
 qL Tryd.prog b (blk a) (xV (Instr.loadAt 46 a)) fun q =>
 (opK Tryd.prog E (xV (Instr.alloc 46 true (.tuple #[]))) b fun r e =>
 keepX [(blk a), (blk c)] b e (opK Tryd.prog E (xV (Instr.alloc 46 true (.tuple #[]))) e fun s f =>
 keepX [(blk a), (blk c)] e f (opK Tryd.prog E (xU (Instr.storeAt 46 r p)) f fun _ g =>
 keepX [(blk a)] f g (opK Tryd.prog E (xU (Instr.storeAt 46 s q)) g fun _ t =>
 keepX [] g t (j1 [r, s] t))))) ∧
 (opK Tryd.prog E (xV (Instr.alloc 46 true (.tuple #[]))) b fun u i =>
 keepX [(blk a), (blk c)] b i (opK Tryd.prog E (xV (Instr.alloc 46 true (.tuple #[]))) i fun v j =>
 keepX [(blk a), (blk c)] i j (opK Tryd.prog E (xU (Instr.storeAt 46 v p)) j fun _ k =>
 keepX [(blk a)] j k (opK Tryd.prog E (xU (Instr.storeAt 46 u q)) k fun _ y =>
 keepX [] k y (j1 [v, u] y))))))
 (R (Value.bool false) n)))
def h22 : Hint := (.seq .none (.seq (.seq .none (.block (.seq .none (.cond (.seq .none .none) (.seq .none (.cond (.seq .none .none) (.seq .none (.cond (.cut [3, 4] (.reg [(0, 262144, 1), (1, 524288, 262144), (2, 1048576, 524288), (0, 2097152, 1), (8, 4194304, 2097152), (16, 8388608, 4194304), (0, 8, 0), (0, 16, 0), (199, 0, 1048584), (511, 0, 8388624)] [36, 36, 32, 36, 36, 4, 36, 36, 32, 0] (.early 0 (.early 1 (.early 3 (.early 4 (.load 2 (.load 5 (.alt 6 (.step 7 (.step 8 (.step 9 .done))) (.step 7 (.step 6 (.step 8 (.step 9 .done)))))))))))) (.seq (.reg [(0, 16777216, 8), (1, 33554432, 16777216), (2, 67108864, 33554432), (4, 134217728, 67108864), (8, 268435456, 134217744), (24, 536870912, 402653184), (40, 1073741824, 671088640), (72, 2147483648, 1207959552), (136, 4294967296, 2147483648), (256, 8589934592, 4294967304), (768, 17179869184, 12884901888), (256, 34359738368, 4294967312), (2304, 68719476736, 38654705664), (5376, 137438953472, 90194313216), (8448, 274877906944, 141733920768), (16640, 549755813888, 274877906944), (32768, 1099511627776, 549755813896), (98304, 2199023255552, 1649267441664), (32768, 4398046511104, 549755813904), (294912, 8796093022208, 4947802324992), (688128, 17592186044416, 11544872091648), (1081344, 35184372088832, 18141941858304), (2129920, 70368744177664, 35184372088832), (4194304, 140737488355328, 70368744177680), (12582912, 281474976710656, 211106232532992), (4194304, 562949953421312, 70368744177672), (37748736, 1125899906842624, 633318697598976), (71303168, 2251799813685248, 1196268651020288), (155189248, 4503599627370496, 2603643534573568), (272629760, 9007199254740992, 4573968371548160), (1073741823, 4, 9007199254740992)] [84546594, 84546592, 84546594, 84546594, 84546594, 84546562, 84546594, 84546594, 84546594, 84546594, 84545570, 84546594, 84542498, 84546594, 84546594, 84546594, 84546594, 84415522, 84546594, 84022306, 84546594, 84546594, 84546594, 84546594, 67769378, 84546594, 17437730, 16777216, 84546594, 84546594, 84546594] (.early 0 (.load 1 (.early 2 (.early 3 (.early 4 (.load 5 (.early 6 (.early 7 (.early 8 (.early 9 (.early 11 (.load 10 (.load 12 (.early 13 (.early 14 (.early 15 (.early 16 (.early 18 (.load 17 (.load 19 (.early 20 (.early 21 (.early 22 (.early 23 (.early 25 (.load 24 (.load 26 (.step 27 (.early 28 (.early 29 (.early 30 .done)))))))))))))))))))))))))))))))) .none)) .none)))))))) (.seq .none .none)))
theorem b9O {x0 : Value} {w : World} {R : Value → World → Prop} {E : Pan} (h : F22 x0 w R E) : Cv Tryd.prog 22 #[x0] w R E := okF (args := [x0]) (h := h22) Tryd.func22 (by kernel_rfl) (by kernel_rfl) h
def b2f (x7 x9 : Value) (w : World) (R : Value → World → Prop) (_E : Pan) : Prop :=
 ∀ _τ : Fr, (R (Value.tuple #[x9, x7]) w)
def b5E (x5 x7 x9 x37 x38 x39 : Value) (w : World) (next2 : List Value → World → Prop) (j1 : List Value → World → Prop) (_R : Value → World → Prop) (E : Pan) : Prop :=
 opK Tryd.prog E (xBin .lss 3 (.tmp 39) (.tmp 38) x39 x38) w fun f b =>
 xcond f
 (opK Tryd.prog E (xV (Instr.indexAt 101 x37 x39)) b fun g i =>
 opK Tryd.prog E (xV (Instr.loadAt 106 g)) i fun j k =>
 opK Tryd.prog E (xV (Instr.alloc 106 true (.tuple #[]))) k fun a l =>
 opK Tryd.prog E (xU (Instr.storeAt 106 a j)) l fun _ m =>
 opK Tryd.prog E (xV (Instr.fieldAt 106 a 0)) m fun n o =>
 opK Tryd.prog E (xV (Instr.loadAt 9 n)) o fun p q =>
 opK Tryd.prog E (xV (Instr.lookup 57 x5 p false)) q fun c r =>
 opK Tryd.prog E (xV (Instr.fieldAt 106 a 1)) r fun s t =>
 opK Tryd.prog E (xV (Instr.loadAt 3 s)) t fun u v =>
 opK Tryd.prog E (xBin .eql 3 (.tmp 46) (.tmp 51) c u) v fun y d =>
 xcond y
 (opK Tryd.prog E (xBin .add 3 (.tmp 39) (.const (Value.int .i64 1)) x39 (Value.int .i64 1)) d fun z aa =>
 next2 [x7, x9, z] aa)
 (opK Tryd.prog E (xBin .eql 3 (.tmp 46) (.const (Value.int .i64 0)) c (Value.int .i64 0)) d fun ab e =>
 xcond ab
 (opK Tryd.prog E (xV (Instr.fieldAt 106 a 0)) e fun ac ad =>
 opK Tryd.prog E (xV (Instr.loadAt 9 ac)) ad fun ae af =>
 j1 [(Value.int .i64 63), ae] af)
 (opK Tryd.prog E (xV (Instr.fieldAt 106 a 0)) e fun ag ah =>
 opK Tryd.prog E (xV (Instr.loadAt 9 ag)) ah fun ai aj =>
 j1 [(Value.int .i64 64), ai] aj)))
 (j1 [x7, x9] b)
def F23 (x0 : Value) (w : World) (R : Value → World → Prop) (E : Pan) : Prop :=
 opK Tryd.prog E (xV (Instr.box 41 x0)) w fun a l =>
 opK Tryd.prog E (xV (Instr.loadAt 41 a)) l fun m n =>
 opK Tryd.prog E (xCall (Value.func (.func 41) #[] #[]) [m]) n fun e o =>
 opK Tryd.prog E (xBin .neq 31 (.tmp 14) (.const (Value.int .i64 0)) e (Value.int .i64 0)) o fun p f =>
 xcond p
 (R (Value.tuple #[(Value.string ⟨#[]⟩), e]) f)
 (opK Tryd.prog E (xV (Instr.fieldAt 41 a 0)) f fun q r =>
 opK Tryd.prog E (xV (Instr.loadAt 27 q)) r fun s t =>
 opK Tryd.prog E (xCall (Value.func (.func 42) #[] #[]) [s]) t fun b u =>
 opK Tryd.prog E (xV (Instr.extract b 0)) u fun v y =>
 opK Tryd.prog E (xV (Instr.extract b 1)) y fun z aa =>
 opK Tryd.prog E (xV (Instr.extract b 2)) aa fun c ab =>
 opK Tryd.prog E (xBin .neq 31 (.tmp 24) (.const (Value.int .i64 0)) c (Value.int .i64 0)) ab fun ac g =>
 xcond ac
 (R (Value.tuple #[z, c]) g)
 (opK Tryd.prog E (xV (Instr.build 103 #[])) g fun ad ae =>
 opK Tryd.prog E (xV (Instr.box 103 ad)) ae fun i af =>
 opK Tryd.prog E (xV (Instr.fieldAt 41 a 1)) af fun ag ah =>
 opK Tryd.prog E (xV (Instr.loadAt 37 ag)) ah fun ai aj =>
 opK Tryd.prog E (xCall (Value.func (.func 43) #[] #[]) [i, ai]) aj fun _t33_31 ak =>
 xcut (fun j al => b2f (nth j 0) (nth j.tail 0) al R E) fun j1 =>
 opK Tryd.prog E (xNil i) ak fun am an =>
 opK Tryd.prog E (xV (Instr.fieldAt 103 am 0)) an fun ao ap =>
 opK Tryd.prog E (xV (Instr.loadAt 101 ao)) ap fun k aq =>
 opK Tryd.prog E (xBuiltin .len #[101] 3 [false] [k]) aq fun ar au =>
 xloop [7, 9, 39] [c, (Value.string ⟨#[]⟩), (Value.int .i64 0)] au fun d av next2 =>
 b5E v (d 7) (d 9) k ar (d 39) av next2 j1 R E))
def h23 : Hint := (.seq .none (.scope (.seq (.seq .none (.seq .none (.cond (.seq .none .none) .none))) (.seq .none (.seq (.seq .none (.cond (.seq .none .none) .none)) (.seq .none (.seq .none (.seq .none (.seq .none (.cut [7, 9] (.seq .none (.block (.loop [7, 9, 39] (.seq .none (.seq (.cond .none .none) (.seq (.block (.seq .none (.seq .none (.block (.seq .none (.cond .none (.seq .none (.cond (.seq .none .none) (.seq .none .none))))))))) .none)))))) (.seq .none .none)))))))))))
theorem b9P {x0 : Value} {w : World} {R : Value → World → Prop} {E : Pan} (h : F23 x0 w R E) : Cv Tryd.prog 23 #[x0] w R E := okF (args := [x0]) (h := h23) Tryd.func23 (by kernel_rfl) (by kernel_rfl) h
def b5F (x0 x5 : Value) (w : World) (R : Value → World → Prop) (E : Pan) : Prop :=
 ∀ _τ : Fr, (opK Tryd.prog E (xV (Instr.sliceAt 27 x0 (some x5) none none)) w fun a b =>
 opK Tryd.prog E (xBuiltin .clear #[27] 0 [false] [a]) b fun _ c =>
 opK Tryd.prog E (xV (Instr.sliceAt 27 x0 none (some x5) none)) c fun d e =>
 R d e)
def b2g (_x0 _x1 x5 x6 : Value) (w : World) (next2 : List Value → World → Prop) (_R : Value → World → Prop) (E : Pan) : Prop :=
 ∀ _τ : Fr, (opK Tryd.prog E (xBin .add 3 (.tmp 20) (.const (Value.int .i64 1)) x6 (Value.int .i64 1)) w fun a b =>
 next2 [x5, a] b)
def b5G (x0 x1 x5 x6 : Value) (w : World) (next2 : List Value → World → Prop) (j1 : List Value → World → Prop) (R : Value → World → Prop) (E : Pan) : Prop :=
 opK Tryd.prog E (xBuiltin .len #[27] 3 [false] [x0]) w fun d e =>
 opK Tryd.prog E (xBin .lss 3 (.tmp 16) (.tmp 18) x6 d) e fun f b =>
 xcond f
 (xcut (fun g i => b2g x0 x1 (nth g 0) x6 i next2 R E) fun j3 =>
 opK Tryd.prog E (xV (Instr.indexAt 27 x0 x6)) b fun j k =>
 opK Tryd.prog E (xV (Instr.loadAt 35 j)) k fun l m =>
 opK Tryd.prog E (xV (Instr.alloc 35 true (.tuple #[]))) m fun a n =>
 opK Tryd.prog E (xU (Instr.storeAt 35 a l)) n fun _ o =>
 opK Tryd.prog E (xV (Instr.loadAt 35 a)) o fun p q =>
 opK Tryd.prog E (xCall x1 [p]) q fun r s =>
 opK Tryd.prog E (xV (Op.unary .not r)) s fun t c =>
 xcond t
 (opK Tryd.prog E (xV (Instr.loadAt 35 a)) c fun u v =>
 opK Tryd.prog E (xV (Instr.indexAt 27 x0 x5)) v fun y z =>
 opK Tryd.prog E (xU (Instr.storeAt 35 y u)) z fun _ aa =>
 opK Tryd.prog E (xBin .add 3 (.tmp 34) (.const (Value.int .i64 1)) x5 (Value.int .i64 1)) aa fun ab ac =>
 j3 [ab] ac)
 (j3 [x5] c))
 (j1 [x5] b)
def F24 (x0 x1 : Value) (w : World) (R : Value → World → Prop) (E : Pan) : Prop :=
 opK Tryd.prog E (xCall (Value.func (.func 44) #[] #[]) [x0, x1]) w fun a d =>
 opK Tryd.prog E (xBin .eql 3 (.tmp 11) (.const (Value.int .i64 (-1))) a (Value.int .i64 (-1))) d fun e b =>
 xcond e
 (R x0 b)
 (xcut (fun f g => b5F x0 (nth f 0) g R E) fun j1 =>
 opK Tryd.prog E (xBin .add 3 (.tmp 14) (.const (Value.int .i64 1)) a (Value.int .i64 1)) b fun i j =>
 xloop [5, 6] [a, i] j fun c k next2 =>
 b5G x0 x1 (c 5) (c 6) k next2 j1 R E)
def h24 : Hint := (.seq .none (.seq .none (.seq (.seq .none (.cond (.seq .none .none) .none)) (.cut [5] (.seq .none (.block (.loop [5, 6] (.seq (.seq .none (.cond .none .none)) (.cut [5] (.block (.seq .none (.seq .none (.cond (.seq .none .none) .none)))) .none))))) (.seq .none (.seq .none .none))))))
theorem b9Q {x0 x1 : Value} {w : World} {R : Value → World → Prop} {E : Pan} (h : F24 x0 x1 w R E) : Cv Tryd.prog 24 #[x0, x1] w R E := okF (args := [x0, x1]) (h := h24) Tryd.func24 (by kernel_rfl) (by kernel_rfl) h
def F25 (x0 : Value) (w : World) (R : Value → World → Prop) (E : Pan) : Prop :=
 opK Tryd.prog E (xBin .eql 27 (.tmp 3) (.const (Value.slice none 0 0)) x0 (Value.slice none 0 0)) w fun b a =>
 xcond b
 (R (Value.slice none 0 0) a)
 (opK Tryd.prog E (xV (Instr.buildSlice 27 0 #[])) a fun c d =>
 opK Tryd.prog E (xBuiltin .append #[27, 27] 27 [false, false] [c, x0]) d fun e f =>
 R e f)
def h25 : Hint := (.seq .none (.seq (.seq .none (.cond (.seq .none .none) .none)) (.seq .none .none)))
theorem b9R {x0 : Value} {w : World} {R : Value → World → Prop} {E : Pan} (h : F25 x0 w R E) : Cv Tryd.prog 25 #[x0] w R E := okF (args := [x0]) (h := h25) Tryd.func25 (by kernel_rfl) (by kernel_rfl) h
def F26 (x0 x1 : Value) (w : World) (R : Value → World → Prop) (E : Pan) : Prop :=
 opK Tryd.prog E (xV (Instr.box 35 x0)) w fun b d =>
 dX d fun a =>
 qL Tryd.prog a (blk b) (xV (Instr.loadAt 35 b)) fun e =>
 qL Tryd.prog a (blk x1) (xV (Instr.loadAt 3 x1)) fun f =>
 opK Tryd.prog E (xCall (Value.func (.func 27) #[] #[]) [e]) a fun g c =>
 keepX [(blk x1)] a c (qP Tryd.prog (xBin .neq 3 (.tmp 5) (.tmp 6) g f) fun i =>
 R i c)
def h26 : Hint := (.seq .none (.seq (.reg [(0, 16, 4), (1, 32, 16), (0, 64, 2), (6, 128, 96), (15, 8, 128)] [4, 4, 1, 5, 5] (.load 0 (.load 2 (.step 1 (.early 3 (.early 4 .done)))))) .none))
theorem b9S {x0 x1 : Value} {w : World} {R : Value → World → Prop} {E : Pan} (h : F26 x0 x1 w R E) : Cv Tryd.prog 26 #[x0, x1] w R E := okF (args := [x0, x1]) (h := h26) Tryd.func26 (by kernel_rfl) (by kernel_rfl) h
def F27 (x0 : Value) (w : World) (R : Value → World → Prop) (E : Pan) : Prop :=
 opK Tryd.prog E (xV (Instr.box 35 x0)) w fun b c =>
 opK Tryd.prog E (xV (Instr.fieldAt 35 b 1)) c fun d e =>
 opK Tryd.prog E (xV (Instr.loadAt 3 d)) e fun f g =>
 opK Tryd.prog E (xBin .gtr 3 (.tmp 4) (.const (Value.int .i64 0)) f (Value.int .i64 0)) g fun i a =>
 xcond i
 (R (Value.int .i64 2) a)
 (R (Value.int .i64 1) a)
def h27 : Hint := (.seq .none (.seq (.seq .none (.cond (.seq .none .none) .none)) (.seq .none .none)))
theorem b9T {x0 : Value} {w : World} {R : Value → World → Prop} {E : Pan} (h : F27 x0 w R E) : Cv Tryd.prog 27 #[x0] w R E := okF (args := [x0]) (h := h27) Tryd.func27 (by kernel_rfl) (by kernel_rfl) h
def F28 (x0 x1 x2 x3 x4 : Value) (w : World) (R : Value → World → Prop) (E : Pan) : Prop :=
 opK Tryd.prog E (xV (Instr.box 25 x2)) w fun e j =>
 opK Tryd.prog E (xV (Instr.loadAt 25 e)) j fun k l =>
 opK Tryd.prog E (xCall (Value.func (.func 45) #[] #[]) [x0, k]) l fun f m =>
 opK Tryd.prog E (xV (Instr.extract f 0)) m fun n o =>
 opK Tryd.prog E (xV (Instr.extract f 1)) o fun p q =>
 opK Tryd.prog E (xV (Instr.alloc 44 true (.tuple #[]))) q fun a r =>
 opK Tryd.prog E (xU (Instr.storeAt 44 a n)) r fun _ s =>
 opK Tryd.prog E (xV (Op.unary .not p)) s fun t g =>
 xcond t
 (opK Tryd.prog E (xV (Instr.loadAt 25 e)) g fun u v =>
 opK Tryd.prog E (xCall (Value.func (.func 46) #[] #[]) [x0, u, x1, x3, x4, (Value.int .i64 0)]) v fun _t26_19 y =>
 R (Value.tuple #[]) y)
 (opK Tryd.prog E (xCall (Value.func (.func 29) #[] #[]) [x3, x4, (Value.int .i64 2)]) g fun z aa =>
 opK Tryd.prog E (xV (Instr.alloc 46 true (.tuple #[]))) aa fun b ab =>
 opK Tryd.prog E (xU (Instr.storeAt 46 b z)) ab fun _ ac =>
 dX ac fun c =>
 qP Tryd.prog (xV (Instr.fieldAt 46 b 3)) fun ad =>
 qL Tryd.prog c (blk a) (xV (Instr.loadAt 44 a)) fun ae =>
 opK Tryd.prog E (xU (Instr.storeAt 3 ad x1)) c fun _ d =>
 keepX [(blk a)] c d (qP Tryd.prog (xV (Instr.fieldAt 46 b 6)) fun af =>
 opK Tryd.prog E (xU (Instr.storeAt 44 af ae)) d fun _ i =>
 keepX [] d i (opK Tryd.prog E (xV (Instr.loadAt 46 b)) i fun ag ah =>
 opK Tryd.prog E (xCall (Value.func (.func 31) #[] #[]) [x0, ag]) ah fun _t36_37 ai =>
 R (Value.tuple #[]) ai)))
def h28 : Hint := (.seq .none (.seq .none (.seq (.seq .none (.cond (.seq .none .none) .none)) (.seq .none (.seq (.reg [(0, 1073741824, 2), (0, 2147483648, 1024), (1, 4294967296, 4096), (5, 0, 5368709120), (15, 8589934592, 4096), (31, 0, 10737418240)] [2, 0, 2, 2, 2, 0] (.early 0 (.early 2 (.load 1 (.step 3 (.early 4 (.step 5 .done))))))) .none)))))
theorem b9U {x0 x1 x2 x3 x4 : Value} {w : World} {R : Value → World → Prop} {E : Pan} (h : F28 x0 x1 x2 x3 x4 w R E) : Cv Tryd.prog 28 #[x0, x1, x2, x3, x4] w R E := okF (args := [x0, x1, x2, x3, x4]) (h := h28) Tryd.func28 (by kernel_rfl) (by kernel_rfl) h
def F29 (x0 x1 x2 : Value) (w : World) (R : Value → World → Prop) (E : Pan) : Prop :=
 opK Tryd.prog E (xV (Instr.alloc 46 true (.tuple #[]))) w fun a c =>
 opK Tryd.prog E (xCall (Value.func (.func 39) #[] #[]) []) c fun d e =>
 opK Tryd.prog E (xCall (Value.func (.func 39) #[] #[]) []) e fun f g =>
 opK Tryd.prog E (xV (Instr.build 46 #[(0, x0), (1, x1), (2, x2), (3, (Value.int .i64 (-1))), (4, (Value.int .i64 (-1))), (6, d), (7, f)])) g fun i j =>
 opK Tryd.prog E (xU (Instr.storeAt 46 a i)) j fun _ b =>
 xcell Tryd.prog 46 a b fun k =>
 R k b
def h29 : Hint := (.seq .none (.seq .none .none))
theorem b9V {x0 x1 x2 : Value} {w : World} {R : Value → World → Prop} {E : Pan} (h : F29 x0 x1 x2 w R E) : Cv Tryd.prog 29 #[x0, x1, x2] w R E := okF (args := [x0, x1, x2]) (h := h29) Tryd.func29 (by kernel_rfl) (by kernel_rfl) h
def F30 (x0 x1 x2 x3 : Value) (w : World) (R : Value → World → Prop) (E : Pan) : Prop :=
 opK Tryd.prog E (xV (Instr.alloc 44 true (.tuple #[]))) w fun a n =>
 opK Tryd.prog E (xV (Instr.alloc 44 true (.tuple #[]))) n fun b o =>
 opK Tryd.prog E (xV (Instr.indexAt 23 x1 (Value.int .i64 0))) o fun p q =>
 opK Tryd.prog E (xV (Instr.loadAt 25 p)) q fun r s =>
 opK Tryd.prog E (xCall (Value.func (.func 47) #[] #[]) [x0, r, x2, x3]) s fun k t =>
 opK Tryd.prog E (xV (Instr.extract k 0)) t fun u v =>
 opK Tryd.prog E (xV (Instr.extract k 1)) v fun y z =>
 opK Tryd.prog E (xU (Instr.storeAt 44 a u)) z fun _ aa =>
 dX aa fun c =>
 qP Tryd.prog (xV (Instr.indexAt 23 x1 (Value.int .i64 1))) fun f =>
 qL Tryd.prog c (blk f) (xV (Instr.loadAt 25 f)) fun ab =>
 qL Tryd.prog c (blk a) (xV (Instr.loadAt 44 a)) fun ac =>
 opK Tryd.prog E (xCall (Value.func (.func 48) #[] #[]) [x0, ac, x3]) c fun ad g =>
 keepX [(blk f)] c g (opK Tryd.prog E (xCall (Value.func (.func 47) #[] #[]) [x0, ab, y, ad]) g fun l i =>
 keepX [] g i (qP Tryd.prog (xV (Instr.extract l 0)) fun ae =>
 qP Tryd.prog (xV (Instr.extract l 1)) fun af =>
 opK Tryd.prog E (xU (Instr.storeAt 44 b ae)) i fun _ m =>
 keepX [] i m (dX m fun d =>
 qL Tryd.prog d (blk a) (xV (Instr.loadAt 44 a)) fun ag =>
 qL Tryd.prog d (blk b) (xV (Instr.loadAt 44 b)) fun ah =>
 opK Tryd.prog E (xU (Instr.storeAt 44 a ag)) d fun _ j =>
 keepX [(blk b)] d j (opK Tryd.prog E (xU (Instr.storeAt 44 b ah)) j fun _ e =>
 keepX [] j e (xcell Tryd.prog 44 a e fun ai =>
 xcell Tryd.prog 44 b e fun aj =>
 R (Value.tuple #[ai, aj, af]) e)))))
def h30 : Hint := (.seq .none (.seq .none (.seq (.reg [(0, 4194304, 1), (0, 8388608, 2), (2, 16777216, 8388608), (4, 33554432, 16777216), (0, 67108864, 1024), (0, 134217728, 1), (0, 268435456, 256), (0, 536870912, 8), (224, 1073741824, 939524096), (281, 2147483648, 1178599424), (512, 2097152, 2147483648), (1024, 4294967296, 2097152), (1024, 8589934592, 2097152), (4095, 0, 4294967808), (16383, 1024, 8589934592)] [72, 72, 72, 64, 72, 72, 8, 72, 8, 0, 72, 72, 72, 0, 72] (.early 0 (.early 1 (.early 2 (.early 4 (.early 5 (.early 7 (.load 3 (.load 6 (.step 8 (.step 9 (.early 10 (.early 11 (.early 12 (.step 13 (.early 14 .done)))))))))))))))) (.seq (.reg [(0, 17179869184, 256), (0, 34359738368, 512), (0, 68719476736, 1024), (1, 0, 17179869440), (11, 0, 34359738880), (31, 1024, 68719476736)] [2, 1, 3, 2, 0, 3] (.early 2 (.load 0 (.load 1 (.step 3 (.step 4 (.early 5 .done))))))) .none))))
theorem b9W {x0 x1 x2 x3 : Value} {w : World} {R : Value → World → Prop} {E : Pan} (h : F30 x0 x1 x2 x3 w R E) : Cv Tryd.prog 30 #[x0, x1, x2, x3] w R E := okF (args := [x0, x1, x2, x3]) (h := h30) Tryd.func30 (by kernel_rfl) (by kernel_rfl) h
def F31 (x0 x1 : Value) (w : World) (R : Value → World → Prop) (E : Pan) : Prop :=
 opK Tryd.prog E (xV (Instr.box 46 x1)) w fun e g =>
 dX g fun a =>
 qP Tryd.prog (xNil x0) fun i =>
 qP Tryd.prog (xV (Instr.fieldAt 59 i 0)) fun j =>
 qP Tryd.prog (xV (Instr.fieldAt 30 j 5)) fun b =>
 qL Tryd.prog a (blk b) (xV (Instr.loadAt 28 b)) fun k =>
 qL Tryd.prog a (blk e) (xV (Instr.loadAt 46 e)) fun l =>
 opK Tryd.prog E (xV (Instr.buildSlice 28 1 #[(0, l)])) a fun m c =>
 keepX [(blk b)] a c (opK Tryd.prog E (xBuiltin .append #[28, 28] 28 [false, false] [k, m]) c fun n d =>
 keepX [] c d (qP Tryd.prog (xNil x0) fun o =>
 qP Tryd.prog (xV (Instr.fieldAt 59 o 0)) fun p =>
 qP Tryd.prog (xV (Instr.fieldAt 30 p 5)) fun q =>
 opK Tryd.prog E (xU (Instr.storeAt 28 q n)) d fun _ f =>
 keepX [] d f (R (Value.tuple #[]) f)))
def h31 : Hint := (.seq .none (.reg [(0, 16, 1), (0, 32, 1), (2, 64, 32), (4, 128, 64), (8, 256, 128), (16, 512, 256), (0, 1024, 8), (64, 2048, 1024), (160, 4096, 2560), (511, 8192, 16), (1023, 16384, 8192), (1535, 32768, 16384), (2559, 0, 36864)] [96, 96, 96, 96, 96, 64, 32, 32, 0, 96, 96, 96, 0] (.early 0 (.early 1 (.early 2 (.early 3 (.early 4 (.load 5 (.load 6 (.step 7 (.step 8 (.early 9 (.early 10 (.early 11 (.step 12 .done)))))))))))))))
theorem b9X {x0 x1 : Value} {w : World} {R : Value → World → Prop} {E : Pan} (h : F31 x0 x1 w R E) : Cv Tryd.prog 31 #[x0, x1] w R E := okF (args := [x0, x1]) (h := h31) Tryd.func31 (by kernel_rfl) (by kernel_rfl) h
def F32 (x0 x1 x2 : Value) (w : World) (R : Value → World → Prop) (E : Pan) : Prop :=
 opK Tryd.prog E (xBuiltin .len #[37] 3 [false] [x1]) w fun b c =>
 opK Tryd.prog E (xBin .eql 3 (.tmp 8) (.const (Value.int .i64 0)) b (Value.int .i64 0)) c fun d a =>
 xcond d
 (R x2 a)
 (opK Tryd.prog E (xCall (Value.func (.func 12) #[] #[]) [x0]) a fun e f =>
 R e f)
def h32 : Hint := (.seq .none (.seq (.seq .none (.cond (.seq .none .none) .none)) (.seq .none .none)))
theorem b9Y {x0 x1 x2 : Value} {w : World} {R : Value → World → Prop} {E : Pan} (h : F32 x0 x1 x2 w R E) : Cv Tryd.prog 32 #[x0, x1, x2] w R E := okF (args := [x0, x1, x2]) (h := h32) Tryd.func32 (by kernel_rfl) (by kernel_rfl) h
def F33 (x0 x1 x2 x3 x4 : Value) (w : World) (R : Value → World → Prop) (E : Pan) : Prop :=
 opK Tryd.prog E (xV (Instr.box 89 x1)) w fun a t =>
 opK Tryd.prog E (xV (Instr.fieldAt 89 a 0)) t fun u v =>
 opK Tryd.prog E (xV (Instr.loadAt 3 u)) v fun c y =>
 opK Tryd.prog E (xBin .eql 3 (.tmp 17) (.const (Value.int .i64 1)) c (Value.int .i64 1)) y fun z k =>
 xcond z
 (opK Tryd.prog E (xCall (Value.func (.func 29) #[] #[]) [x2, x3, (Value.int .i64 1)]) k fun aa ab =>
 opK Tryd.prog E (xCall (Value.func (.func 31) #[] #[]) [x0, aa]) ab fun _t55_11 ac =>
 R (Value.tuple #[]) ac)
 (opK Tryd.prog E (xBin .eql 3 (.tmp 17) (.const (Value.int .i64 2)) c (Value.int .i64 2)) k fun ad l =>
 xcond ad
 (opK Tryd.prog E (xCall (Value.func (.func 29) #[] #[]) [x2, x4, (Value.int .i64 1)]) l fun ae af =>
 opK Tryd.prog E (xCall (Value.func (.func 31) #[] #[]) [x0, ae]) af fun _t62_17 ag =>
 R (Value.tuple #[]) ag)
 (opK Tryd.prog E (xBin .eql 3 (.tmp 17) (.const (Value.int .i64 4)) c (Value.int .i64 4)) l fun ah m =>
 xcond ah
 (opK Tryd.prog E (xV (Instr.fieldAt 89 a 3)) m fun ai aj =>
 opK Tryd.prog E (xV (Instr.loadAt 36 ai)) aj fun ak al =>
 opK Tryd.prog E (xV (Instr.indexAt 36 ak (Value.int .i64 0))) al fun am an =>
 opK Tryd.prog E (xV (Instr.loadAt 89 am)) an fun ao ap =>
 opK Tryd.prog E (xCall (Value.func (.func 33) #[] #[]) [x0, ao, x2, x4, x3]) ap fun _t73_29 aq =>
 R (Value.tuple #[]) aq)
 (opK Tryd.prog E (xBin .eql 3 (.tmp 17) (.const (Value.int .i64 5)) c (Value.int .i64 5)) m fun ar n =>
 xcond ar
 (opK Tryd.prog E (xCall (Value.func (.func 12) #[] #[]) [x0]) n fun o au =>
 opK Tryd.prog E (xV (Instr.fieldAt 89 a 3)) au fun av aw =>
 opK Tryd.prog E (xV (Instr.loadAt 36 av)) aw fun ax ay =>
 opK Tryd.prog E (xV (Instr.indexAt 36 ax (Value.int .i64 0))) ay fun az ba =>
 opK Tryd.prog E (xV (Instr.loadAt 89 az)) ba fun bb bc =>
 opK Tryd.prog E (xCall (Value.func (.func 33) #[] #[]) [x0, bb, x2, o, x4]) bc fun _t86_43 bd =>
 opK Tryd.prog E (xV (Instr.fieldAt 89 a 3)) bd fun be bf =>
 opK Tryd.prog E (xV (Instr.loadAt 36 be)) bf fun bg bh =>
 opK Tryd.prog E (xV (Instr.indexAt 36 bg (Value.int .i64 1))) bh fun bi bj =>
 opK Tryd.prog E (xV (Instr.loadAt 89 bi)) bj fun bk bl =>
 opK Tryd.prog E (xCall (Value.func (.func 33) #[] #[]) [x0, bk, o, x3, x4]) bl fun _t95_53 bm =>
 R (Value.tuple #[]) bm)
 (opK Tryd.prog E (xBin .eql 3 (.tmp 17) (.const (Value.int .i64 6)) c (Value.int .i64 6)) n fun bn p =>
 xcond bn
 (opK Tryd.prog E (xCall (Value.func (.func 12) #[] #[]) [x0]) p fun q bo =>
 opK Tryd.prog E (xV (Instr.fieldAt 89 a 3)) bo fun bp bq =>
 opK Tryd.prog E (xV (Instr.loadAt 36 bp)) bq fun br bs =>
 opK Tryd.prog E (xV (Instr.indexAt 36 br (Value.int .i64 0))) bs fun bt bu =>
 opK Tryd.prog E (xV (Instr.loadAt 89 bt)) bu fun bv bw =>
 opK Tryd.prog E (xCall (Value.func (.func 33) #[] #[]) [x0, bv, x2, x3, q]) bw fun _t108_67 bz =>
 opK Tryd.prog E (xV (Instr.fieldAt 89 a 3)) bz fun ca cb =>
 opK Tryd.prog E (xV (Instr.loadAt 36 ca)) cb fun cc cd =>
 opK Tryd.prog E (xV (Instr.indexAt 36 cc (Value.int .i64 1))) cd fun ce cf =>
 opK Tryd.prog E (xV (Instr.loadAt 89 ce)) cf fun cg ch =>
 opK Tryd.prog E (xCall (Value.func (.func 33) #[] #[]) [x0, cg, q, x3, x4]) ch fun _t117_77 ci =>
 R (Value.tuple #[]) ci)
 (opK Tryd.prog E (xV (Instr.fieldAt 89 a 2)) p fun cj ck =>
 opK Tryd.prog E (xV (Instr.loadAt 23 cj)) ck fun cl cm =>
 opK Tryd.prog E (xCall (Value.func (.func 30) #[] #[]) [x0, cl, x2, (Value.int .i64 0)]) cm fun g cn =>
 opK Tryd.prog E (xV (Instr.extract g 0)) cn fun co cp =>
 opK Tryd.prog E (xV (Instr.extract g 1)) cp fun cq cr =>
 opK Tryd.prog E (xV (Instr.extract g 2)) cr fun cs ct =>
 opK Tryd.prog E (xV (Instr.alloc 44 true (.tuple #[]))) ct fun f cu =>
 opK Tryd.prog E (xV (Instr.alloc 44 true (.tuple #[]))) cu fun d cv =>
 opK Tryd.prog E (xU (Instr.storeAt 44 f co)) cv fun _ cw =>
 opK Tryd.prog E (xU (Instr.storeAt 44 d cq)) cw fun _ cx =>
 opK Tryd.prog E (xCall (Value.func (.func 29) #[] #[]) [cs, x3, (Value.int .i64 12)]) cx fun cy cz =>
 opK Tryd.prog E (xV (Instr.alloc 46 true (.tuple #[]))) cz fun b da =>
 opK Tryd.prog E (xU (Instr.storeAt 46 b cy)) da fun _ db =>
 dX db fun e =>
 qP Tryd.prog (xV (Instr.fieldAt 89 a 1)) fun r =>
 qL Tryd.prog e (blk r) (xV (Instr.loadAt 3 r)) fun dc =>
 qP Tryd.prog (xV (Instr.fieldAt 46 b 5)) fun dd =>
 qL Tryd.prog e (blk f) (xV (Instr.loadAt 44 f)) fun de =>
 qL Tryd.prog e (blk d) (xV (Instr.loadAt 44 d)) fun df =>
 opK Tryd.prog E (xU (Instr.storeAt 3 dd dc)) e fun _ i =>
 keepX [(blk d), (blk f)] e i (qP Tryd.prog (xV (Instr.fieldAt 46 b 6)) fun dg =>
 opK Tryd.prog E (xU (Instr.storeAt 44 dg de)) i fun _ j =>
 keepX [(blk d)] i j (qP Tryd.prog (xV (Instr.fieldAt 46 b 7)) fun dh =>
 opK Tryd.prog E (xU (Instr.storeAt 44 dh df)) j fun _ s =>
 keepX [] j s (opK Tryd.prog E (xV (Instr.loadAt 46 b)) s fun di dj =>
 opK Tryd.prog E (xCall (Value.func (.func 31) #[] #[]) [x0, di]) dj fun _t39_121 dk =>
 opK Tryd.prog E (xV (Instr.fieldAt 89 a 1)) dk fun dl dm =>
 opK Tryd.prog E (xV (Instr.loadAt 3 dl)) dm fun dn dp =>
 opK Tryd.prog E (xCall (Value.func (.func 40) #[] #[]) [dn]) dp fun dq dr =>
 opK Tryd.prog E (xV (Instr.fieldAt 46 b 1)) dr fun ds dt =>
 opK Tryd.prog E (xU (Instr.storeAt 3 ds x4)) dt fun _ du =>
 opK Tryd.prog E (xV (Instr.fieldAt 46 b 5)) du fun dv dw =>
 opK Tryd.prog E (xU (Instr.storeAt 3 dv dq)) dw fun _ dx =>
 opK Tryd.prog E (xV (Instr.loadAt 46 b)) dx fun dy dz =>
 opK Tryd.prog E (xCall (Value.func (.func 31) #[] #[]) [x0, dy]) dz fun _t48_139 ea =>
 R (Value.tuple #[]) ea))))))))
def h33 : Hint := (.seq .none (.seq .none (.block (.seq .none (.cond .none (.seq .none (.cond .none (.seq .none (.cond .none (.seq .none (.cond (.seq .none (.seq .none .none)) (.seq .none (.cond (.seq .none (.seq .none .none)) (.seq .none (.seq .none (.seq (.reg [(0, 1073741824, 64), (1, 2147483648, 1073741824), (0, 4294967296, 4096), (0, 8589934592, 8192), (3, 17179869184, 32768), (19, 0, 19327352832), (55, 34359738368, 32768), (119, 0, 38654705664), (255, 68719476736, 32768), (511, 0, 77309411328)] [14, 12, 10, 6, 14, 12, 14, 8, 14, 0] (.early 0 (.load 1 (.early 4 (.load 2 (.load 3 (.step 5 (.early 6 (.step 7 (.early 8 (.step 9 .done))))))))))) (.seq .none (.seq .none .none))))))))))))))))))
theorem b9Z {x0 x1 x2 x3 x4 : Value} {w : World} {R : Value → World → Prop} {E : Pan} (h : F33 x0 x1 x2 x3 x4 w R E) : Cv Tryd.prog 33 #[x0, x1, x2, x3, x4] w R E := okF (args := [x0, x1, x2, x3, x4]) (h := h33) Tryd.func33 (by kernel_rfl) (by kernel_rfl) h
def b2h (x2 x3 : Value) (w : World) (R : Value → World → Prop) (E : Pan) : Prop :=
 ∀ _τ : Fr, (opK Tryd.prog E (xV (Instr.loadAt 91 x3)) w fun b c =>
 opK Tryd.prog E (xU (Instr.storeAt 91 x2 b)) c fun _ a =>
 xcell Tryd.prog 91 x2 a fun d =>
 R d a)
def b2i (x2 x3 x5 x11 : Value) (w : World) (j1 : List Value → World → Prop) (R : Value → World → Prop) (E : Pan) : Prop :=
 ∀ _τ : Fr, (xcond x11
 (opK Tryd.prog E (xV (Instr.fieldAt 91 x3 0)) w fun g i =>
 opK Tryd.prog E (xU (Instr.storeAt 4 g (Value.bool true))) i fun _ j =>
 opK Tryd.prog E (xV (Instr.fieldAt 91 x3 4)) j fun k l =>
 opK Tryd.prog E (xU (Instr.storeAt 4 k (Value.bool true))) l fun _ m =>
 j1 [] m)
 (opK Tryd.prog E (xBin .eql 3 (.tmp 5) (.const (Value.int .i64 9)) x5 (Value.int .i64 9)) w fun n a =>
 xcond n
 (opK Tryd.prog E (xV (Instr.build 91 #[(0, (Value.bool true))])) a fun o p =>
 opK Tryd.prog E (xU (Instr.storeAt 91 x2 o)) p fun _ b =>
 xcell Tryd.prog 91 x2 b fun q =>
 R q b)
 (opK Tryd.prog E (xBin .eql 3 (.tmp 5) (.const (Value.int .i64 10)) x5 (Value.int .i64 10)) a fun r c =>
 xcond r
 (opK Tryd.prog E (xV (Instr.fieldAt 91 x3 0)) c fun s t =>
 opK Tryd.prog E (xU (Instr.storeAt 4 s (Value.bool true))) t fun _ u =>
 opK Tryd.prog E (xV (Instr.fieldAt 91 x3 1)) u fun v y =>
 opK Tryd.prog E (xU (Instr.storeAt 4 v (Value.bool true))) y fun _ z =>
 j1 [] z)
 (opK Tryd.prog E (xBin .eql 3 (.tmp 5) (.const (Value.int .i64 11)) x5 (Value.int .i64 11)) c fun aa d =>
 xcond aa
 (opK Tryd.prog E (xV (Instr.fieldAt 91 x3 1)) d fun ab ac =>
 opK Tryd.prog E (xU (Instr.storeAt 4 ab (Value.bool true))) ac fun _ ad =>
 opK Tryd.prog E (xV (Instr.fieldAt 91 x3 4)) ad fun ae af =>
 opK Tryd.prog E (xU (Instr.storeAt 4 ae (Value.bool true))) af fun _ ag =>
 j1 [] ag)
 (opK Tryd.prog E (xBin .eql 3 (.tmp 5) (.const (Value.int .i64 12)) x5 (Value.int .i64 12)) d fun ah e =>
 xcond ah
 (opK Tryd.prog E (xV (Instr.fieldAt 91 x3 2)) e fun ai aj =>
 opK Tryd.prog E (xU (Instr.storeAt 4 ai (Value.bool true))) aj fun _ ak =>
 opK Tryd.prog E (xV (Instr.fieldAt 91 x3 4)) ak fun al am =>
 opK Tryd.prog E (xU (Instr.storeAt 4 al (Value.bool true))) am fun _ an =>
 j1 [] an)
 (opK Tryd.prog E (xV (Instr.build 91 #[])) e fun ao ap =>
 opK Tryd.prog E (xU (Instr.storeAt 91 x2 ao)) ap fun _ f =>
 xcell Tryd.prog 91 x2 f fun aq =>
 R aq f))))))
def b2j (x2 x3 x5 x7 : Value) (w : World) (j1 : List Value → World → Prop) (R : Value → World → Prop) (E : Pan) : Prop :=
 ∀ _τ : Fr, (xcond x7
 (opK Tryd.prog E (xV (Instr.fieldAt 91 x3 0)) w fun j k =>
 opK Tryd.prog E (xU (Instr.storeAt 4 j (Value.bool true))) k fun _ l =>
 j1 [] l)
 (xcut (fun m n => b2i x2 x3 x5 (nth m 0) n j1 R E) fun j3 =>
 opK Tryd.prog E (xBin .eql 3 (.tmp 5) (.const (Value.int .i64 4)) x5 (Value.int .i64 4)) w fun a b =>
 xcond a
 (j3 [a] b)
 (opK Tryd.prog E (xBin .eql 3 (.tmp 5) (.const (Value.int .i64 5)) x5 (Value.int .i64 5)) b fun c d =>
 xcond c
 (j3 [c] d)
 (opK Tryd.prog E (xBin .eql 3 (.tmp 5) (.const (Value.int .i64 6)) x5 (Value.int .i64 6)) d fun e f =>
 xcond e
 (j3 [e] f)
 (opK Tryd.prog E (xBin .eql 3 (.tmp 5) (.const (Value.int .i64 7)) x5 (Value.int .i64 7)) f fun g i =>
 xcond g
 (j3 [g] i)
 (opK Tryd.prog E (xBin .eql 3 (.tmp 5) (.const (Value.int .i64 8)) x5 (Value.int .i64 8)) i fun o p =>
 j3 [o] p))))))
def F34 (x0 : Value) (w : World) (R : Value → World → Prop) (E : Pan) : Prop :=
 opK Tryd.prog E (xV (Instr.alloc 91 true (.tuple #[]))) w fun b e =>
 opK Tryd.prog E (xV (Instr.build 91 #[(3, (Value.bool true))])) e fun f g =>
 opK Tryd.prog E (xV (Instr.alloc 91 true (.tuple #[]))) g fun a i =>
 opK Tryd.prog E (xU (Instr.storeAt 91 a f)) i fun _ j =>
 xcut (fun _ k => b2h b a k R E) fun j1 =>
 xcut (fun l m => b2j b a x0 (nth l 0) m j1 R E) fun j2 =>
 opK Tryd.prog E (xBin .eql 3 (.tmp 5) (.const (Value.int .i64 2)) x0 (Value.int .i64 2)) j fun c d =>
 xcond c
 (j2 [c] d)
 (opK Tryd.prog E (xBin .eql 3 (.tmp 5) (.const (Value.int .i64 3)) x0 (Value.int .i64 3)) d fun n o =>
 j2 [n] o)
def h34 : Hint := (.seq .none (.seq .none (.cut [] (.seq .none (.block (.cut [7] (.seq .none (.cond .none .none)) (.cond .none (.cut [11] (.seq .none (.cond .none (.seq .none (.cond .none (.seq .none (.cond .none (.seq .none (.cond .none .none)))))))) (.cond .none (.seq .none (.cond (.seq .none .none) (.seq .none (.cond .none (.seq .none (.cond .none (.seq .none (.cond .none (.seq .none .none))))))))))))))) (.seq .none .none))))
theorem c0a {x0 : Value} {w : World} {R : Value → World → Prop} {E : Pan} (h : F34 x0 w R E) : Cv Tryd.prog 34 #[x0] w R E := okF (args := [x0]) (h := h34) Tryd.func34 (by kernel_rfl) (by kernel_rfl) h
def F35 (x0 x1 x2 : Value) (w : World) (R : Value → World → Prop) (_E : Pan) : Prop :=
 xcond x0
 (R x1 w)
 (R x2 w)
def h35 : Hint := (.seq .none (.seq (.seq .none (.cond (.seq .none .none) .none)) (.seq .none .none)))
theorem c0b {x0 x1 x2 : Value} {w : World} {R : Value → World → Prop} {E : Pan} (h : F35 x0 x1 x2 w R E) : Cv Tryd.prog 35 #[x0, x1, x2] w R E := okF (args := [x0, x1, x2]) (h := h35) Tryd.func35 (by kernel_rfl) (by kernel_rfl) h
def F36 (x0 x1 : Value) (w : World) (R : Value → World → Prop) (E : Pan) : Prop :=
 opK Tryd.prog E (xV (Instr.box 71 x0)) w fun b c =>
 opK Tryd.prog E (xBin .geq 3 (.tmp 5) (.const (Value.int .i64 0)) x1 (Value.int .i64 0)) c fun a d =>
 opK Tryd.prog E (gsem (asB a) true (xV (Instr.fieldAt 71 b 0))) d fun e f =>
 opK Tryd.prog E (gsem (asB a) true (xV (Instr.fieldAt 30 e 0))) f fun g i =>
 opK Tryd.prog E (gsem (asB a) true (xV (Instr.loadAt 26 g))) i fun j k =>
 opK Tryd.prog E (gsem (asB a) true (xBuiltin .len #[26] 3 [false] [j])) k fun l m =>
 opK Tryd.prog E (gsem (asB a) true (xV (Instr.fieldAt 71 b 0))) m fun n o =>
 opK Tryd.prog E (gsem (asB a) true (xV (Instr.fieldAt 30 n 1))) o fun p q =>
 opK Tryd.prog E (gsem (asB a) true (xV (Instr.loadAt 3 p))) q fun r s =>
 opK Tryd.prog E (gsem (asB a) true (xBin .add 3 (.tmp 12) (.tmp 15) l r)) s fun t u =>
 opK Tryd.prog E (gsem (asB a) true (xBin .lss 3 (.tmp 8) (.tmp 16) (gval (asB a) true x1) t)) u fun v y =>
 opK Tryd.prog E (xPick a v (Value.bool false)) y fun z aa =>
 R z aa
def h36 : Hint := (.seq .none (.seq .none .none))
theorem c0c {x0 x1 : Value} {w : World} {R : Value → World → Prop} {E : Pan} (h : F36 x0 x1 w R E) : Cv Tryd.prog 36 #[x0, x1] w R E := okF (args := [x0, x1]) (h := h36) Tryd.func36 (by kernel_rfl) (by kernel_rfl) h
def F37 (x0 x1 : Value) (w : World) (R : Value → World → Prop) (E : Pan) : Prop :=
 opK Tryd.prog E (xV (Instr.box 71 x0)) w fun b c =>
 opK Tryd.prog E (xBin .geq 3 (.tmp 5) (.const (Value.int .i64 0)) x1 (Value.int .i64 0)) c fun a d =>
 opK Tryd.prog E (gsem (asB a) true (xV (Instr.fieldAt 71 b 0))) d fun e f =>
 opK Tryd.prog E (gsem (asB a) true (xV (Instr.fieldAt 30 e 2))) f fun g i =>
 opK Tryd.prog E (gsem (asB a) true (xV (Instr.loadAt 27 g))) i fun j k =>
 opK Tryd.prog E (gsem (asB a) true (xBuiltin .len #[27] 3 [false] [j])) k fun l m =>
 opK Tryd.prog E (gsem (asB a) true (xBin .lss 3 (.tmp 8) (.tmp 12) (gval (asB a) true x1) l)) m fun n o =>
 opK Tryd.prog E (xPick a n (Value.bool false)) o fun p q =>
 R p q
def h37 : Hint := (.seq .none (.seq .none .none))
theorem c0d {x0 x1 : Value} {w : World} {R : Value → World → Prop} {E : Pan} (h : F37 x0 x1 w R E) : Cv Tryd.prog 37 #[x0, x1] w R E := okF (args := [x0, x1]) (h := h37) Tryd.func37 (by kernel_rfl) (by kernel_rfl) h
def F38 (x0 x1 : Value) (w : World) (R : Value → World → Prop) (E : Pan) : Prop :=
 opK Tryd.prog E (xV (Instr.box 71 x0)) w fun d e =>
 opK Tryd.prog E (xV (Instr.box 44 x1)) e fun c f =>
 opK Tryd.prog E (xV (Instr.fieldAt 44 c 0)) f fun g i =>
 opK Tryd.prog E (xV (Instr.loadAt 3 g)) i fun j k =>
 opK Tryd.prog E (xBin .eql 3 (.tmp 6) (.const (Value.int .i64 (-1))) j (Value.int .i64 (-1))) k fun a l =>
 opK Tryd.prog E (gsem (asB a) false (xV (Instr.loadAt 71 d))) l fun m n =>
 opK Tryd.prog E (gsem (asB a) false (xV (Instr.fieldAt 44 c 0))) n fun o p =>
 opK Tryd.prog E (gsem (asB a) false (xV (Instr.loadAt 3 o))) p fun q r =>
 opK Tryd.prog E (gsem (asB a) false (xCall (Value.func (.func 36) #[] #[]) [m, q])) r fun b s =>
 opK Tryd.prog E (gsem (asB (gval (asB a) false b)) true (xV (Instr.fieldAt 44 c 1))) s fun t u =>
 opK Tryd.prog E (gsem (asB (gval (asB a) false b)) true (xV (Instr.loadAt 2 t))) u fun v y =>
 opK Tryd.prog E (gsem (asB (gval (asB a) false b)) true (xBin .eql 2 (.tmp 15) (.const (Value.int .i64 0)) v (Value.int .i64 0))) y fun z aa =>
 opK Tryd.prog E (gsem (asB a) false (xPick (gval (asB a) false b) z (Value.bool false))) aa fun ab ac =>
 opK Tryd.prog E (xPick a (Value.bool true) ab) ac fun ad ae =>
 R ad ae
def h38 : Hint := (.seq .none (.seq .none .none))
theorem c0e {x0 x1 : Value} {w : World} {R : Value → World → Prop} {E : Pan} (h : F38 x0 x1 w R E) : Cv Tryd.prog 38 #[x0, x1] w R E := okF (args := [x0, x1]) (h := h38) Tryd.func38 (by kernel_rfl) (by kernel_rfl) h
def F39 (w : World) (R : Value → World → Prop) (E : Pan) : Prop :=
 opK Tryd.prog E (xV (Instr.alloc 44 true (.tuple #[]))) w fun a c =>
 opK Tryd.prog E (xV (Instr.build 44 #[(0, (Value.int .i64 (-1)))])) c fun d e =>
 opK Tryd.prog E (xU (Instr.storeAt 44 a d)) e fun _ b =>
 xcell Tryd.prog 44 a b fun f =>
 R f b
def h39 : Hint := (.seq .none (.seq .none .none))
theorem c0f {w : World} {R : Value → World → Prop} {E : Pan} (h : F39  w R E) : Cv Tryd.prog 39 #[] w R E := okF (args := []) (h := h39) Tryd.func39 (by kernel_rfl) (by kernel_rfl) h
def F40 (x0 : Value) (w : World) (R : Value → World → Prop) (E : Pan) : Prop :=
 opK Tryd.prog E (xBin .lss 3 (.tmp 3) (.const (Value.int .i64 1)) x0 (Value.int .i64 1)) w fun a c =>
 opK Tryd.prog E (gsem (asB a) false (xBin .gtr 3 (.tmp 6) (.const (Value.int .i64 6)) (gval (asB a) false x0) (Value.int .i64 6))) c fun d e =>
 opK Tryd.prog E (xPick a (Value.bool true) d) e fun f b =>
 xcond f
 (R (Value.int .i64 0) b)
 (opK Tryd.prog E (xV (Instr.build 114 #[(0, (Value.int .i64 0)), (1, (Value.int .i64 6)), (2, (Value.int .i64 5)), (3, (Value.int .i64 4)), (4, (Value.int .i64 3)), (5, (Value.int .i64 2)), (6, (Value.int .i64 1))])) b fun g i =>
 opK Tryd.prog E (xV (Instr.index 114 g x0)) i fun j k =>
 R j k)
def h40 : Hint := (.seq .none (.seq (.seq .none (.cond (.seq .none .none) .none)) (.seq .none .none)))
theorem c0g {x0 : Value} {w : World} {R : Value → World → Prop} {E : Pan} (h : F40 x0 w R E) : Cv Tryd.prog 40 #[x0] w R E := okF (args := [x0]) (h := h40) Tryd.func40 (by kernel_rfl) (by kernel_rfl) h
def F41 (x0 : Value) (w : World) (R : Value → World → Prop) (E : Pan) : Prop :=
 opK Tryd.prog E (xV (Instr.box 41 x0)) w fun a b =>
 opK Tryd.prog E (xV (Instr.loadAt 41 a)) b fun c d =>
 opK Tryd.prog E (xCall (Value.func (.func 49) #[] #[]) [c]) d fun e f =>
 opK Tryd.prog E (xNil e) f fun g i =>
 opK Tryd.prog E (xV (Instr.fieldAt 116 g 2)) i fun j k =>
 opK Tryd.prog E (xV (Instr.loadAt 31 j)) k fun l m =>
 R l m
def h41 : Hint := (.seq .none (.seq .none .none))
theorem c0h {x0 : Value} {w : World} {R : Value → World → Prop} {E : Pan} (h : F41 x0 w R E) : Cv Tryd.prog 41 #[x0] w R E := okF (args := [x0]) (h := h41) Tryd.func41 (by kernel_rfl) (by kernel_rfl) h
def b5H (x5 : Value) (w : World) (R : Value → World → Prop) (_E : Pan) : Prop :=
 ∀ _τ : Fr, (R (Value.tuple #[x5, (Value.string ⟨#[]⟩), (Value.int .i64 0)]) w)
def b5I (x5 x6 x13 x14 x15 : Value) (w : World) (next2 : List Value → World → Prop) (j1 : List Value → World → Prop) (R : Value → World → Prop) (E : Pan) : Prop :=
 opK Tryd.prog E (xBin .lss 3 (.tmp 15) (.tmp 14) x15 x14) w fun n c =>
 xcond n
 (opK Tryd.prog E (xV (Instr.indexAt 27 x13 x15)) c fun o p =>
 opK Tryd.prog E (xV (Instr.loadAt 35 o)) p fun q r =>
 opK Tryd.prog E (xV (Instr.alloc 35 true (.tuple #[]))) r fun a s =>
 opK Tryd.prog E (xU (Instr.storeAt 35 a q)) s fun _ t =>
 opK Tryd.prog E (xV (Instr.loadAt 35 a)) t fun u v =>
 opK Tryd.prog E (xCall (Value.func (.func 27) #[] #[]) [u]) v fun b y =>
 opK Tryd.prog E (xV (Instr.lookup 119 x6 b false)) y fun z aa =>
 opK Tryd.prog E (xBin .sub 3 (.tmp 23) (.const (Value.int .i64 1)) z (Value.int .i64 1)) aa fun ab ac =>
 opK Tryd.prog E (xU (Instr.mapUpdate 119 x6 b ab)) ac fun _ ad =>
 opK Tryd.prog E (xV (Instr.fieldAt 35 a 0)) ad fun ae af =>
 opK Tryd.prog E (xV (Instr.loadAt 9 ae)) af fun ag ah =>
 opK Tryd.prog E (xV (Instr.lookup 57 x5 ag false)) ah fun ai aj =>
 opK Tryd.prog E (xBin .neq 3 (.tmp 29) (.const (Value.int .i64 0)) ai (Value.int .i64 0)) aj fun ak d =>
 xcond ak
 (dX d fun e =>
 qP Tryd.prog (xV (Instr.fieldAt 35 a 0)) fun f =>
 qL Tryd.prog e (blk f) (xV (Instr.loadAt 9 f)) fun al =>
 R (Value.tuple #[(Value.map none), al, (Value.int .i64 60)]) e)
 (opK Tryd.prog E (xV (Instr.fieldAt 35 a 1)) d fun am an =>
 opK Tryd.prog E (xV (Instr.loadAt 3 am)) an fun ao ap =>
 opK Tryd.prog E (xBin .gtr 3 (.tmp 35) (.const (Value.int .i64 1024)) ao (Value.int .i64 1024)) ap fun aq g =>
 xcond aq
 (dX g fun i =>
 qP Tryd.prog (xV (Instr.fieldAt 35 a 0)) fun j =>
 qL Tryd.prog i (blk j) (xV (Instr.loadAt 9 j)) fun ar =>
 R (Value.tuple #[(Value.map none), ar, (Value.int .i64 61)]) i)
 (opK Tryd.prog E (xV (Instr.lookup 119 x6 b false)) g fun au av =>
 opK Tryd.prog E (xBin .lss 3 (.tmp 42) (.const (Value.int .i64 0)) au (Value.int .i64 0)) av fun aw k =>
 xcond aw
 (dX k fun l =>
 qP Tryd.prog (xV (Instr.fieldAt 35 a 0)) fun m =>
 qL Tryd.prog l (blk m) (xV (Instr.loadAt 9 m)) fun ax =>
 R (Value.tuple #[(Value.map none), ax, (Value.int .i64 62)]) l)
 (opK Tryd.prog E (xV (Instr.fieldAt 35 a 0)) k fun ay az =>
 opK Tryd.prog E (xV (Instr.loadAt 9 ay)) az fun ba bb =>
 opK Tryd.prog E (xU (Instr.mapUpdate 57 x5 ba b)) bb fun _ bc =>
 opK Tryd.prog E (xBin .add 3 (.tmp 15) (.const (Value.int .i64 1)) x15 (Value.int .i64 1)) bc fun bd be =>
 next2 [bd] be))))
 (j1 [] c)
def F42 (x0 : Value) (w : World) (R : Value → World → Prop) (E : Pan) : Prop :=
 opK Tryd.prog E (xV (Instr.makeMap 57 none)) w fun b c =>
 opK Tryd.prog E (xV (Instr.makeMap 119 none)) c fun a d =>
 opK Tryd.prog E (xU (Instr.mapUpdate 119 a (Value.int .i64 1) (Value.int .i64 32))) d fun _ e =>
 opK Tryd.prog E (xU (Instr.mapUpdate 119 a (Value.int .i64 2) (Value.int .i64 16))) e fun _ f =>
 xcut (fun _ g => b5H b g R E) fun j1 =>
 opK Tryd.prog E (xBuiltin .len #[27] 3 [false] [x0]) f fun i j =>
 xloop [15] [(Value.int .i64 0)] j fun k l next2 =>
 b5I b a x0 i (k 15) l next2 j1 R E
def h42 : Hint := (.seq .none (.seq .none (.seq .none (.cut [] (.seq .none (.block (.loop [15] (.seq .none (.seq (.cond .none .none) (.seq (.block (.seq .none (.seq .none (.seq .none (.seq (.block (.seq .none (.cond (.seq (.reg [(0, 2147483648, 256), (1, 4294967296, 2147483648), (0, 4, 0), (7, 8, 4294967296), (15, 16, 0)] [2, 0, 2, 2, 2] (.early 0 (.early 2 (.load 1 (.early 3 (.early 4 .done)))))) .none) (.seq .none (.cond (.seq (.reg [(0, 137438953472, 256), (1, 274877906944, 137438953472), (0, 4, 0), (7, 8, 274877906944), (15, 16, 0)] [2, 0, 2, 2, 2] (.early 0 (.early 2 (.load 1 (.early 3 (.early 4 .done)))))) .none) (.seq .none (.cond (.seq (.reg [(0, 17592186044416, 256), (1, 35184372088832, 17592186044416), (0, 4, 0), (7, 8, 35184372088832), (15, 16, 0)] [2, 0, 2, 2, 2] (.early 0 (.early 2 (.load 1 (.early 3 (.early 4 .done)))))) .none) .none))))))) .none))))) .none)))))) (.seq .none .none)))))
theorem c0i {x0 : Value} {w : World} {R : Value → World → Prop} {E : Pan} (h : F42 x0 w R E) : Cv Tryd.prog 42 #[x0] w R E := okF (args := [x0]) (h := h42) Tryd.func42 (by kernel_rfl) (by kernel_rfl) h
def b2k (_x0 _x10 _x11 x12 : Value) (w : World) (next1 : List Value → World → Prop) (_R : Value → World → Prop) (E : Pan) : Prop :=
 ∀ _τ : Fr, (opK Tryd.prog E (xBin .add 3 (.tmp 12) (.const (Value.int .i64 1)) x12 (Value.int .i64 1)) w fun a b =>
 next1 [a] b)
def b2l (x0 x5 _x10 _x11 _x12 : Value) (w : World) (j2 : List Value → World → Prop) (_R : Value → World → Prop) (E : Pan) : Prop :=
 ∀ _τ : Fr, (opK Tryd.prog E (xV (Instr.fieldAt 39 x5 4)) w fun a b =>
 opK Tryd.prog E (xV (Instr.loadAt 37 a)) b fun c d =>
 opK Tryd.prog E (xCall (Value.func (.func 43) #[] #[]) [x0, c]) d fun _t71_21 e =>
 opK Tryd.prog E (xV (Instr.fieldAt 39 x5 5)) e fun f g =>
 opK Tryd.prog E (xV (Instr.loadAt 37 f)) g fun i j =>
 opK Tryd.prog E (xCall (Value.func (.func 43) #[] #[]) [x0, i]) j fun _t75_27 k =>
 j2 [] k)
def b5J (x0 _x5 _x10 _x11 _x12 x58 x59 x60 : Value) (w : World) (next6 : List Value → World → Prop) (j5 : List Value → World → Prop) (_R : Value → World → Prop) (E : Pan) : Prop :=
 opK Tryd.prog E (xBin .lss 3 (.tmp 60) (.tmp 59) x60 x59) w fun c a =>
 xcond c
 (opK Tryd.prog E (xV (Instr.indexAt 23 x58 x60)) a fun d e =>
 opK Tryd.prog E (xV (Instr.loadAt 25 d)) e fun f g =>
 opK Tryd.prog E (xV (Instr.alloc 25 true (.tuple #[]))) g fun b i =>
 opK Tryd.prog E (xU (Instr.storeAt 25 b f)) i fun _ j =>
 opK Tryd.prog E (xV (Instr.loadAt 25 b)) j fun k l =>
 opK Tryd.prog E (xCall (Value.func (.func 51) #[] #[]) [x0, k]) l fun _t66_49 m =>
 opK Tryd.prog E (xBin .add 3 (.tmp 60) (.const (Value.int .i64 1)) x60 (Value.int .i64 1)) m fun n o =>
 next6 [n] o)
 (j5 [] a)
def b2m (x0 x5 x10 x11 x12 : Value) (w : World) (j2 : List Value → World → Prop) (R : Value → World → Prop) (E : Pan) : Prop :=
 ∀ _τ : Fr, (xcut (fun _ b => b2l x0 x5 x10 x11 x12 b j2 R E) fun j5 =>
 opK Tryd.prog E (xV (Instr.fieldAt 39 x5 2)) w fun c d =>
 opK Tryd.prog E (xV (Instr.loadAt 23 c)) d fun a e =>
 opK Tryd.prog E (xBuiltin .len #[23] 3 [false] [a]) e fun f g =>
 xloop [60] [(Value.int .i64 0)] g fun i j next6 =>
 b5J x0 x5 x10 x11 x12 a f (i 60) j next6 j5 R E)
def b5K (x0 _x5 _x10 _x11 _x12 x47 x48 x49 : Value) (w : World) (next7 : List Value → World → Prop) (j4 : List Value → World → Prop) (_R : Value → World → Prop) (E : Pan) : Prop :=
 opK Tryd.prog E (xBin .lss 3 (.tmp 49) (.tmp 48) x49 x48) w fun c a =>
 xcond c
 (opK Tryd.prog E (xV (Instr.indexAt 36 x47 x49)) a fun d e =>
 opK Tryd.prog E (xV (Instr.loadAt 89 d)) e fun f g =>
 opK Tryd.prog E (xV (Instr.alloc 89 true (.tuple #[]))) g fun b i =>
 opK Tryd.prog E (xU (Instr.storeAt 89 b f)) i fun _ j =>
 opK Tryd.prog E (xV (Instr.loadAt 89 b)) j fun k l =>
 opK Tryd.prog E (xCall (Value.func (.func 50) #[] #[]) [x0, k]) l fun _t55_75 m =>
 opK Tryd.prog E (xBin .add 3 (.tmp 49) (.const (Value.int .i64 1)) x49 (Value.int .i64 1)) m fun n o =>
 next7 [n] o)
 (j4 [] a)
def b2n (x0 x5 x10 x11 x12 : Value) (w : World) (j2 : List Value → World → Prop) (R : Value → World → Prop) (E : Pan) : Prop :=
 ∀ _τ : Fr, (xcut (fun _ b => b2m x0 x5 x10 x11 x12 b j2 R E) fun j4 =>
 opK Tryd.prog E (xV (Instr.fieldAt 39 x5 3)) w fun c d =>
 opK Tryd.prog E (xV (Instr.loadAt 36 c)) d fun a e =>
 opK Tryd.prog E (xBuiltin .len #[36] 3 [false] [a]) e fun f g =>
 xloop [49] [(Value.int .i64 0)] g fun i j next7 =>
 b5K x0 x5 x10 x11 x12 a f (i 49) j next7 j4 R E)
def b5L (x0 x10 x11 x12 : Value) (w : World) (next1 : List Value → World → Prop) (R : Value → World → Prop) (E : Pan) : Prop :=
 opK Tryd.prog E (xBin .lss 3 (.tmp 12) (.tmp 11) x12 x11) w fun s k =>
 xcond s
 (xcut (fun _ t => b2k x0 x10 x11 x12 t next1 R E) fun j2 =>
 opK Tryd.prog E (xV (Instr.indexAt 37 x10 x12)) k fun u v =>
 opK Tryd.prog E (xV (Instr.loadAt 39 u)) v fun y z =>
 opK Tryd.prog E (xV (Instr.alloc 39 true (.tuple #[]))) z fun a aa =>
 opK Tryd.prog E (xU (Instr.storeAt 39 a y)) aa fun _ ab =>
 xcut (fun _ ac => b2n x0 a x10 x11 x12 ac j2 R E) fun j3 =>
 opK Tryd.prog E (xV (Instr.fieldAt 39 a 0)) ab fun ad ae =>
 opK Tryd.prog E (xV (Instr.loadAt 3 ad)) ae fun l af =>
 opK Tryd.prog E (xBin .eql 3 (.tmp 17) (.const (Value.int .i64 1)) l (Value.int .i64 1)) af fun ag m =>
 xcond ag
 (dX m fun b =>
 qP Tryd.prog (xNil x0) fun ah =>
 qP Tryd.prog (xV (Instr.fieldAt 103 ah 0)) fun d =>
 qP Tryd.prog (xV (Instr.fieldAt 39 a 1)) fun n =>
 qL Tryd.prog b (blk d) (xV (Instr.loadAt 101 d)) fun ai =>
 qL Tryd.prog b (blk n) (xV (Instr.loadAt 9 n)) fun aj =>
 qP Tryd.prog (xV (Instr.build 106 #[(0, aj), (1, (Value.int .i64 1))])) fun ak =>
 opK Tryd.prog E (xV (Instr.buildSlice 101 1 #[(0, ak)])) b fun al e =>
 keepX [(blk d)] b e (opK Tryd.prog E (xBuiltin .append #[101, 101] 101 [false, false] [ai, al]) e fun am f =>
 keepX [] e f (qP Tryd.prog (xNil x0) fun an =>
 qP Tryd.prog (xV (Instr.fieldAt 103 an 0)) fun ao =>
 opK Tryd.prog E (xU (Instr.storeAt 101 ao am)) f fun _ o =>
 keepX [] f o (j3 [] o))))
 (opK Tryd.prog E (xBin .eql 3 (.tmp 17) (.const (Value.int .i64 2)) l (Value.int .i64 2)) m fun ap p =>
 xcond ap
 (dX p fun c =>
 qP Tryd.prog (xNil x0) fun aq =>
 qP Tryd.prog (xV (Instr.fieldAt 103 aq 0)) fun g =>
 qP Tryd.prog (xV (Instr.fieldAt 39 a 1)) fun q =>
 qL Tryd.prog c (blk g) (xV (Instr.loadAt 101 g)) fun ar =>
 qL Tryd.prog c (blk q) (xV (Instr.loadAt 9 q)) fun au =>
 qP Tryd.prog (xV (Instr.build 106 #[(0, au), (1, (Value.int .i64 2))])) fun av =>
 opK Tryd.prog E (xV (Instr.buildSlice 101 1 #[(0, av)])) c fun aw i =>
 keepX [(blk g)] c i (opK Tryd.prog E (xBuiltin .append #[101, 101] 101 [false, false] [ar, aw]) i fun ax j =>
 keepX [] i j (qP Tryd.prog (xNil x0) fun ay =>
 qP Tryd.prog (xV (Instr.fieldAt 103 ay 0)) fun az =>
 opK Tryd.prog E (xU (Instr.storeAt 101 az ax)) j fun _ r =>
 keepX [] j r (j3 [] r))))
 (j3 [] p)))
 (R (Value.tuple #[]) k)
def F43 (x0 x1 : Value) (w : World) (R : Value → World → Prop) (E : Pan) : Prop :=
 opK Tryd.prog E (xBuiltin .len #[37] 3 [false] [x1]) w fun a b =>
 xloop [12] [(Value.int .i64 0)] b fun c d next1 =>
 b5L x0 x1 a (c 12) d next1 R E
def h43 : Hint := (.seq .none (.block (.loop [12] (.seq .none (.seq (.cond .none .none) (.cut [] (.block (.seq .none (.cut [] (.seq .none (.block (.seq .none (.cond (.reg [(0, 1048576, 1), (0, 2097152, 1), (2, 4194304, 2097152), (4, 8388608, 4194304), (8, 16777216, 8388608), (0, 33554432, 32), (32, 67108864, 33554432), (64, 134217728, 67108864), (128, 268435456, 134217728), (272, 536870912, 285212672), (1023, 1073741824, 1048576), (2047, 2147483648, 1073741824), (3071, 0, 2684354560)] [80, 80, 80, 80, 64, 80, 16, 80, 16, 0, 80, 80, 0] (.early 0 (.early 1 (.early 2 (.early 3 (.early 5 (.load 4 (.load 6 (.early 7 (.step 8 (.step 9 (.early 10 (.early 11 (.step 12 .done)))))))))))))) (.seq .none (.cond (.reg [(0, 17179869184, 1), (0, 34359738368, 1), (2, 68719476736, 34359738368), (4, 137438953472, 68719476736), (8, 274877906944, 137438953472), (0, 549755813888, 32), (32, 1099511627776, 549755813888), (64, 2199023255552, 1099511627776), (128, 4398046511104, 2199023255552), (272, 8796093022208, 4672924418048), (1023, 17592186044416, 17179869184), (2047, 35184372088832, 17592186044416), (3071, 0, 43980465111040)] [80, 80, 80, 80, 64, 80, 16, 80, 16, 0, 80, 80, 0] (.early 0 (.early 1 (.early 2 (.early 3 (.early 5 (.load 4 (.load 6 (.early 7 (.step 8 (.step 9 (.early 10 (.early 11 (.step 12 .done)))))))))))))) .none)))))) (.cut [] (.seq .none (.block (.loop [49] (.seq .none (.seq (.cond .none .none) (.seq (.block (.seq .none .none)) .none)))))) (.cut [] (.seq .none (.block (.loop [60] (.seq .none (.seq (.cond .none .none) (.seq (.block (.seq .none .none)) .none)))))) (.seq .none .none)))))) .none))))))
theorem c0j {x0 x1 : Value} {w : World} {R : Value → World → Prop} {E : Pan} (h : F43 x0 x1 w R E) : Cv Tryd.prog 43 #[x0, x1] w R E := okF (args := [x0, x1]) (h := h43) Tryd.func43 (by kernel_rfl) (by kernel_rfl) h
def b5M (w : World) (R : Value → World → Prop) (_E : Pan) : Prop :=
 ∀ _τ : Fr, (R (Value.int .i64 (-1)) w)
def b5N (x0 x1 x7 x8 : Value) (w : World) (next2 : List Value → World → Prop) (j1 : List Value → World → Prop) (R : Value → World → Prop) (E : Pan) : Prop :=
 opK Tryd.prog E (xBin .lss 3 (.tmp 8) (.tmp 7) x8 x7) w fun c a =>
 xcond c
 (opK Tryd.prog E (xV (Instr.indexAt 27 x0 x8)) a fun d e =>
 opK Tryd.prog E (xV (Instr.loadAt 35 d)) e fun f g =>
 opK Tryd.prog E (xCall x1 [f]) g fun i b =>
 xcond i
 (R x8 b)
 (opK Tryd.prog E (xBin .add 3 (.tmp 8) (.const (Value.int .i64 1)) x8 (Value.int .i64 1)) b fun j k =>
 next2 [j] k))
 (j1 [] a)
def F44 (x0 x1 : Value) (w : World) (R : Value → World → Prop) (E : Pan) : Prop :=
 xcut (fun _ a => b5M a R E) fun j1 =>
 opK Tryd.prog E (xBuiltin .len #[27] 3 [false] [x0]) w fun b c =>
 xloop [8] [(Value.int .i64 0)] c fun d e next2 =>
 b5N x0 x1 b (d 8) e next2 j1 R E
def h44 : Hint := (.seq .none (.cut [] (.seq .none (.block (.loop [8] (.seq .none (.seq (.cond .none .none) (.seq (.block (.seq .none (.seq .none (.cond (.seq .none .none) .none)))) .none)))))) (.seq .none .none)))
theorem c0k {x0 x1 : Value} {w : World} {R : Value → World → Prop} {E : Pan} (h : F44 x0 x1 w R E) : Cv Tryd.prog 44 #[x0, x1] w R E := okF (args := [x0, x1]) (h := h44) Tryd.func44 (by kernel_rfl) (by kernel_rfl) h
def F45 (x0 x1 : Value) (w : World) (R : Value → World → Prop) (E : Pan) : Prop :=
 opK Tryd.prog E (xV (Instr.box 25 x1)) w fun b p =>
 opK Tryd.prog E (xV (Instr.alloc 44 true (.tuple #[]))) p fun a q =>
 opK Tryd.prog E (xV (Instr.fieldAt 25 b 0)) q fun r s =>
 opK Tryd.prog E (xV (Instr.loadAt 3 r)) s fun t u =>
 opK Tryd.prog E (xBin .eql 3 (.tmp 8) (.const (Value.int .i64 1)) t (Value.int .i64 1)) u fun v f =>
 xcond v
 (opK Tryd.prog E (xV (Instr.fieldAt 25 b 1)) f fun y z =>
 opK Tryd.prog E (xV (Instr.loadAt 2 y)) z fun aa ab =>
 opK Tryd.prog E (xV (Instr.build 44 #[(0, (Value.int .i64 (-1))), (1, aa)])) ab fun ac ad =>
 opK Tryd.prog E (xU (Instr.storeAt 44 a ac)) ad fun _ g =>
 xcell Tryd.prog 44 a g fun ae =>
 R (Value.tuple #[ae, (Value.bool true)]) g)
 (opK Tryd.prog E (xV (Instr.fieldAt 25 b 0)) f fun af ag =>
 opK Tryd.prog E (xV (Instr.loadAt 3 af)) ag fun ah ai =>
 opK Tryd.prog E (xBin .eql 3 (.tmp 15) (.const (Value.int .i64 5)) ah (Value.int .i64 5)) ai fun c aj =>
 opK Tryd.prog E (gsem (asB c) true (xV (Instr.fieldAt 25 b 3))) aj fun ak al =>
 opK Tryd.prog E (gsem (asB c) true (xV (Instr.loadAt 23 ak))) al fun am an =>
 opK Tryd.prog E (gsem (asB c) true (xV (Instr.indexAt 23 am (Value.int .i64 0)))) an fun ao ap =>
 opK Tryd.prog E (gsem (asB c) true (xV (Instr.fieldAt 25 ao 0))) ap fun aq ar =>
 opK Tryd.prog E (gsem (asB c) true (xV (Instr.loadAt 3 aq))) ar fun au av =>
 opK Tryd.prog E (gsem (asB c) true (xBin .eql 3 (.tmp 22) (.const (Value.int .i64 1)) au (Value.int .i64 1))) av fun aw ax =>
 opK Tryd.prog E (xPick c aw (Value.bool false)) ax fun ay i =>
 xcond ay
 (opK Tryd.prog E (xV (Instr.fieldAt 25 b 3)) i fun az ba =>
 opK Tryd.prog E (xV (Instr.loadAt 23 az)) ba fun bb bc =>
 opK Tryd.prog E (xV (Instr.indexAt 23 bb (Value.int .i64 0))) bc fun bd be =>
 opK Tryd.prog E (xV (Instr.fieldAt 25 bd 1)) be fun bf bg =>
 opK Tryd.prog E (xV (Instr.loadAt 2 bf)) bg fun bh bi =>
 opK Tryd.prog E (xV (Op.unary .neg bh)) bi fun bj bk =>
 opK Tryd.prog E (xV (Instr.build 44 #[(0, (Value.int .i64 (-1))), (1, bj)])) bk fun bl bm =>
 opK Tryd.prog E (xU (Instr.storeAt 44 a bl)) bm fun _ j =>
 xcell Tryd.prog 44 a j fun bn =>
 R (Value.tuple #[bn, (Value.bool true)]) j)
 (opK Tryd.prog E (xV (Instr.fieldAt 25 b 0)) i fun bo bp =>
 opK Tryd.prog E (xV (Instr.loadAt 3 bo)) bp fun bq br =>
 opK Tryd.prog E (xBin .eql 3 (.tmp 34) (.const (Value.int .i64 2)) bq (Value.int .i64 2)) br fun bs k =>
 xcond bs
 (dX k fun d =>
 qP Tryd.prog (xNil x0) fun bt =>
 qP Tryd.prog (xV (Instr.fieldAt 59 bt 1)) fun l =>
 qP Tryd.prog (xV (Instr.fieldAt 25 b 2)) fun m =>
 qL Tryd.prog d (blk l) (xV (Instr.loadAt 57 l)) fun n =>
 qL Tryd.prog d (blk m) (xV (Instr.loadAt 9 m)) fun bu =>
 qL Tryd.prog d (blk n) (xV (Instr.lookup 57 n bu false)) fun bv =>
 qP Tryd.prog (xV (Instr.build 44 #[(0, bv)])) fun bw =>
 opK Tryd.prog E (xU (Instr.storeAt 44 a bw)) d fun _ e =>
 keepX [] d e (xcell Tryd.prog 44 a e fun bz =>
 R (Value.tuple #[bz, (Value.bool true)]) e))
 (opK Tryd.prog E (xCall (Value.func (.func 39) #[] #[]) []) k fun ca cb =>
 opK Tryd.prog E (xU (Instr.storeAt 44 a ca)) cb fun _ o =>
 xcell Tryd.prog 44 a o fun cc =>
 R (Value.tuple #[cc, (Value.bool false)]) o)))
def h45 : Hint := (.seq .none (.seq (.block (.seq .none (.cond (.seq .none .none) (.seq .none (.cond (.seq .none .none) (.seq .none (.cond (.seq (.reg [(0, 68719476736, 1), (1, 137438953472, 68719476736), (2, 274877906944, 137438953472), (4, 549755813888, 274877906944), (0, 1099511627776, 8), (16, 2199023255552, 1099511627776), (40, 4398046511104, 2748779069440), (64, 8796093022208, 4398046511104), (255, 0, 8796093022224), (511, 32, 0)] [104, 104, 104, 96, 104, 72, 40, 104, 0, 104] (.early 0 (.early 1 (.early 2 (.early 4 (.load 3 (.load 5 (.load 6 (.early 7 (.step 8 (.early 9 .done))))))))))) .none) .none))))))) (.seq .none .none)))
theorem c0l {x0 x1 : Value} {w : World} {R : Value → World → Prop} {E : Pan} (h : F45 x0 x1 w R E) : Cv Tryd.prog 45 #[x0, x1] w R E := okF (args := [x0, x1]) (h := h45) Tryd.func45 (by kernel_rfl) (by kernel_rfl) h
def b2o (x0 x12 : Value) (w : World) (R : Value → World → Prop) (E : Pan) : Prop :=
 ∀ _τ : Fr, (opK Tryd.prog E (xV (Instr.loadAt 46 x12)) w fun a b =>
 opK Tryd.prog E (xCall (Value.func (.func 31) #[] #[]) [x0, a]) b fun _t67_21 c =>
 R (Value.tuple #[]) c)
def b2p (x0 x7 x12 : Value) (w : World) (R : Value → World → Prop) (E : Pan) : Prop :=
 ∀ _τ : Fr, (xcut (fun _ g => b2o x0 x12 g R E) fun j2 =>
 opK Tryd.prog E (xV (Instr.fieldAt 25 x7 0)) w fun i j =>
 opK Tryd.prog E (xV (Instr.loadAt 3 i)) j fun k l =>
 opK Tryd.prog E (xBin .eql 3 (.tmp 55) (.const (Value.int .i64 4)) k (Value.int .i64 4)) l fun m b =>
 xcond m
 (dX b fun a =>
 qP Tryd.prog (xNil x0) fun n =>
 qP Tryd.prog (xV (Instr.fieldAt 59 n 2)) fun c =>
 qP Tryd.prog (xV (Instr.fieldAt 25 x7 2)) fun d =>
 qL Tryd.prog a (blk c) (xV (Instr.loadAt 57 c)) fun e =>
 qL Tryd.prog a (blk d) (xV (Instr.loadAt 9 d)) fun o =>
 qL Tryd.prog a (blk e) (xV (Instr.lookup 57 e o false)) fun p =>
 qP Tryd.prog (xV (Instr.fieldAt 46 x12 4)) fun q =>
 opK Tryd.prog E (xU (Instr.storeAt 3 q p)) a fun _ f =>
 keepX [] a f (j2 [] f))
 (j2 [] b))
def F46 (x0 x1 x2 x3 x4 x5 : Value) (w : World) (R : Value → World → Prop) (E : Pan) : Prop :=
 opK Tryd.prog E (xV (Instr.box 25 x1)) w fun b i =>
 opK Tryd.prog E (xV (Instr.fieldAt 25 b 0)) i fun j k =>
 opK Tryd.prog E (xV (Instr.loadAt 3 j)) k fun l m =>
 opK Tryd.prog E (xCall (Value.func (.func 52) #[] #[]) [l]) m fun n o =>
 opK Tryd.prog E (xCall (Value.func (.func 29) #[] #[]) [x3, x4, n]) o fun p q =>
 opK Tryd.prog E (xV (Instr.alloc 46 true (.tuple #[]))) q fun a r =>
 opK Tryd.prog E (xU (Instr.storeAt 46 a p)) r fun _ s =>
 opK Tryd.prog E (xV (Instr.fieldAt 46 a 3)) s fun t u =>
 opK Tryd.prog E (xU (Instr.storeAt 3 t x2)) u fun _ v =>
 xcut (fun _ y => b2p x0 b a y R E) fun j1 =>
 opK Tryd.prog E (xV (Instr.fieldAt 25 b 3)) v fun z aa =>
 opK Tryd.prog E (xV (Instr.loadAt 23 z)) aa fun ab ac =>
 opK Tryd.prog E (xBuiltin .len #[23] 3 [false] [ab]) ac fun d ad =>
 opK Tryd.prog E (xBin .eql 3 (.tmp 23) (.const (Value.int .i64 1)) d (Value.int .i64 1)) ad fun ae e =>
 xcond ae
 (opK Tryd.prog E (xV (Instr.fieldAt 25 b 3)) e fun af ag =>
 opK Tryd.prog E (xV (Instr.loadAt 23 af)) ag fun ah ai =>
 opK Tryd.prog E (xV (Instr.indexAt 23 ah (Value.int .i64 0))) ai fun aj ak =>
 opK Tryd.prog E (xV (Instr.loadAt 25 aj)) ak fun al am =>
 opK Tryd.prog E (xCall (Value.func (.func 47) #[] #[]) [x0, al, x3, x5]) am fun f an =>
 opK Tryd.prog E (xV (Instr.extract f 0)) an fun ao ap =>
 opK Tryd.prog E (xV (Instr.extract f 1)) ap fun aq ar =>
 opK Tryd.prog E (xV (Instr.fieldAt 46 a 6)) ar fun au av =>
 opK Tryd.prog E (xU (Instr.storeAt 44 au ao)) av fun _ aw =>
 opK Tryd.prog E (xV (Instr.fieldAt 46 a 0)) aw fun ax ay =>
 opK Tryd.prog E (xU (Instr.storeAt 3 ax aq)) ay fun _ az =>
 j1 [] az)
 (opK Tryd.prog E (xBin .eql 3 (.tmp 23) (.const (Value.int .i64 2)) d (Value.int .i64 2)) e fun ba g =>
 xcond ba
 (opK Tryd.prog E (xV (Instr.fieldAt 25 b 3)) g fun bb bc =>
 opK Tryd.prog E (xV (Instr.loadAt 23 bb)) bc fun bd be =>
 opK Tryd.prog E (xCall (Value.func (.func 30) #[] #[]) [x0, bd, x3, x5]) be fun c bf =>
 opK Tryd.prog E (xV (Instr.extract c 0)) bf fun bg bh =>
 opK Tryd.prog E (xV (Instr.extract c 1)) bh fun bi bj =>
 opK Tryd.prog E (xV (Instr.extract c 2)) bj fun bk bl =>
 opK Tryd.prog E (xV (Instr.fieldAt 46 a 6)) bl fun bm bn =>
 opK Tryd.prog E (xU (Instr.storeAt 44 bm bg)) bn fun _ bo =>
 opK Tryd.prog E (xV (Instr.fieldAt 46 a 7)) bo fun bp bq =>
 opK Tryd.prog E (xU (Instr.storeAt 44 bp bi)) bq fun _ br =>
 opK Tryd.prog E (xV (Instr.fieldAt 46 a 0)) br fun bs bt =>
 opK Tryd.prog E (xU (Instr.storeAt 3 bs bk)) bt fun _ bu =>
 j1 [] bu)
 (j1 [] g))
def h46 : Hint := (.seq .none (.seq .none (.seq .none (.cut [] (.seq .none (.block (.seq .none (.cond .none (.seq .none (.cond .none .none)))))) (.cut [] (.seq .none (.cond (.reg [(0, 144115188075855872, 1), (1, 288230376151711744, 144115188075855872), (2, 576460752303423488, 288230376151711744), (4, 1152921504606846976, 576460752303423488), (0, 2305843009213693952, 128), (16, 4611686018427387904, 2305843009213693952), (40, 9223372036854775808, 5764607523034234880), (127, 18446744073709551616, 4096), (255, 0, 27670116110564327424)] [104, 104, 104, 96, 104, 72, 40, 104, 0] (.early 0 (.early 1 (.early 2 (.early 4 (.load 3 (.load 5 (.load 6 (.early 7 (.step 8 .done)))))))))) .none)) .none)))))
theorem c0m {x0 x1 x2 x3 x4 x5 : Value} {w : World} {R : Value → World → Prop} {E : Pan} (h : F46 x0 x1 x2 x3 x4 x5 w R E) : Cv Tryd.prog 46 #[x0, x1, x2, x3, x4, x5] w R E := okF (args := [x0, x1, x2, x3, x4, x5]) (h := h46) Tryd.func46 (by kernel_rfl) (by kernel_rfl) h
def F47 (x0 x1 x2 x3 : Value) (w : World) (R : Value → World → Prop) (E : Pan) : Prop :=
 opK Tryd.prog E (xV (Instr.box 25 x1)) w fun c k =>
 opK Tryd.prog E (xV (Instr.alloc 44 true (.tuple #[]))) k fun a l =>
 opK Tryd.prog E (xV (Instr.loadAt 25 c)) l fun m n =>
 opK Tryd.prog E (xCall (Value.func (.func 45) #[] #[]) [x0, m]) n fun d o =>
 opK Tryd.prog E (xV (Instr.extract d 0)) o fun p q =>
 opK Tryd.prog E (xV (Instr.extract d 1)) q fun r s =>
 opK Tryd.prog E (xV (Instr.alloc 44 true (.tuple #[]))) s fun e t =>
 opK Tryd.prog E (xU (Instr.storeAt 44 e p)) t fun _ f =>
 xcond r
 (opK Tryd.prog E (xV (Instr.loadAt 44 e)) f fun u v =>
 opK Tryd.prog E (xU (Instr.storeAt 44 a u)) v fun _ g =>
 xcell Tryd.prog 44 a g fun y =>
 R (Value.tuple #[y, x2]) g)
 (opK Tryd.prog E (xCall (Value.func (.func 12) #[] #[]) [x0]) f fun i z =>
 opK Tryd.prog E (xCall (Value.func (.func 53) #[] #[]) [x0, x3]) z fun aa ab =>
 opK Tryd.prog E (xV (Instr.build 44 #[(0, aa)])) ab fun ac ad =>
 opK Tryd.prog E (xV (Instr.alloc 44 true (.tuple #[]))) ad fun b ae =>
 opK Tryd.prog E (xU (Instr.storeAt 44 b ac)) ae fun _ af =>
 opK Tryd.prog E (xV (Instr.loadAt 25 c)) af fun ag ah =>
 opK Tryd.prog E (xV (Instr.fieldAt 44 b 0)) ah fun ai aj =>
 opK Tryd.prog E (xV (Instr.loadAt 3 ai)) aj fun ak al =>
 opK Tryd.prog E (xCall (Value.func (.func 46) #[] #[]) [x0, ag, ak, x2, i, x3]) al fun _t36_38 am =>
 opK Tryd.prog E (xV (Instr.loadAt 44 b)) am fun an ao =>
 opK Tryd.prog E (xU (Instr.storeAt 44 a an)) ao fun _ j =>
 xcell Tryd.prog 44 a j fun ap =>
 R (Value.tuple #[ap, i]) j)
def h47 : Hint := (.seq .none (.seq (.seq .none (.seq .none (.cond (.seq .none .none) .none))) (.seq .none (.seq .none (.seq .none (.seq .none .none))))))
theorem c0n {x0 x1 x2 x3 : Value} {w : World} {R : Value → World → Prop} {E : Pan} (h : F47 x0 x1 x2 x3 w R E) : Cv Tryd.prog 47 #[x0, x1, x2, x3] w R E := okF (args := [x0, x1, x2, x3]) (h := h47) Tryd.func47 (by kernel_rfl) (by kernel_rfl) h
def F48 (x0 x1 x2 : Value) (w : World) (R : Value → World → Prop) (E : Pan) : Prop :=
 opK Tryd.prog E (xV (Instr.box 44 x1)) w fun d e =>
 dX e fun a =>
 qP Tryd.prog (xV (Instr.fieldAt 44 d 0)) fun b =>
 qP Tryd.prog (xNil x0) fun f =>
 qP Tryd.prog (xV (Instr.fieldAt 59 f 0)) fun g =>
 qP Tryd.prog (xV (Instr.fieldAt 30 g 0)) fun c =>
 qL Tryd.prog a (blk b) (xV (Instr.loadAt 3 b)) fun i =>
 qL Tryd.prog a (blk c) (xV (Instr.loadAt 26 c)) fun j =>
 qP Tryd.prog (xBuiltin .len #[26] 3 [false] [j]) fun k =>
 qP Tryd.prog (xBin .geq 3 (.tmp 8) (.tmp 14) i k) fun l =>
 xcond l
 (opK Tryd.prog E (xBin .add 3 (.tmp 16) (.const (Value.int .i64 1)) x2 (Value.int .i64 1)) a fun m n =>
 R m n)
 (R x2 a)
def h48 : Hint := (.seq .none (.seq (.seq (.reg [(0, 128, 16), (1, 256, 128), (0, 512, 1), (4, 1024, 512), (8, 2048, 1024), (16, 4096, 2048), (32, 8192, 4096), (64, 16384, 8192), (130, 32768, 16640)] [66, 64, 66, 66, 66, 66, 2, 66, 66] (.early 0 (.early 2 (.early 3 (.early 4 (.early 5 (.load 1 (.load 6 (.early 7 (.early 8 .done)))))))))) (.cond (.seq .none .none) .none)) (.seq .none .none)))
theorem c0o {x0 x1 x2 : Value} {w : World} {R : Value → World → Prop} {E : Pan} (h : F48 x0 x1 x2 w R E) : Cv Tryd.prog 48 #[x0, x1, x2] w R E := okF (args := [x0, x1, x2]) (h := h48) Tryd.func48 (by kernel_rfl) (by kernel_rfl) h
def F49 (x0 : Value) (w : World) (R : Value → World → Prop) (E : Pan) : Prop :=
 opK Tryd.prog E (xV (Instr.box 41 x0)) w fun g k =>
 dX k fun a =>
 qP Tryd.prog (xV (Instr.fieldAt 41 g 0)) fun i =>
 qP Tryd.prog (xV (Instr.fieldAt 41 g 1)) fun b =>
 qL Tryd.prog a (blk i) (xV (Instr.loadAt 27 i)) fun l =>
 qL Tryd.prog a (blk b) (xV (Instr.loadAt 37 b)) fun m =>
 opK Tryd.prog E (xCall (Value.func (.func 56) #[] #[]) [l, (Value.func (.func 57) #[] #[])]) a fun n c =>
 keepX [(blk b)] a c (opK Tryd.prog E (xCall (Value.func (.func 58) #[] #[]) [m, (Value.func (.func 59) #[] #[])]) c fun o d =>
 keepX [] c d (opK Tryd.prog E (xV (Instr.buildSlice 135 2 #[(0, n), (1, o)])) d fun p e =>
 keepX [] d e (opK Tryd.prog E (xCall (Value.func (.func 55) #[] #[]) [p]) e fun q f =>
 keepX [] e f (opK Tryd.prog E (xCall (Value.func (.func 54) #[] #[]) [q]) f fun r j =>
 keepX [] f j (R r j)))))
def h49 : Hint := (.seq .none (.seq (.reg [(0, 8, 2), (1, 16, 8), (2, 32, 16), (0, 64, 2), (8, 128, 64), (20, 256, 128), (36, 512, 288), (96, 1024, 512), (128, 2048, 1024), (511, 4, 2048)] [18, 16, 16, 18, 2, 0, 0, 0, 0, 18] (.early 0 (.early 3 (.load 1 (.load 4 (.step 2 (.step 5 (.step 6 (.step 7 (.step 8 (.early 9 .done))))))))))) .none))
theorem c0p {x0 : Value} {w : World} {R : Value → World → Prop} {E : Pan} (h : F49 x0 w R E) : Cv Tryd.prog 49 #[x0] w R E := okF (args := [x0]) (h := h49) Tryd.func49 (by kernel_rfl) (by kernel_rfl) h
def b5O (x0 x20 x21 x22 : Value) (w : World) (next2 : List Value → World → Prop) (R : Value → World → Prop) (E : Pan) : Prop :=
 opK Tryd.prog E (xBin .lss 3 (.tmp 22) (.tmp 21) x22 x21) w fun c a =>
 xcond c
 (opK Tryd.prog E (xV (Instr.indexAt 36 x20 x22)) a fun d e =>
 opK Tryd.prog E (xV (Instr.loadAt 89 d)) e fun f g =>
 opK Tryd.prog E (xV (Instr.alloc 89 true (.tuple #[]))) g fun b i =>
 opK Tryd.prog E (xU (Instr.storeAt 89 b f)) i fun _ j =>
 opK Tryd.prog E (xV (Instr.loadAt 89 b)) j fun k l =>
 opK Tryd.prog E (xCall (Value.func (.func 50) #[] #[]) [x0, k]) l fun _t28_21 m =>
 opK Tryd.prog E (xBin .add 3 (.tmp 22) (.const (Value.int .i64 1)) x22 (Value.int .i64 1)) m fun n o =>
 next2 [n] o)
 (R (Value.tuple #[]) a)
def b2q (x0 x3 : Value) (w : World) (R : Value → World → Prop) (E : Pan) : Prop :=
 ∀ _τ : Fr, (opK Tryd.prog E (xV (Instr.fieldAt 89 x3 3)) w fun b c =>
 opK Tryd.prog E (xV (Instr.loadAt 36 b)) c fun a d =>
 opK Tryd.prog E (xBuiltin .len #[36] 3 [false] [a]) d fun e f =>
 xloop [22] [(Value.int .i64 0)] f fun g i next2 =>
 b5O x0 a e (g 22) i next2 R E)
def b5P (x0 _x3 x9 x10 x11 : Value) (w : World) (next3 : List Value → World → Prop) (j1 : List Value → World → Prop) (_R : Value → World → Prop) (E : Pan) : Prop :=
 opK Tryd.prog E (xBin .lss 3 (.tmp 11) (.tmp 10) x11 x10) w fun c a =>
 xcond c
 (opK Tryd.prog E (xV (Instr.indexAt 23 x9 x11)) a fun d e =>
 opK Tryd.prog E (xV (Instr.loadAt 25 d)) e fun f g =>
 opK Tryd.prog E (xV (Instr.alloc 25 true (.tuple #[]))) g fun b i =>
 opK Tryd.prog E (xU (Instr.storeAt 25 b f)) i fun _ j =>
 opK Tryd.prog E (xV (Instr.loadAt 25 b)) j fun k l =>
 opK Tryd.prog E (xCall (Value.func (.func 51) #[] #[]) [x0, k]) l fun _t17_47 m =>
 opK Tryd.prog E (xBin .add 3 (.tmp 11) (.const (Value.int .i64 1)) x11 (Value.int .i64 1)) m fun n o =>
 next3 [n] o)
 (j1 [] a)
def F50 (x0 x1 : Value) (w : World) (R : Value → World → Prop) (E : Pan) : Prop :=
 opK Tryd.prog E (xV (Instr.box 89 x1)) w fun a c =>
 xcut (fun _ d => b2q x0 a d R E) fun j1 =>
 opK Tryd.prog E (xV (Instr.fieldAt 89 a 2)) c fun e f =>
 opK Tryd.prog E (xV (Instr.loadAt 23 e)) f fun b g =>
 opK Tryd.prog E (xBuiltin .len #[23] 3 [false] [b]) g fun i j =>
 xloop [11] [(Value.int .i64 0)] j fun k l next3 =>
 b5P x0 a b i (k 11) l next3 j1 R E
def h50 : Hint := (.seq .none (.cut [] (.seq .none (.block (.loop [11] (.seq .none (.seq (.cond .none .none) (.seq (.block (.seq .none .none)) .none)))))) (.seq .none (.block (.loop [22] (.seq .none (.seq (.cond .none .none) (.seq (.block (.seq .none .none)) .none))))))))
theorem c0q {x0 x1 : Value} {w : World} {R : Value → World → Prop} {E : Pan} (h : F50 x0 x1 w R E) : Cv Tryd.prog 50 #[x0, x1] w R E := okF (args := [x0, x1]) (h := h50) Tryd.func50 (by kernel_rfl) (by kernel_rfl) h
def b5Q (x0 x37 x38 x39 : Value) (w : World) (next2 : List Value → World → Prop) (R : Value → World → Prop) (E : Pan) : Prop :=
 opK Tryd.prog E (xBin .lss 3 (.tmp 39) (.tmp 38) x39 x38) w fun c a =>
 xcond c
 (opK Tryd.prog E (xV (Instr.indexAt 23 x37 x39)) a fun d e =>
 opK Tryd.prog E (xV (Instr.loadAt 25 d)) e fun f g =>
 opK Tryd.prog E (xV (Instr.alloc 25 true (.tuple #[]))) g fun b i =>
 opK Tryd.prog E (xU (Instr.storeAt 25 b f)) i fun _ j =>
 opK Tryd.prog E (xV (Instr.loadAt 25 b)) j fun k l =>
 opK Tryd.prog E (xCall (Value.func (.func 51) #[] #[]) [x0, k]) l fun _t45_21 m =>
 opK Tryd.prog E (xBin .add 3 (.tmp 39) (.const (Value.int .i64 1)) x39 (Value.int .i64 1)) m fun n o =>
 next2 [n] o)
 (R (Value.tuple #[]) a)
def b2r (x0 x3 : Value) (w : World) (R : Value → World → Prop) (E : Pan) : Prop :=
 ∀ _τ : Fr, (opK Tryd.prog E (xV (Instr.fieldAt 25 x3 3)) w fun b c =>
 opK Tryd.prog E (xV (Instr.loadAt 23 b)) c fun a d =>
 opK Tryd.prog E (xBuiltin .len #[23] 3 [false] [a]) d fun e f =>
 xloop [39] [(Value.int .i64 0)] f fun g i next2 =>
 b5Q x0 a e (g 39) i next2 R E)
def F51 (x0 x1 : Value) (w : World) (R : Value → World → Prop) (E : Pan) : Prop :=
 opK Tryd.prog E (xV (Instr.box 25 x1)) w fun a r =>
 xcut (fun _ s => b2r x0 a s R E) fun j1 =>
 opK Tryd.prog E (xV (Instr.fieldAt 25 a 0)) r fun t u =>
 opK Tryd.prog E (xV (Instr.loadAt 3 t)) u fun k v =>
 opK Tryd.prog E (xBin .eql 3 (.tmp 7) (.const (Value.int .i64 2)) k (Value.int .i64 2)) v fun y l =>
 xcond y
 (dX l fun b =>
 qP Tryd.prog (xNil x0) fun z =>
 qP Tryd.prog (xV (Instr.fieldAt 103 z 0)) fun d =>
 qP Tryd.prog (xV (Instr.fieldAt 25 a 2)) fun m =>
 qL Tryd.prog b (blk d) (xV (Instr.loadAt 101 d)) fun aa =>
 qL Tryd.prog b (blk m) (xV (Instr.loadAt 9 m)) fun ab =>
 qP Tryd.prog (xV (Instr.build 106 #[(0, ab), (1, (Value.int .i64 1))])) fun ac =>
 opK Tryd.prog E (xV (Instr.buildSlice 101 1 #[(0, ac)])) b fun ad e =>
 keepX [(blk d)] b e (opK Tryd.prog E (xBuiltin .append #[101, 101] 101 [false, false] [aa, ad]) e fun ae f =>
 keepX [] e f (qP Tryd.prog (xNil x0) fun af =>
 qP Tryd.prog (xV (Instr.fieldAt 103 af 0)) fun ag =>
 opK Tryd.prog E (xU (Instr.storeAt 101 ag ae)) f fun _ n =>
 keepX [] f n (j1 [] n))))
 (opK Tryd.prog E (xBin .eql 3 (.tmp 7) (.const (Value.int .i64 4)) k (Value.int .i64 4)) l fun ah o =>
 xcond ah
 (dX o fun c =>
 qP Tryd.prog (xNil x0) fun ai =>
 qP Tryd.prog (xV (Instr.fieldAt 103 ai 0)) fun g =>
 qP Tryd.prog (xV (Instr.fieldAt 25 a 2)) fun p =>
 qL Tryd.prog c (blk g) (xV (Instr.loadAt 101 g)) fun aj =>
 qL Tryd.prog c (blk p) (xV (Instr.loadAt 9 p)) fun ak =>
 qP Tryd.prog (xV (Instr.build 106 #[(0, ak), (1, (Value.int .i64 2))])) fun al =>
 opK Tryd.prog E (xV (Instr.buildSlice 101 1 #[(0, al)])) c fun am i =>
 keepX [(blk g)] c i (opK Tryd.prog E (xBuiltin .append #[101, 101] 101 [false, false] [aj, am]) i fun an j =>
 keepX [] i j (qP Tryd.prog (xNil x0) fun ao =>
 qP Tryd.prog (xV (Instr.fieldAt 103 ao 0)) fun ap =>
 opK Tryd.prog E (xU (Instr.storeAt 101 ap an)) j fun _ q =>
 keepX [] j q (j1 [] q))))
 (j1 [] o))
def h51 : Hint := (.seq .none (.cut [] (.seq .none (.block (.seq .none (.cond (.reg [(0, 1024, 1), (0, 2048, 1), (2, 4096, 2048), (4, 8192, 4096), (8, 16384, 8192), (0, 32768, 8), (32, 65536, 32768), (64, 131072, 65536), (128, 262144, 131072), (272, 524288, 278528), (1023, 1048576, 1024), (2047, 2097152, 1048576), (3071, 0, 2621440)] [80, 80, 80, 80, 64, 80, 16, 80, 16, 0, 80, 80, 0] (.early 0 (.early 1 (.early 2 (.early 3 (.early 5 (.load 4 (.load 6 (.early 7 (.step 8 (.step 9 (.early 10 (.early 11 (.step 12 .done)))))))))))))) (.seq .none (.cond (.reg [(0, 16777216, 1), (0, 33554432, 1), (2, 67108864, 33554432), (4, 134217728, 67108864), (8, 268435456, 134217728), (0, 536870912, 8), (32, 1073741824, 536870912), (64, 2147483648, 1073741824), (128, 4294967296, 2147483648), (272, 8589934592, 4563402752), (1023, 17179869184, 16777216), (2047, 34359738368, 17179869184), (3071, 0, 42949672960)] [80, 80, 80, 80, 64, 80, 16, 80, 16, 0, 80, 80, 0] (.early 0 (.early 1 (.early 2 (.early 3 (.early 5 (.load 4 (.load 6 (.early 7 (.step 8 (.step 9 (.early 10 (.early 11 (.step 12 .done)))))))))))))) .none)))))) (.seq .none (.block (.loop [39] (.seq .none (.seq (.cond .none .none) (.seq (.block (.seq .none .none)) .none))))))))
theorem c0r {x0 x1 : Value} {w : World} {R : Value → World → Prop} {E : Pan} (h : F51 x0 x1 w R E) : Cv Tryd.prog 51 #[x0, x1] w R E := okF (args := [x0, x1]) (h := h51) Tryd.func51 (by kernel_rfl) (by kernel_rfl) h
def F52 (x0 : Value) (w : World) (R : Value → World → Prop) (E : Pan) : Prop :=
 opK Tryd.prog E (xV (Instr.build 131 #[(5, (Value.int .i64 3)), (6, (Value.int .i64 4)), (7, (Value.int .i64 5)), (8, (Value.int .i64 6)), (9, (Value.int .i64 7)), (10, (Value.int .i64 8)), (3, (Value.int .i64 9)), (4, (Value.int .i64 10))])) w fun a b =>
 opK Tryd.prog E (xV (Instr.index 131 a x0)) b fun c d =>
 R c d
def h52 : Hint := (.seq .none (.seq .none .none))
theorem c0s {x0 : Value} {w : World} {R : Value → World → Prop} {E : Pan} (h : F52 x0 w R E) : Cv Tryd.prog 52 #[x0] w R E := okF (args := [x0]) (h := h52) Tryd.func52 (by kernel_rfl) (by kernel_rfl) h
def F53 (x0 x1 : Value) (w : World) (R : Value → World → Prop) (E : Pan) : Prop :=
 opK Tryd.prog E (xNil x0) w fun a b =>
 opK Tryd.prog E (xV (Instr.fieldAt 59 a 0)) b fun c d =>
 opK Tryd.prog E (xV (Instr.fieldAt 30 c 1)) d fun e f =>
 opK Tryd.prog E (xV (Instr.loadAt 3 e)) f fun g i =>
 opK Tryd.prog E (xBin .add 3 (.tmp 11) (.const (Value.int .i64 1)) x1 (Value.int .i64 1)) i fun j k =>
 opK Tryd.prog E (xBuiltin .max #[3, 3] 3 [false, false] [g, j]) k fun l m =>
 opK Tryd.prog E (xNil x0) m fun n o =>
 opK Tryd.prog E (xV (Instr.fieldAt 59 n 0)) o fun p q =>
 opK Tryd.prog E (xV (Instr.fieldAt 30 p 1)) q fun r s =>
 opK Tryd.prog E (xU (Instr.storeAt 3 r l)) s fun _ t =>
 opK Tryd.prog E (xNil x0) t fun u v =>
 opK Tryd.prog E (xV (Instr.fieldAt 59 u 0)) v fun y z =>
 opK Tryd.prog E (xV (Instr.fieldAt 30 y 0)) z fun aa ab =>
 opK Tryd.prog E (xV (Instr.loadAt 26 aa)) ab fun ac ad =>
 opK Tryd.prog E (xBuiltin .len #[26] 3 [false] [ac]) ad fun ae af =>
 opK Tryd.prog E (xBin .add 3 (.tmp 22) (.tmp 23) ae x1) af fun ag ah =>
 R ag ah
def h53 : Hint := (.seq .none (.seq .none (.seq .none .none)))
theorem c0t {x0 x1 : Value} {w : World} {R : Value → World → Prop} {E : Pan} (h : F53 x0 x1 w R E) : Cv Tryd.prog 53 #[x0, x1] w R E := okF (args := [x0, x1]) (h := h53) Tryd.func53 (by kernel_rfl) (by kernel_rfl) h
def b2s (x3 : Value) (w : World) (R : Value → World → Prop) (E : Pan) : Prop :=
 ∀ _τ : Fr, (opK Tryd.prog E (xV (Instr.loadAt 117 x3)) w fun a b =>
 R a b)
def F54 (x0 : Value) (w : World) (R : Value → World → Prop) (E : Pan) : Prop :=
 opK Tryd.prog E (xV (Instr.build 116 #[])) w fun f g =>
 opK Tryd.prog E (xV (Instr.box 116 f)) g fun i j =>
 opK Tryd.prog E (xV (Instr.alloc 117 true (.tuple #[]))) j fun a k =>
 opK Tryd.prog E (xU (Instr.storeAt 117 a i)) k fun _ l =>
 opK Tryd.prog E (xV (Instr.alloc 132 true (.tuple #[]))) l fun b m =>
 opK Tryd.prog E (xV (Instr.makeFunc (.func 60) #[] #[a, b])) m fun n o =>
 opK Tryd.prog E (xU (Instr.storeAt 132 b n)) o fun _ p =>
 xcut (fun _ q => b2s a q R E) fun j1 =>
 opK Tryd.prog E (xV (Instr.loadAt 132 b)) p fun r s =>
 opK Tryd.prog E (xCall r [x0, (Value.int .i64 1)]) s fun t u =>
 opK Tryd.prog E (xV (Op.unary .not t)) u fun v c =>
 xcond v
 (j1 [] c)
 (opK Tryd.prog E (xV (Instr.loadAt 117 a)) c fun y z =>
 opK Tryd.prog E (xNil y) z fun aa ab =>
 opK Tryd.prog E (xV (Instr.fieldAt 116 aa 3)) ab fun ac ad =>
 opK Tryd.prog E (xV (Instr.loadAt 4 ac)) ad fun ae d =>
 xcond ae
 (opK Tryd.prog E (xV (Instr.loadAt 117 a)) d fun af ag =>
 opK Tryd.prog E (xNil af) ag fun ah ai =>
 opK Tryd.prog E (xV (Instr.fieldAt 116 ah 2)) ai fun aj ak =>
 opK Tryd.prog E (xU (Instr.storeAt 31 aj (Value.int .i64 30))) ak fun _ al =>
 j1 [] al)
 (opK Tryd.prog E (xV (Instr.loadAt 117 a)) d fun am an =>
 opK Tryd.prog E (xNil am) an fun ao ap =>
 opK Tryd.prog E (xV (Instr.fieldAt 116 ao 4)) ap fun aq ar =>
 opK Tryd.prog E (xV (Instr.loadAt 4 aq)) ar fun au e =>
 xcond au
 (opK Tryd.prog E (xV (Instr.loadAt 117 a)) e fun av aw =>
 opK Tryd.prog E (xNil av) aw fun ax ay =>
 opK Tryd.prog E (xV (Instr.fieldAt 116 ax 2)) ay fun az ba =>
 opK Tryd.prog E (xU (Instr.storeAt 31 az (Value.int .i64 31))) ba fun _ bb =>
 j1 [] bb)
 (j1 [] e)))
def h54 : Hint := (.seq .none (.seq .none (.seq .none (.seq .none (.cut [] (.seq .none (.block (.seq .none (.cond .none (.seq .none (.cond .none (.seq .none (.cond .none .none)))))))) (.seq .none .none))))))
theorem c0u {x0 : Value} {w : World} {R : Value → World → Prop} {E : Pan} (h : F54 x0 w R E) : Cv Tryd.prog 54 #[x0] w R E := okF (args := [x0]) (h := h54) Tryd.func54 (by kernel_rfl) (by kernel_rfl) h
end Go.Proofs.YtaokfhdinhimfaaDoor
