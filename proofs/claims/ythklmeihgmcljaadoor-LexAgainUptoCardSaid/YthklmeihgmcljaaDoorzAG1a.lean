/- The second reading of some of the program's functions, printed by gen2.py off the code; each is held against the code by the kernel. -/
import Derived.Test.YthklmeihgmcljaaDoorProg
import Derived.KernelRfl
import Derived.Test.YthklmeihgmcljaaDoorzAK0
namespace Go.Proofs.YthklmeihgmcljaaDoor
open Go.RowKit
set_option maxRecDepth 100000
def a6S (x0 x6 : Value) (w : World) (R : Value → World → Prop) (E : Pan) : Prop :=
 ∀ _τ : Fr, (opK Tryd.prog E (xCall (Value.func (.func 9) #[] #[]) [x0]) w fun a b =>
 opK Tryd.prog E (xV (Instr.extract a 0)) b fun c d =>
 opK Tryd.prog E (xV (Instr.extract a 1)) d fun e f =>
 opK Tryd.prog E (xV (Instr.extract a 2)) f fun _t56_51 g =>
 opK Tryd.prog E (xV (Instr.alloc 25 true (.tuple #[]))) g fun i j =>
 opK Tryd.prog E (xU (Instr.storeAt 25 i e)) j fun _ k =>
 opK Tryd.prog E (xCall (Value.func (.func 11) #[] #[]) [c, x6]) k fun l m =>
 R l m)
def a6T (_x0 x3 _x6 x9 : Value) (w : World) (next2 : List Value → World → Prop) (j1 : List Value → World → Prop) (_R : Value → World → Prop) (E : Pan) : Prop :=
 opK Tryd.prog E (xBuiltin .len #[23] 3 [false] [x3]) w fun b c =>
 opK Tryd.prog E (xBin .lss 3 (.tmp 41) (.tmp 43) x9 b) c fun d a =>
 xcond d
 (opK Tryd.prog E (xV (Instr.build 33 #[])) a fun e f =>
 opK Tryd.prog E (xV (Instr.indexAt 23 x3 x9)) f fun g i =>
 opK Tryd.prog E (xU (Instr.storeAt 33 g e)) i fun _ j =>
 opK Tryd.prog E (xBin .add 3 (.tmp 45) (.const (Value.int .i64 1)) x9 (Value.int .i64 1)) j fun k l =>
 next2 [k] l)
 (j1 [] a)
def F3 (x0 : Value) (w : World) (R : Value → World → Prop) (E : Pan) : Prop :=
 opK Tryd.prog E (xCall (Value.func (.func 8) #[] #[]) []) w fun l m =>
 opK Tryd.prog E (xV (Op.unary .not l)) m fun n f =>
 xcond n
 (R (Value.bool false) f)
 (opK Tryd.prog E (xCall (Value.func (.func 9) #[] #[]) [x0]) f fun c o =>
 opK Tryd.prog E (xV (Instr.extract c 0)) o fun g p =>
 opK Tryd.prog E (xV (Instr.extract c 1)) p fun q r =>
 opK Tryd.prog E (xV (Instr.extract c 2)) r fun s t =>
 opK Tryd.prog E (xV (Instr.alloc 25 true (.tuple #[]))) t fun i u =>
 opK Tryd.prog E (xU (Instr.storeAt 25 i q)) u fun _ v =>
 opK Tryd.prog E (xCall (Value.func (.func 10) #[] #[]) [x0]) v fun d y =>
 opK Tryd.prog E (xV (Instr.extract d 0)) y fun e z =>
 opK Tryd.prog E (xV (Instr.extract d 1)) z fun aa ab =>
 opK Tryd.prog E (xV (Instr.extract d 2)) ab fun ac ad =>
 opK Tryd.prog E (xV (Instr.alloc 25 true (.tuple #[]))) ad fun j ae =>
 opK Tryd.prog E (xU (Instr.storeAt 25 j aa)) ae fun _ af =>
 opK Tryd.prog E (xCall (Value.func (.func 11) #[] #[]) [g, e]) af fun ag ah =>
 opK Tryd.prog E (xV (Op.unary .not ag)) ah fun a ai =>
 opK Tryd.prog E (gsem (asB a) false (xV (Instr.loadAt 25 i))) ai fun aj ak =>
 opK Tryd.prog E (gsem (asB a) false (xV (Instr.loadAt 25 j))) ak fun al am =>
 opK Tryd.prog E (gsem (asB a) false (xBin .neq 25 (.tmp 32) (.tmp 33) aj al)) am fun an ao =>
 opK Tryd.prog E (xPick a (Value.bool true) an) ao fun b ap =>
 opK Tryd.prog E (gsem (asB b) false (xBin .neq 3 (.tmp 37) (.tmp 38) (gval (asB b) false s) (gval (asB b) false ac))) ap fun aq ar =>
 opK Tryd.prog E (xPick b (Value.bool true) aq) ar fun au k =>
 xcond au
 (R (Value.bool false) k)
 (xcut (fun _ av => a6S x0 e av R E) fun j1 =>
 xloop [9] [(Value.int .i64 0)] k fun aw ax next2 =>
 a6T x0 g e (aw 9) ax next2 j1 R E))
def h3 : Hint := (.seq .none (.seq (.seq .none (.cond (.seq .none .none) .none)) (.seq .none (.seq .none (.seq (.seq .none (.cond (.seq .none .none) .none)) (.cut [] (.seq .none (.block (.loop [9] (.seq (.seq .none (.cond .none .none)) (.seq (.block .none) .none))))) (.seq .none (.seq .none .none))))))))
def a2x (w : World) (R : Value → World → Prop) (_E : Pan) : Prop :=
 ∀ _τ : Fr, (R (Value.bool true) w)
def a4y (x5 x10 x13 : Value) (w : World) (next3 : List Value → World → Prop) (j2 : List Value → World → Prop) (R : Value → World → Prop) (E : Pan) : Prop :=
 opK Tryd.prog E (xBuiltin .len #[23] 3 [false] [x5]) w fun l m =>
 opK Tryd.prog E (xBin .lss 3 (.tmp 64) (.tmp 66) x13 l) m fun n d =>
 xcond n
 (dX d fun c =>
 qP Tryd.prog (xV (Instr.indexAt 23 x10 x13)) fun o =>
 qP Tryd.prog (xV (Instr.fieldAt 33 o 0)) fun e =>
 qP Tryd.prog (xV (Instr.indexAt 23 x5 x13)) fun p =>
 qP Tryd.prog (xV (Instr.fieldAt 33 p 0)) fun f =>
 qL Tryd.prog c (blk e) (xV (Instr.loadAt 3 e)) fun q =>
 qL Tryd.prog c (blk f) (xV (Instr.loadAt 3 f)) fun r =>
 qP Tryd.prog (xBin .neq 3 (.tmp 74) (.tmp 79) q r) fun a =>
 qP Tryd.prog (gsem (asB a) false (xV (Instr.indexAt 23 (gval (asB a) false x10) (gval (asB a) false x13)))) fun s =>
 qP Tryd.prog (gsem (asB a) false (xV (Instr.fieldAt 33 s 1))) fun g =>
 qP Tryd.prog (gsem (asB a) false (xV (Instr.indexAt 23 (gval (asB a) false x5) (gval (asB a) false x13)))) fun t =>
 qP Tryd.prog (gsem (asB a) false (xV (Instr.fieldAt 33 t 1))) fun i =>
 qL Tryd.prog c (blk g) (gsem (asB a) false (xV (Instr.loadAt 9 g))) fun u =>
 qL Tryd.prog c (blk i) (gsem (asB a) false (xV (Instr.loadAt 9 i))) fun v =>
 qP Tryd.prog (gsem (asB a) false (xBin .neq 9 (.tmp 86) (.tmp 91) u v)) fun y =>
 qP Tryd.prog (xPick a (Value.bool true) y) fun b =>
 qP Tryd.prog (gsem (asB b) false (xV (Instr.indexAt 23 (gval (asB b) false x10) (gval (asB b) false x13)))) fun z =>
 qP Tryd.prog (gsem (asB b) false (xV (Instr.fieldAt 33 z 2))) fun j =>
 qP Tryd.prog (gsem (asB b) false (xV (Instr.indexAt 23 (gval (asB b) false x5) (gval (asB b) false x13)))) fun aa =>
 qP Tryd.prog (gsem (asB b) false (xV (Instr.fieldAt 33 aa 2))) fun k =>
 qL Tryd.prog c (blk j) (gsem (asB b) false (xV (Instr.loadAt 2 j))) fun ab =>
 qL Tryd.prog c (blk k) (gsem (asB b) false (xV (Instr.loadAt 2 k))) fun ac =>
 qP Tryd.prog (gsem (asB b) false (xBin .neq 2 (.tmp 99) (.tmp 104) ab ac)) fun ad =>
 qP Tryd.prog (xPick b (Value.bool true) ad) fun ae =>
 xcond ae
 (R (Value.bool false) c)
 (opK Tryd.prog E (xBin .add 3 (.tmp 68) (.const (Value.int .i64 1)) x13 (Value.int .i64 1)) c fun af ag =>
 next3 [af] ag))
 (j2 [] d)
def a2y (x5 x8 : Value) (w : World) (R : Value → World → Prop) (E : Pan) : Prop :=
 ∀ _τ : Fr, (opK Tryd.prog E (xBuiltin .len #[9] 3 [false] [x8]) w fun f g =>
 opK Tryd.prog E (xBin .gtr 3 (.tmp 47) (.const (Value.int .i64 65536)) f (Value.int .i64 65536)) g fun i c =>
 xcond i
 (R (Value.bool true) c)
 (opK Tryd.prog E (xCall (Value.func (.func 9) #[] #[]) [x8]) c fun b j =>
 opK Tryd.prog E (xV (Instr.extract b 0)) j fun d k =>
 opK Tryd.prog E (xV (Instr.extract b 1)) k fun l m =>
 opK Tryd.prog E (xV (Instr.extract b 2)) m fun n o =>
 opK Tryd.prog E (xV (Instr.alloc 25 true (.tuple #[]))) o fun p q =>
 opK Tryd.prog E (xU (Instr.storeAt 25 p l)) q fun _ r =>
 opK Tryd.prog E (xBin .neq 26 (.tmp 55) (.const (Value.int .i64 0)) n (Value.int .i64 0)) r fun a s =>
 opK Tryd.prog E (gsem (asB a) false (xBuiltin .len #[23] 3 [false] [(gval (asB a) false d)])) s fun t u =>
 opK Tryd.prog E (gsem (asB a) false (xBuiltin .len #[23] 3 [false] [(gval (asB a) false x5)])) u fun v y =>
 opK Tryd.prog E (gsem (asB a) false (xBin .neq 3 (.tmp 59) (.tmp 61) t v)) y fun z aa =>
 opK Tryd.prog E (xPick a (Value.bool true) z) aa fun ab e =>
 xcond ab
 (R (Value.bool false) e)
 (xcut (fun _ ac => a2x ac R E) fun j2 =>
 xloop [13] [(Value.int .i64 0)] e fun ad ae next3 =>
 a4y x5 d (ad 13) ae next3 j2 R E)))
def a2z (_x1 _x5 x8 x9 : Value) (w : World) (next4 : List Value → World → Prop) (_R : Value → World → Prop) (E : Pan) : Prop :=
 ∀ _τ : Fr, (opK Tryd.prog E (xBin .add 3 (.tmp 33) (.const (Value.int .i64 1)) x9 (Value.int .i64 1)) w fun a b =>
 next4 [x8, a] b)
def a4z (x1 x5 x8 x9 : Value) (w : World) (next4 : List Value → World → Prop) (j1 : List Value → World → Prop) (R : Value → World → Prop) (E : Pan) : Prop :=
 opK Tryd.prog E (xBuiltin .len #[23] 3 [false] [x5]) w fun d e =>
 opK Tryd.prog E (xBin .lss 3 (.tmp 29) (.tmp 31) x9 d) e fun f a =>
 xcond f
 (xcut (fun g i => a2z x1 x5 (nth g 0) x9 i next4 R E) fun j5 =>
 opK Tryd.prog E (xV (Instr.indexAt 23 x5 x9)) a fun j k =>
 opK Tryd.prog E (xV (Instr.fieldAt 33 j 1)) k fun l m =>
 opK Tryd.prog E (xV (Instr.loadAt 9 l)) m fun n o =>
 opK Tryd.prog E (xBin .add 9 (.tmp 35) (.tmp 40) x8 n) o fun p q =>
 opK Tryd.prog E (xBin .add 9 (.tmp 41) (.const (Value.string ⟨#[32]⟩)) p (Value.string ⟨#[32]⟩)) q fun b c =>
 xcond x1
 (opK Tryd.prog E (xBin .add 9 (.tmp 44) (.const (Value.string ⟨#[35, 32, 61, 32, 10, 9]⟩)) b (Value.string ⟨#[35, 32, 61, 32, 10, 9]⟩)) c fun r s =>
 j5 [r] s)
 (j5 [b] c))
 (j1 [x8] a)
def F4 (x0 x1 : Value) (w : World) (R : Value → World → Prop) (E : Pan) : Prop :=
 opK Tryd.prog E (xCall (Value.func (.func 8) #[] #[]) []) w fun g i =>
 opK Tryd.prog E (xV (Op.unary .not g)) i fun j c =>
 xcond j
 (R (Value.bool false) c)
 (opK Tryd.prog E (xCall (Value.func (.func 9) #[] #[]) [x0]) c fun b k =>
 opK Tryd.prog E (xV (Instr.extract b 0)) k fun d l =>
 opK Tryd.prog E (xV (Instr.extract b 1)) l fun m n =>
 opK Tryd.prog E (xV (Instr.extract b 2)) n fun o p =>
 opK Tryd.prog E (xV (Instr.alloc 25 true (.tuple #[]))) p fun q r =>
 opK Tryd.prog E (xU (Instr.storeAt 25 q m)) r fun _ s =>
 opK Tryd.prog E (xBin .neq 26 (.tmp 22) (.const (Value.int .i64 0)) o (Value.int .i64 0)) s fun a t =>
 opK Tryd.prog E (gsem (asB a) false (xBuiltin .len #[9] 3 [false] [(gval (asB a) false x0)])) t fun u v =>
 opK Tryd.prog E (gsem (asB a) false (xBin .gtr 3 (.tmp 26) (.const (Value.int .i64 8000)) u (Value.int .i64 8000))) v fun y z =>
 opK Tryd.prog E (xPick a (Value.bool true) y) z fun aa e =>
 xcond aa
 (R (Value.bool true) e)
 (xcut (fun ab ac => a2y d (nth ab 0) ac R E) fun j1 =>
 xloop [8, 9] [(Value.string ⟨#[]⟩), (Value.int .i64 0)] e fun f ad next4 =>
 a4z x1 d (f 8) (f 9) ad next4 j1 R E))
def h4 : Hint := (.seq .none (.seq (.seq .none (.cond (.seq .none .none) .none)) (.seq .none (.seq (.seq .none (.cond (.seq .none .none) .none)) (.seq .none (.cut [8] (.seq .none (.block (.loop [8, 9] (.seq (.seq .none (.cond .none .none)) (.cut [8] (.block (.seq .none (.seq .none (.cond .none .none)))) .none))))) (.seq (.seq .none (.cond (.seq .none .none) .none)) (.seq .none (.seq (.seq .none (.cond (.seq .none .none) .none)) (.cut [] (.seq .none (.block (.loop [13] (.seq (.seq .none (.cond .none .none)) (.seq (.block (.seq (.reg [(0, 1180591620717411303424, 1024), (0, 2361183241434822606848, 8192), (3, 4722366482869645213696, 3541774862152233910272), (4, 9444732965739290427392, 4722366482869645213696), (8, 18889465931478580854784, 9444732965739290427392), (0, 37778931862957161709568, 32), (0, 75557863725914323419136, 8192), (96, 151115727451828646838272, 113336795588871485128704), (128, 302231454903657293676544, 151115727451828646838272), (256, 604462909807314587353088, 302231454903657293676544), (528, 1208925819614629174706176, 623352375738793168207872), (1024, 2417851639229258349412352, 1208925819614629174706176), (2048, 4835703278458516698824704, 2417851639229258349413376), (2048, 9671406556917033397649408, 2417851639229258349420544), (14336, 19342813113834066795298816, 16924961474604808445886464), (18432, 38685626227668133590597632, 21760664753063325144711168), (34816, 77371252455336267181195264, 41103477866897391940009984), (2048, 154742504910672534362390528, 2417851639229258349412384), (2048, 309485009821345068724781056, 2417851639229258349420544), (395264, 618970019642690137449562112, 466645366371246861436583936), (526336, 1237940039285380274899124224, 621387871281919395798974464), (1050624, 2475880078570760549798248448, 1240357890924609533248536576), (2164736, 4951760157141521099596496896, 2555669182665326075328856064), (4196352, 9903520314283042199192993792, 4954178008780750357945909248), (8390656, 19807040628566084398385987584, 9903520314283042199192993792), (16777216, 39614081257132168796771975168, 19807040628566084398385988608), (16777216, 79228162514264337593543950336, 19807040628566084398385995776), (117440512, 158456325028528675187087900672, 138649284399962590788701913088), (150994944, 316912650057057350374175801344, 178263365657094759585473888256), (285212672, 633825300114114700748351602688, 336719690685623434772561788928), (16777216, 1267650600228229401496703205376, 19807040628566084398385987616), (16777216, 2535301200456458802993406410752, 19807040628566084398385995776), (3238002688, 5070602400912917605986812821504, 3822758841313254288888495603712), (4311744512, 10141204801825835211973625643008, 5090409441541483690385198809088), (8606711808, 20282409603651670423947251286016, 10161011842454401296372011630592), (17733517312, 40564819207303340847894502572032, 20936041944394351209093988876288), (34376515584, 81129638414606681695789005144064, 40584626247931906932292888559616)] [17718903312, 17718903312, 17718903312, 17718903312, 17718903296, 17718903312, 17718903312, 17718903312, 17718903312, 17718902800, 17718903312, 17718903312, 17718903312, 17718903312, 17718903312, 17718903312, 17718837776, 17718903312, 17718903312, 17718903312, 17718903312, 17716806160, 17718903312, 17718903312, 17718903312, 17718903312, 17718903312, 17718903312, 17718903312, 17182032400, 17718903312, 17718903312, 17718903312, 17718903312, 539034128, 17718903312, 17718903312] (.early 0 (.early 1 (.early 2 (.early 3 (.early 5 (.early 6 (.early 7 (.early 8 (.load 4 (.load 9 (.early 10 (.early 11 (.early 12 (.early 13 (.early 14 (.early 15 (.early 17 (.early 18 (.early 19 (.early 20 (.load 16 (.load 21 (.early 22 (.early 23 (.early 24 (.early 25 (.early 26 (.early 27 (.early 28 (.early 30 (.early 31 (.early 32 (.early 33 (.load 29 (.load 34 (.early 35 (.early 36 .done)))))))))))))))))))))))))))))))))))))) (.cond (.seq .none .none) .none))) .none))))) (.seq .none .none)))))))))))
theorem a6U {x0 x1 : Value} {w : World} {R : Value → World → Prop} {E : Pan} (h : F4 x0 x1 w R E) : Cv Tryd.prog 4 #[x0, x1] w R E := okF (args := [x0, x1]) (h := h4) Tryd.func4 (by kernel_rfl) (by kernel_rfl) h
def F5 (x0 : Value) (w : World) (R : Value → World → Prop) (E : Pan) : Prop :=
 opK Tryd.prog E (xCall (Value.func (.func 8) #[] #[]) []) w fun t u =>
 opK Tryd.prog E (xV (Op.unary .not t)) u fun v p =>
 xcond v
 (R (Value.bool false) p)
 (opK Tryd.prog E (xBin .lss 2 (.tmp 16) (.const (Value.int .i64 0)) x0 (Value.int .i64 0)) p fun y q =>
 xcond y
 (R (Value.bool true) q)
 (opK Tryd.prog E (xCall (Value.func (.func 12) #[] #[]) [x0]) q fun d z =>
 opK Tryd.prog E (xCall (Value.func (.func 9) #[] #[]) [d]) z fun i aa =>
 opK Tryd.prog E (xV (Instr.extract i 0)) aa fun r ab =>
 opK Tryd.prog E (xV (Instr.extract i 1)) ab fun ac ad =>
 opK Tryd.prog E (xV (Instr.extract i 2)) ad fun ae af =>
 opK Tryd.prog E (xV (Instr.alloc 25 true (.tuple #[]))) af fun ag ah =>
 opK Tryd.prog E (xU (Instr.storeAt 25 ag ac)) ah fun _ ai =>
 opK Tryd.prog E (xBin .add 9 (.const (Value.string ⟨#[48]⟩)) (.tmp 27) (Value.string ⟨#[48]⟩) d) ai fun aj ak =>
 opK Tryd.prog E (xCall (Value.func (.func 9) #[] #[]) [aj]) ak fun j al =>
 opK Tryd.prog E (xV (Instr.extract j 0)) al fun _t30_25 am =>
 opK Tryd.prog E (xV (Instr.extract j 1)) am fun an ao =>
 opK Tryd.prog E (xV (Instr.extract j 2)) ao fun ap aq =>
 opK Tryd.prog E (xV (Instr.alloc 25 true (.tuple #[]))) aq fun k ar =>
 opK Tryd.prog E (xU (Instr.storeAt 25 k an)) ar fun _ au =>
 opK Tryd.prog E (xBin .add 9 (.tmp 34) (.const (Value.string ⟨#[120]⟩)) d (Value.string ⟨#[120]⟩)) au fun av aw =>
 opK Tryd.prog E (xCall (Value.func (.func 9) #[] #[]) [av]) aw fun l ax =>
 opK Tryd.prog E (xV (Instr.extract l 0)) ax fun _t37_39 ay =>
 opK Tryd.prog E (xV (Instr.extract l 1)) ay fun az ba =>
 opK Tryd.prog E (xV (Instr.extract l 2)) ba fun bb bc =>
 opK Tryd.prog E (xV (Instr.alloc 25 true (.tuple #[]))) bc fun m bd =>
 opK Tryd.prog E (xU (Instr.storeAt 25 m az)) bd fun _ be =>
 opK Tryd.prog E (xV (Instr.build 25 #[(0, (Value.int .i64 1)), (1, (Value.int .i64 1))])) be fun bf bg =>
 opK Tryd.prog E (xV (Instr.alloc 25 true (.tuple #[]))) bg fun b bh =>
 opK Tryd.prog E (xU (Instr.storeAt 25 b bf)) bh fun _ bi =>
 dX bi fun c =>
 qP Tryd.prog (xBin .eql 26 (.tmp 41) (.const (Value.int .i64 0)) ae (Value.int .i64 0)) fun e =>
 qP Tryd.prog (gsem (asB e) true (xBuiltin .len #[23] 3 [false] [(gval (asB e) true r)])) fun bj =>
 qP Tryd.prog (gsem (asB e) true (xBin .eql 3 (.tmp 45) (.const (Value.int .i64 2)) bj (Value.int .i64 2))) fun bk =>
 qP Tryd.prog (xPick e bk (Value.bool false)) fun a =>
 qP Tryd.prog (gsem (asB a) true (xV (Instr.indexAt 23 (gval (asB a) true r) (Value.int .i64 0)))) fun s =>
 qL Tryd.prog c (blk s) (gsem (asB a) true (xV (Instr.loadAt 33 s))) fun bl =>
 qL Tryd.prog c (blk b) (gsem (asB a) true (xV (Instr.loadAt 25 b))) fun bm =>
 qP Tryd.prog (gsem (asB a) true (xV (Instr.build 33 #[(0, (Value.int .i64 2)), (1, (gval (asB a) true d)), (2, (gval (asB a) true x0)), (3, bm)]))) fun bn =>
 qP Tryd.prog (gsem (asB a) true (xBin .eql 33 (.tmp 51) (.tmp 55) bl bn)) fun bo =>
 qP Tryd.prog (xPick a bo (Value.bool false)) fun n =>
 qP Tryd.prog (gsem (asB n) true (xBin .eql 26 (.tmp 59) (.const (Value.int .i64 21)) (gval (asB n) true ap) (Value.int .i64 21))) fun bp =>
 qP Tryd.prog (xPick n bp (Value.bool false)) fun f =>
 qL Tryd.prog c (blk k) (gsem (asB f) true (xV (Instr.loadAt 25 k))) fun bq =>
 qL Tryd.prog c (blk b) (gsem (asB f) true (xV (Instr.loadAt 25 b))) fun br =>
 qP Tryd.prog (gsem (asB f) true (xBin .eql 25 (.tmp 63) (.tmp 64) bq br)) fun bs =>
 qP Tryd.prog (xPick f bs (Value.bool false)) fun o =>
 qP Tryd.prog (gsem (asB o) true (xBin .eql 26 (.tmp 68) (.const (Value.int .i64 21)) (gval (asB o) true bb) (Value.int .i64 21))) fun bt =>
 qP Tryd.prog (xPick o bt (Value.bool false)) fun g =>
 qL Tryd.prog c (blk m) (gsem (asB g) true (xV (Instr.loadAt 25 m))) fun bu =>
 qL Tryd.prog c (blk b) (gsem (asB g) true (xV (Instr.loadAt 25 b))) fun bv =>
 qP Tryd.prog (gsem (asB g) true (xBin .eql 25 (.tmp 72) (.tmp 73) bu bv)) fun bw =>
 qP Tryd.prog (xPick g bw (Value.bool false)) fun bz =>
 R bz c))
def h5 : Hint := (.seq .none (.seq (.seq .none (.cond (.seq .none .none) .none)) (.seq (.seq .none (.cond (.seq .none .none) .none)) (.seq .none (.seq .none (.seq .none (.seq .none (.seq .none (.seq (.reg [(0, 2199023255552, 64), (1, 4398046511104, 2199023255552), (2, 8796093022208, 4398046511104), (4, 17592186044416, 8796093022224), (12, 35184372088832, 26388279066624), (20, 70368744177664, 43980465111040), (36, 140737488355328, 79164837199872), (68, 281474976710656, 140737488355328), (128, 562949953421312, 281474976710672), (384, 1125899906842624, 844424930131968), (640, 2251799813685248, 1407374883553280), (128, 4503599627370496, 281474976710664), (128, 9007199254740992, 281474976710657), (128, 18014398509481984, 281474976718848), (14464, 36028797018963968, 31806672368304128), (17536, 72057594037927936, 38562071809359872), (32896, 144115188075855872, 72339069014638592), (65664, 288230376151711744, 144115188075855872), (131072, 576460752303423488, 288230376151712256), (393216, 1152921504606846976, 864691128455135232), (655360, 2305843009213693952, 1441151880758558720), (1179648, 4611686018427387904, 2305843009213693952), (2097152, 9223372036854775808, 4611686018427388160), (2097152, 18446744073709551616, 4611686018427396096), (14680064, 36893488147419103232, 32281802128991715328), (18874368, 73786976294838206464, 41505174165846491136), (35651584, 147573952589676412928, 73786976294838206464), (67108864, 295147905179352825856, 147573952589676417024), (201326592, 590295810358705651712, 442721857769029238784), (335544320, 1180591620717411303424, 737869762948382064640), (603979776, 2361183241434822606848, 1180591620717411303424), (1073741824, 4722366482869645213696, 2361183241434822608896), (1073741824, 9444732965739290427392, 2361183241434822615040), (7516192768, 18889465931478580854784, 16528282690043758247936), (9663676416, 37778931862957161709568, 21250649172913403461632), (34359738367, 4, 37778931862957161709568)] [6455043072, 6455043072, 6455043072, 6455043072, 6455043072, 6455043072, 6455043072, 6455043072, 6455043072, 6455043072, 6455042048, 6455043072, 6455043072, 6455034880, 6455043072, 6455043072, 6455043072, 6455043072, 6455043072, 6455043072, 6455043072, 6455043072, 6450848768, 6446654464, 6455043072, 6455043072, 6455043072, 6455043072, 6455043072, 6455043072, 6455043072, 4307559424, 2160075776, 6455043072, 6455043072, 6455043072] (.early 0 (.early 1 (.early 2 (.early 3 (.early 4 (.early 5 (.early 6 (.early 7 (.early 8 (.early 9 (.early 11 (.early 12 (.load 10 (.load 13 (.early 14 (.early 15 (.early 16 (.early 17 (.early 18 (.early 19 (.early 20 (.early 21 (.load 22 (.load 23 (.early 24 (.early 25 (.early 26 (.early 27 (.early 28 (.early 29 (.early 30 (.load 31 (.load 32 (.early 33 (.early 34 (.early 35 .done))))))))))))))))))))))))))))))))))))) .none)))))))))
def h6 : Hint := (.seq .none (.seq (.seq .none (.cond (.seq .none .none) .none)) (.seq (.seq .none (.cond (.seq .none .none) .none)) (.seq .none (.cut [5] (.seq .none (.block (.loop [5, 6] (.seq (.seq .none (.cond .none .none)) (.seq (.block .none) .none))))) (.cut [5] (.seq .none (.block (.loop [5, 7] (.seq (.seq .none (.cond .none .none)) (.seq (.block .none) .none))))) (.seq .none (.seq .none .none))))))))
def h7 : Hint := (.seq .none (.seq .none .none))
def F8 (w : World) (R : Value → World → Prop) (E : Pan) : Prop :=
 opK Tryd.prog E (xCall (Value.func (.func 9) #[] #[]) [(Value.string ⟨#[120, 49, 60, 61, 45, 53, 35, 99]⟩)]) w fun g l =>
 opK Tryd.prog E (xV (Instr.extract g 0)) l fun d m =>
 opK Tryd.prog E (xV (Instr.extract g 1)) m fun n o =>
 opK Tryd.prog E (xV (Instr.extract g 2)) o fun p q =>
 opK Tryd.prog E (xV (Instr.alloc 25 true (.tuple #[]))) q fun r s =>
 opK Tryd.prog E (xU (Instr.storeAt 25 r n)) s fun _ t =>
 opK Tryd.prog E (xCall (Value.func (.func 9) #[] #[]) [(Value.string ⟨#[97, 32, 38, 32, 98]⟩)]) t fun i u =>
 opK Tryd.prog E (xV (Instr.extract i 0)) u fun _t14_15 v =>
 opK Tryd.prog E (xV (Instr.extract i 1)) v fun y z =>
 opK Tryd.prog E (xV (Instr.extract i 2)) z fun aa ab =>
 opK Tryd.prog E (xV (Instr.alloc 25 true (.tuple #[]))) ab fun k ac =>
 opK Tryd.prog E (xU (Instr.storeAt 25 k y)) ac fun _ ad =>
 opK Tryd.prog E (xBin .eql 26 (.tmp 17) (.const (Value.int .i64 0)) p (Value.int .i64 0)) ad fun e ae =>
 opK Tryd.prog E (gsem (asB e) true (xBuiltin .len #[23] 3 [false] [(gval (asB e) true d)])) ae fun af ag =>
 opK Tryd.prog E (gsem (asB e) true (xBin .eql 3 (.tmp 21) (.const (Value.int .i64 5)) af (Value.int .i64 5))) ag fun ah ai =>
 opK Tryd.prog E (xPick e ah (Value.bool false)) ai fun b aj =>
 opK Tryd.prog E (gsem (asB b) true (xV (Instr.indexAt 23 (gval (asB b) true d) (Value.int .i64 1)))) aj fun ak al =>
 opK Tryd.prog E (gsem (asB b) true (xV (Instr.fieldAt 33 ak 1))) al fun am an =>
 opK Tryd.prog E (gsem (asB b) true (xV (Instr.loadAt 9 am))) an fun ao ap =>
 opK Tryd.prog E (gsem (asB b) true (xBin .eql 9 (.tmp 28) (.const (Value.string ⟨#[60, 61]⟩)) ao (Value.string ⟨#[60, 61]⟩))) ap fun aq ar =>
 opK Tryd.prog E (xPick b aq (Value.bool false)) ar fun c au =>
 opK Tryd.prog E (gsem (asB c) true (xV (Instr.indexAt 23 (gval (asB c) true d) (Value.int .i64 3)))) au fun av aw =>
 opK Tryd.prog E (gsem (asB c) true (xV (Instr.fieldAt 33 av 2))) aw fun ax ay =>
 opK Tryd.prog E (gsem (asB c) true (xV (Instr.loadAt 2 ax))) ay fun az ba =>
 opK Tryd.prog E (gsem (asB c) true (xBin .eql 2 (.tmp 35) (.const (Value.int .i64 5)) az (Value.int .i64 5))) ba fun bb bc =>
 opK Tryd.prog E (xPick c bb (Value.bool false)) bc fun a bd =>
 opK Tryd.prog E (gsem (asB a) true (xV (Instr.indexAt 23 (gval (asB a) true d) (Value.int .i64 4)))) bd fun be bf =>
 opK Tryd.prog E (gsem (asB a) true (xV (Instr.fieldAt 33 be 3))) bf fun bg bh =>
 opK Tryd.prog E (gsem (asB a) true (xV (Instr.loadAt 25 bg))) bh fun bi bj =>
 opK Tryd.prog E (gsem (asB a) true (xV (Instr.build 25 #[(0, (Value.int .i64 1)), (1, (Value.int .i64 9))]))) bj fun bk bl =>
 opK Tryd.prog E (gsem (asB a) true (xBin .eql 25 (.tmp 42) (.tmp 43) bi bk)) bl fun bm bn =>
 opK Tryd.prog E (xPick a bm (Value.bool false)) bn fun j bo =>
 opK Tryd.prog E (gsem (asB j) true (xBin .eql 26 (.tmp 47) (.const (Value.int .i64 20)) (gval (asB j) true aa) (Value.int .i64 20))) bo fun bp bq =>
 opK Tryd.prog E (xPick j bp (Value.bool false)) bq fun f br =>
 opK Tryd.prog E (gsem (asB f) true (xV (Instr.loadAt 25 k))) br fun bs bt =>
 opK Tryd.prog E (gsem (asB f) true (xV (Instr.build 25 #[(0, (Value.int .i64 1)), (1, (Value.int .i64 3))]))) bt fun bu bv =>
 opK Tryd.prog E (gsem (asB f) true (xBin .eql 25 (.tmp 51) (.tmp 52) bs bu)) bv fun bw bz =>
 opK Tryd.prog E (xPick f bw (Value.bool false)) bz fun ca cb =>
 R ca cb
def h8 : Hint := (.seq .none (.seq .none (.seq .none (.seq .none .none))))
theorem a6V {w : World} {R : Value → World → Prop} {E : Pan} (h : F8  w R E) : Cv Tryd.prog 8 #[] w R E := okF (args := []) (h := h8) Tryd.func8 (by kernel_rfl) (by kernel_rfl) h
def a4A (x3 x7 : Value) (w : World) (R : Value → World → Prop) (E : Pan) : Prop :=
 ∀ _τ : Fr, (dX w fun a =>
 qP Tryd.prog (xNil x7) fun g =>
 qP Tryd.prog (xV (Instr.fieldAt 44 g 3)) fun b =>
 qP Tryd.prog (xNil x7) fun i =>
 qP Tryd.prog (xV (Instr.fieldAt 44 i 2)) fun f =>
 qP Tryd.prog (xV (Instr.build 25 #[])) fun j =>
 qL Tryd.prog a (blk b) (xV (Instr.loadAt 23 b)) fun k =>
 qL Tryd.prog a (blk f) (xV (Instr.loadAt 25 f)) fun l =>
 qP Tryd.prog (xV (Instr.build 33 #[(0, (Value.int .i64 5)), (3, l)])) fun m =>
 opK Tryd.prog E (xV (Instr.buildSlice 23 1 #[(0, m)])) a fun n c =>
 keepX [(blk b)] a c (opK Tryd.prog E (xBuiltin .append #[23, 23] 23 [false, false] [k, n]) c fun o d =>
 keepX [] c d (opK Tryd.prog E (xU (Instr.storeAt 25 x3 j)) d fun _ e =>
 keepX [] d e (xcell Tryd.prog 25 x3 e fun p =>
 R (Value.tuple #[o, p, (Value.int .i64 0)]) e))))
def a4B (x0 x3 x7 : Value) (w : World) (next2 : List Value → World → Prop) (j1 : List Value → World → Prop) (R : Value → World → Prop) (E : Pan) : Prop :=
 opK Tryd.prog E (xNil x7) w fun s t =>
 opK Tryd.prog E (xV (Instr.fieldAt 44 s 1)) t fun u v =>
 opK Tryd.prog E (xV (Instr.loadAt 3 u)) v fun y z =>
 opK Tryd.prog E (xBuiltin .len #[9] 3 [false] [x0]) z fun aa ab =>
 opK Tryd.prog E (xBin .lss 3 (.tmp 34) (.tmp 36) y aa) ab fun ac l =>
 xcond ac
 (opK Tryd.prog E (xNil x7) l fun ad ae =>
 opK Tryd.prog E (xV (Instr.fieldAt 44 ad 2)) ae fun af ag =>
 opK Tryd.prog E (xV (Instr.loadAt 25 af)) ag fun ah ai =>
 opK Tryd.prog E (xV (Instr.alloc 25 true (.tuple #[]))) ai fun a aj =>
 opK Tryd.prog E (xU (Instr.storeAt 25 a ah)) aj fun _ ak =>
 opK Tryd.prog E (xNil x7) ak fun al am =>
 opK Tryd.prog E (xV (Instr.fieldAt 44 al 3)) am fun an ao =>
 opK Tryd.prog E (xV (Instr.loadAt 23 an)) ao fun ap aq =>
 opK Tryd.prog E (xBuiltin .len #[23] 3 [false] [ap]) aq fun ar au =>
 opK Tryd.prog E (xBin .eql 3 (.tmp 48) (.const (Value.int .i64 32768)) ar (Value.int .i64 32768)) au fun av m =>
 xcond av
 (dX m fun d =>
 qL Tryd.prog d (blk a) (xV (Instr.loadAt 25 a)) fun aw =>
 opK Tryd.prog E (xU (Instr.storeAt 25 x3 aw)) d fun _ e =>
 keepX [] d e (xcell Tryd.prog 25 x3 e fun ax =>
 R (Value.tuple #[(Value.slice none 0 0), ax, (Value.int .i64 23)]) e))
 (opK Tryd.prog E (xCall (Value.func (.func 20) #[] #[]) [x7]) m fun n ay =>
 opK Tryd.prog E (xV (Instr.extract n 0)) ay fun az ba =>
 opK Tryd.prog E (xV (Instr.extract n 1)) ba fun _t55_81 bb =>
 opK Tryd.prog E (xCall (Value.func (.func 21) #[] #[]) [x7, az]) bb fun bc bd =>
 opK Tryd.prog E (xCall bc []) bd fun o be =>
 opK Tryd.prog E (xV (Instr.extract o 0)) be fun bf bg =>
 opK Tryd.prog E (xV (Instr.extract o 1)) bg fun p bh =>
 opK Tryd.prog E (xV (Instr.alloc 33 true (.tuple #[]))) bh fun b bi =>
 opK Tryd.prog E (xU (Instr.storeAt 33 b bf)) bi fun _ bj =>
 opK Tryd.prog E (xBin .neq 26 (.tmp 63) (.const (Value.int .i64 0)) p (Value.int .i64 0)) bj fun bk q =>
 xcond bk
 (dX q fun f =>
 qL Tryd.prog f (blk a) (xV (Instr.loadAt 25 a)) fun bl =>
 opK Tryd.prog E (xU (Instr.storeAt 25 x3 bl)) f fun _ g =>
 keepX [] f g (xcell Tryd.prog 25 x3 g fun bm =>
 R (Value.tuple #[(Value.slice none 0 0), bm, p]) g))
 (opK Tryd.prog E (xV (Instr.loadAt 25 a)) q fun bn bo =>
 opK Tryd.prog E (xV (Instr.fieldAt 33 b 3)) bo fun bp bq =>
 opK Tryd.prog E (xU (Instr.storeAt 25 bp bn)) bq fun _ br =>
 dX br fun c =>
 qP Tryd.prog (xNil x7) fun bs =>
 qP Tryd.prog (xV (Instr.fieldAt 44 bs 3)) fun i =>
 qL Tryd.prog c (blk i) (xV (Instr.loadAt 23 i)) fun bt =>
 qL Tryd.prog c (blk b) (xV (Instr.loadAt 33 b)) fun bu =>
 opK Tryd.prog E (xV (Instr.buildSlice 23 1 #[(0, bu)])) c fun bv j =>
 keepX [(blk i)] c j (opK Tryd.prog E (xBuiltin .append #[23, 23] 23 [false, false] [bt, bv]) j fun bw k =>
 keepX [] j k (qP Tryd.prog (xNil x7) fun bz =>
 qP Tryd.prog (xV (Instr.fieldAt 44 bz 3)) fun ca =>
 opK Tryd.prog E (xU (Instr.storeAt 23 ca bw)) k fun _ r =>
 keepX [] k r (opK Tryd.prog E (xCall (Value.func (.func 19) #[] #[]) [x7]) r fun _t39_121 cb =>
 next2 [] cb))))))
 (j1 [] l)
def F9 (x0 : Value) (w : World) (R : Value → World → Prop) (E : Pan) : Prop :=
 opK Tryd.prog E (xV (Instr.alloc 25 true (.tuple #[]))) w fun a g =>
 opK Tryd.prog E (xCall (Value.func (.func 17) #[] #[]) [x0]) g fun c i =>
 opK Tryd.prog E (xV (Instr.extract c 0)) i fun j k =>
 opK Tryd.prog E (xV (Instr.extract c 1)) k fun d l =>
 opK Tryd.prog E (xBin .neq 26 (.tmp 18) (.const (Value.int .i64 0)) d (Value.int .i64 0)) l fun m e =>
 xcond m
 (opK Tryd.prog E (xCall (Value.func (.func 18) #[] #[]) [x0, j]) e fun n o =>
 opK Tryd.prog E (xU (Instr.storeAt 25 a n)) o fun _ f =>
 xcell Tryd.prog 25 a f fun p =>
 R (Value.tuple #[(Value.slice none 0 0), p, d]) f)
 (opK Tryd.prog E (xCall (Value.func (.func 18) #[] #[]) [x0, (Value.int .i64 0)]) e fun q r =>
 opK Tryd.prog E (xV (Instr.build 44 #[(0, x0), (2, q)])) r fun s t =>
 opK Tryd.prog E (xV (Instr.box 44 s)) t fun b u =>
 xcut (fun _ v => a4A a b v R E) fun j1 =>
 opK Tryd.prog E (xCall (Value.func (.func 19) #[] #[]) [b]) u fun _t30_40 y =>
 xloop [] [] y fun _ z next2 =>
 a4B x0 a b z next2 j1 R E)
def h9 : Hint := (.seq .none (.seq (.seq .none (.seq .none (.cond (.seq .none .none) .none))) (.seq .none (.cut [] (.seq .none (.block (.loop [] (.seq (.seq .none (.cond .none .none)) (.seq (.block (.seq .none (.seq (.seq .none (.cond (.seq (.reg [(0, 1125899906842624, 256), (0, 4, 0), (3, 0, 1125899906842632), (7, 16, 0)] [0, 1, 0, 1] (.early 1 (.load 0 (.step 2 (.early 3 .done))))) .none) .none)) (.seq .none (.seq .none (.seq (.seq .none (.cond (.seq (.reg [(0, 36893488147419103232, 256), (0, 73786976294838206464, 4096), (0, 4, 0), (5, 0, 36893488147419103240), (15, 16, 73786976294838206464)] [0, 1, 1, 0, 1] (.early 1 (.early 2 (.load 0 (.step 3 (.early 4 .done)))))) .none) .none)) (.seq .none (.reg [(0, 590295810358705651712, 128), (0, 1180591620717411303424, 128), (2, 2361183241434822606848, 1180591620717411303424), (4, 4722366482869645213696, 2361183241434822606848), (8, 9444732965739290427392, 4722366482869645213696), (0, 18889465931478580854784, 2048), (32, 37778931862957161709568, 18889465931478580854784), (80, 75557863725914323419136, 47223664828696452136960), (255, 151115727451828646838272, 590295810358705651712), (511, 302231454903657293676544, 151115727451828646838272), (767, 0, 377789318629571617095680)] [48, 48, 48, 48, 32, 16, 16, 0, 48, 48, 0] (.early 0 (.early 1 (.early 2 (.early 3 (.load 4 (.load 5 (.step 6 (.step 7 (.early 8 (.early 9 (.step 10 .done))))))))))))))))))) .none))))) (.seq (.reg [(0, 604462909807314587353088, 128), (1, 1208925819614629174706176, 604462909807314587353088), (2, 2417851639229258349412352, 1208925819614629174706176), (4, 4835703278458516698824704, 2417851639229258349412352), (0, 9671406556917033397649408, 128), (16, 19342813113834066795298816, 9671406556917033397649408), (32, 38685626227668133590597632, 19342813113834066795298816), (64, 77371252455336267181195264, 38685626227668133590597632), (128, 154742504910672534362390528, 77371252455336267181195264), (256, 309485009821345068724781056, 154742504910672534362390528), (520, 618970019642690137449562112, 314320713099803585423605760), (0, 1237940039285380274899124224, 0), (2047, 4, 618970019642690137449562112), (8191, 0, 1237940039285380274899124232), (16383, 16, 0)] [136, 136, 136, 128, 136, 136, 136, 8, 136, 8, 0, 136, 136, 0, 136] (.early 0 (.early 1 (.early 2 (.early 4 (.early 5 (.early 6 (.early 11 (.load 3 (.load 7 (.early 8 (.step 9 (.step 10 (.early 12 (.step 13 (.early 14 .done)))))))))))))))) .none)))))
theorem a6W {x0 : Value} {w : World} {R : Value → World → Prop} {E : Pan} (h : F9 x0 w R E) : Cv Tryd.prog 9 #[x0] w R E := okF (args := [x0]) (h := h9) Tryd.func9 (by kernel_rfl) (by kernel_rfl) h
def a1b (x4 : Value) (w : World) (R : Value → World → Prop) (_E : Pan) : Prop :=
 ∀ _τ : Fr, (xcond x4
 (R (Value.bool true) w)
 (R (Value.bool false) w))
def F13 (x0 : Value) (w : World) (R : Value → World → Prop) (E : Pan) : Prop :=
 xcut (fun v y => a1b (nth v 0) y R E) fun j1 =>
 opK Tryd.prog E (xBin .eql 9 (.tmp 3) (.const (Value.string ⟨#[118, 97, 114]⟩)) x0 (Value.string ⟨#[118, 97, 114]⟩)) w fun a b =>
 xcond a
 (j1 [a] b)
 (opK Tryd.prog E (xBin .eql 9 (.tmp 3) (.const (Value.string ⟨#[97, 114, 114, 97, 121]⟩)) x0 (Value.string ⟨#[97, 114, 114, 97, 121]⟩)) b fun c d =>
 xcond c
 (j1 [c] d)
 (opK Tryd.prog E (xBin .eql 9 (.tmp 3) (.const (Value.string ⟨#[105, 102]⟩)) x0 (Value.string ⟨#[105, 102]⟩)) d fun e f =>
 xcond e
 (j1 [e] f)
 (opK Tryd.prog E (xBin .eql 9 (.tmp 3) (.const (Value.string ⟨#[101, 108, 115, 101]⟩)) x0 (Value.string ⟨#[101, 108, 115, 101]⟩)) f fun g i =>
 xcond g
 (j1 [g] i)
 (opK Tryd.prog E (xBin .eql 9 (.tmp 3) (.const (Value.string ⟨#[119, 104, 105, 108, 101]⟩)) x0 (Value.string ⟨#[119, 104, 105, 108, 101]⟩)) i fun j k =>
 xcond j
 (j1 [j] k)
 (opK Tryd.prog E (xBin .eql 9 (.tmp 3) (.const (Value.string ⟨#[97, 115, 115, 101, 114, 116]⟩)) x0 (Value.string ⟨#[97, 115, 115, 101, 114, 116]⟩)) k fun l m =>
 xcond l
 (j1 [l] m)
 (opK Tryd.prog E (xBin .eql 9 (.tmp 3) (.const (Value.string ⟨#[97, 115, 115, 117, 109, 101]⟩)) x0 (Value.string ⟨#[97, 115, 115, 117, 109, 101]⟩)) m fun n o =>
 xcond n
 (j1 [n] o)
 (opK Tryd.prog E (xBin .eql 9 (.tmp 3) (.const (Value.string ⟨#[115, 107, 105, 112]⟩)) x0 (Value.string ⟨#[115, 107, 105, 112]⟩)) o fun p q =>
 xcond p
 (j1 [p] q)
 (opK Tryd.prog E (xBin .eql 9 (.tmp 3) (.const (Value.string ⟨#[105, 110, 112, 117, 116]⟩)) x0 (Value.string ⟨#[105, 110, 112, 117, 116]⟩)) q fun r s =>
 xcond r
 (j1 [r] s)
 (opK Tryd.prog E (xBin .eql 9 (.tmp 3) (.const (Value.string ⟨#[116, 114, 117, 101]⟩)) x0 (Value.string ⟨#[116, 114, 117, 101]⟩)) s fun t u =>
 xcond t
 (j1 [t] u)
 (opK Tryd.prog E (xBin .eql 9 (.tmp 3) (.const (Value.string ⟨#[102, 97, 108, 115, 101]⟩)) x0 (Value.string ⟨#[102, 97, 108, 115, 101]⟩)) u fun z aa =>
 j1 [z] aa))))))))))
def h13 : Hint := (.seq .none (.seq (.seq .none (.block (.cut [4] (.seq .none (.cond .none (.seq .none (.cond .none (.seq .none (.cond .none (.seq .none (.cond .none (.seq .none (.cond .none (.seq .none (.cond .none (.seq .none (.cond .none (.seq .none (.cond .none (.seq .none (.cond .none (.seq .none (.cond .none .none)))))))))))))))))))) (.cond (.seq .none .none) .none)))) (.seq .none .none)))
theorem a5w {x0 : Value} {w : World} {R : Value → World → Prop} {E : Pan} (h : F13 x0 w R E) : Cv Tryd.prog 13 #[x0] w R E := okF (args := [x0]) (h := h13) Tryd.func13 (by kernel_rfl) (by kernel_rfl) h
def a1c (w : World) (R : Value → World → Prop) (_E : Pan) : Prop :=
 ∀ _τ : Fr, (R (Value.tuple #[(Value.int .i64 0), (Value.int .i64 0)]) w)
def a3c (x0 x12 : Value) (w : World) (next2 : List Value → World → Prop) (j1 : List Value → World → Prop) (R : Value → World → Prop) (E : Pan) : Prop :=
 opK Tryd.prog E (xV (Instr.next x12 true 0)) w fun a g =>
 opK Tryd.prog E (xV (Instr.extract a 0)) g fun i b =>
 xcond i
 (opK Tryd.prog E (xV (Instr.extract a 1)) b fun c j =>
 opK Tryd.prog E (xV (Instr.extract a 2)) j fun k l =>
 opK Tryd.prog E (xBin .neq 21 (.tmp 17) (.const (Value.int .i32 65533)) k (Value.int .i32 65533)) l fun m d =>
 xcond m
 (next2 [] d)
 (opK Tryd.prog E (xV (Instr.sliceAt 9 x0 (some c) none none)) d fun n o =>
 opK Tryd.prog E (xCall (Value.func (.func 33) #[] #[]) [n]) o fun e p =>
 opK Tryd.prog E (xV (Instr.extract e 0)) p fun _t24_23 q =>
 opK Tryd.prog E (xV (Instr.extract e 1)) q fun r s =>
 opK Tryd.prog E (xBin .eql 3 (.tmp 26) (.const (Value.int .i64 1)) r (Value.int .i64 1)) s fun t f =>
 xcond t
 (R (Value.tuple #[c, (Value.int .i64 11)]) f)
 (next2 [] f)))
 (j1 [] b)
def F17 (x0 : Value) (w : World) (R : Value → World → Prop) (E : Pan) : Prop :=
 opK Tryd.prog E (xBuiltin .len #[9] 3 [false] [x0]) w fun b c =>
 opK Tryd.prog E (xBin .gtr 3 (.tmp 9) (.const (Value.int .i64 65536)) b (Value.int .i64 65536)) c fun d a =>
 xcond d
 (R (Value.tuple #[(Value.int .i64 0), (Value.int .i64 10)]) a)
 (xcut (fun _ e => a1c e R E) fun j1 =>
 opK Tryd.prog E (xV (Instr.range 9 x0)) a fun f g =>
 xloop [] [] g fun _ i next2 =>
 a3c x0 f i next2 j1 R E)
def h17 : Hint := (.seq .none (.seq (.seq .none (.cond (.seq .none .none) .none)) (.cut [] (.seq .none (.block (.loop [] (.seq .none (.seq (.cond .none .none) (.block (.seq .none (.seq (.seq .none (.cond .none .none)) (.seq .none (.seq .none (.cond (.seq .none .none) .none))))))))))) (.seq .none .none))))
theorem a5x {x0 : Value} {w : World} {R : Value → World → Prop} {E : Pan} (h : F17 x0 w R E) : Cv Tryd.prog 17 #[x0] w R E := okF (args := [x0]) (h := h17) Tryd.func17 (by kernel_rfl) (by kernel_rfl) h
def a3d (x0 x2 : Value) (w : World) (next1 : List Value → World → Prop) (R : Value → World → Prop) (E : Pan) : Prop :=
 opK Tryd.prog E (xCall (Value.func (.func 39) #[] #[]) [x0]) w fun b c =>
 opK Tryd.prog E (xCall (Value.func (.func 38) #[] #[]) [b, (Value.string ⟨#[35]⟩)]) c fun d a =>
 xcond d
 (opK Tryd.prog E (xCall (Value.func (.func 37) #[] #[]) [x0, (Value.func (.func 40) #[] #[])]) a fun _t13_7 e =>
 opK Tryd.prog E (xCall (Value.func (.func 37) #[] #[]) [x0, x2]) e fun _t11_9 f =>
 next1 [] f)
 (R (Value.tuple #[]) a)
def F19 (x0 : Value) (w : World) (R : Value → World → Prop) (E : Pan) : Prop :=
 opK Tryd.prog E (xCall (Value.func (.func 37) #[] #[]) [x0, (Value.func (.func 36) #[] #[])]) w fun _t5_1 a =>
 xloop [] [] a fun _ b next1 =>
 a3d x0 (Value.func (.func 36) #[] #[]) b next1 R E
def h19 : Hint := (.seq .none (.seq .none (.block (.loop [] (.seq (.seq .none (.cond .none .none)) (.seq (.block .none) .none))))))
theorem a5y {x0 : Value} {w : World} {R : Value → World → Prop} {E : Pan} (h : F19 x0 w R E) : Cv Tryd.prog 19 #[x0] w R E := okF (args := [x0]) (h := h19) Tryd.func19 (by kernel_rfl) (by kernel_rfl) h
def a3e (w : World) (R : Value → World → Prop) (_E : Pan) : Prop :=
 ∀ _τ : Fr, (R (Value.tuple #[(Value.int .i32 0), (Value.bool false)]) w)
def a3f (x8 : Value) (w : World) (j1 : List Value → World → Prop) (R : Value → World → Prop) (E : Pan) : Prop :=
 opK Tryd.prog E (xV (Instr.next x8 true 0)) w fun a c =>
 opK Tryd.prog E (xV (Instr.extract a 0)) c fun d b =>
 xcond d
 (opK Tryd.prog E (xV (Instr.extract a 2)) b fun e f =>
 R (Value.tuple #[e, (Value.bool true)]) f)
 (j1 [] b)
def F20 (x0 : Value) (w : World) (R : Value → World → Prop) (E : Pan) : Prop :=
 xcut (fun _ a => a3e a R E) fun j1 =>
 opK Tryd.prog E (xCall (Value.func (.func 39) #[] #[]) [x0]) w fun b c =>
 opK Tryd.prog E (xV (Instr.range 9 b)) c fun d e =>
 xloop [] [] e fun _ f _ =>
 a3f d f j1 R E
def h20 : Hint := (.seq .none (.cut [] (.seq .none (.block (.loop [] (.seq .none (.seq (.cond .none .none) (.block (.seq .none (.seq .none .none)))))))) (.seq .none .none)))
theorem a5z {x0 : Value} {w : World} {R : Value → World → Prop} {E : Pan} (h : F20 x0 w R E) : Cv Tryd.prog 20 #[x0] w R E := okF (args := [x0]) (h := h20) Tryd.func20 (by kernel_rfl) (by kernel_rfl) h
def F21 (x0 x1 : Value) (w : World) (R : Value → World → Prop) (E : Pan) : Prop :=
 opK Tryd.prog E (xCall (Value.func (.func 30) #[] #[]) [x1]) w fun a e =>
 opK Tryd.prog E (xBin .eql 3 (.tmp 6) (.const (Value.int .i64 3)) a (Value.int .i64 3)) e fun f b =>
 xcond f
 (opK Tryd.prog E (xV (Instr.makeFunc (.func 41) #[x0] #[])) b fun g i =>
 R g i)
 (opK Tryd.prog E (xBin .eql 3 (.tmp 6) (.const (Value.int .i64 4)) a (Value.int .i64 4)) b fun j c =>
 xcond j
 (opK Tryd.prog E (xV (Instr.makeFunc (.func 42) #[x0] #[])) c fun k l =>
 R k l)
 (opK Tryd.prog E (xBin .eql 3 (.tmp 6) (.const (Value.int .i64 5)) a (Value.int .i64 5)) c fun m d =>
 xcond m
 (opK Tryd.prog E (xV (Instr.makeFunc (.func 43) #[x0] #[])) d fun n o =>
 R n o)
 (R (Value.func (.func 44) #[] #[]) d)))
def h21 : Hint := (.seq .none (.seq (.seq .none (.block (.seq .none (.cond (.seq .none .none) (.seq .none (.cond (.seq .none .none) (.seq .none (.cond (.seq .none .none) .none)))))))) (.seq .none .none)))
theorem a5A {x0 x1 : Value} {w : World} {R : Value → World → Prop} {E : Pan} (h : F21 x0 x1 w R E) : Cv Tryd.prog 21 #[x0, x1] w R E := okF (args := [x0, x1]) (h := h21) Tryd.func21 (by kernel_rfl) (by kernel_rfl) h
def F28 (x0 : Value) (w : World) (R : Value → World → Prop) (E : Pan) : Prop :=
 opK Tryd.prog E (xCall (Value.func (.func 50) #[] #[]) [x0]) w fun a b =>
 opK Tryd.prog E (xBin .gtr 3 (.tmp 4) (.const (Value.int .i64 32)) a (Value.int .i64 32)) b fun c d =>
 R c d
def h28 : Hint := (.seq .none (.seq .none .none))
theorem a5B {x0 : Value} {w : World} {R : Value → World → Prop} {E : Pan} (h : F28 x0 w R E) : Cv Tryd.prog 28 #[x0] w R E := okF (args := [x0]) (h := h28) Tryd.func28 (by kernel_rfl) (by kernel_rfl) h
def F29 (x0 : Value) (w : World) (R : Value → World → Prop) (E : Pan) : Prop :=
 opK Tryd.prog E (xCall (Value.func (.func 30) #[] #[]) [x0]) w fun b c =>
 opK Tryd.prog E (xBin .eql 3 (.tmp 6) (.const (Value.int .i64 3)) b (Value.int .i64 3)) c fun a d =>
 opK Tryd.prog E (gsem (asB a) false (xBin .eql 3 (.tmp 9) (.const (Value.int .i64 4)) (gval (asB a) false b) (Value.int .i64 4))) d fun e f =>
 opK Tryd.prog E (xPick a (Value.bool true) e) f fun g i =>
 R g i
def h29 : Hint := (.seq .none (.seq .none (.seq .none .none)))
theorem a5C {x0 : Value} {w : World} {R : Value → World → Prop} {E : Pan} (h : F29 x0 w R E) : Cv Tryd.prog 29 #[x0] w R E := okF (args := [x0]) (h := h29) Tryd.func29 (by kernel_rfl) (by kernel_rfl) h
def a1d (x39 : Value) (w : World) (R : Value → World → Prop) (_E : Pan) : Prop :=
 ∀ _τ : Fr, (xcond x39
 (R (Value.int .i64 3) w)
 (R (Value.int .i64 6) w))
def a1e (x1 x31 : Value) (w : World) (R : Value → World → Prop) (E : Pan) : Prop :=
 ∀ _τ : Fr, (xcond x31
 (R (Value.int .i64 6) w)
 (opK Tryd.prog E (xV (Instr.makeFunc (.func 51) #[] #[x1])) w fun a n =>
 opK Tryd.prog E (xCall a [(Value.int .i32 48), (Value.int .i32 57)]) n fun o b =>
 xcond o
 (R (Value.int .i64 4) b)
 (xcut (fun p q => a1d (nth p 0) q R E) fun j4 =>
 opK Tryd.prog E (xV (Instr.loadAt 21 x1)) b fun r s =>
 opK Tryd.prog E (xBin .eql 21 (.tmp 40) (.const (Value.int .i32 95)) r (Value.int .i32 95)) s fun c d =>
 xcond c
 (j4 [c] d)
 (opK Tryd.prog E (xCall a [(Value.int .i32 97), (Value.int .i32 122)]) d fun e f =>
 xcond e
 (j4 [e] f)
 (opK Tryd.prog E (xCall a [(Value.int .i32 65), (Value.int .i32 90)]) f fun g i =>
 xcond g
 (j4 [g] i)
 (opK Tryd.prog E (xCall a [(Value.int .i32 192), (Value.int .i32 591)]) i fun j k =>
 xcond j
 (j4 [j] k)
 (opK Tryd.prog E (xCall a [(Value.int .i32 913), (Value.int .i32 969)]) k fun l m =>
 xcond l
 (j4 [l] m)
 (opK Tryd.prog E (xCall a [(Value.int .i32 1040), (Value.int .i32 1103)]) m fun t u =>
 j4 [t] u))))))))
def a1f (x1 x4 x11 : Value) (w : World) (R : Value → World → Prop) (E : Pan) : Prop :=
 ∀ _τ : Fr, (xcond x11
 (R (Value.int .i64 5) w)
 (xcut (fun e f => a1e x1 (nth e 0) f R E) fun j3 =>
 opK Tryd.prog E (xBin .eql 21 (.tmp 4) (.const (Value.int .i32 215)) x4 (Value.int .i32 215)) w fun a b =>
 xcond a
 (j3 [a] b)
 (opK Tryd.prog E (xBin .eql 21 (.tmp 4) (.const (Value.int .i32 247)) x4 (Value.int .i32 247)) b fun c d =>
 xcond c
 (j3 [c] d)
 (opK Tryd.prog E (xBin .eql 21 (.tmp 4) (.const (Value.int .i32 930)) x4 (Value.int .i32 930)) d fun g i =>
 j3 [g] i))))
def a1g (x1 x4 x5 : Value) (w : World) (R : Value → World → Prop) (E : Pan) : Prop :=
 ∀ _τ : Fr, (xcond x5
 (R (Value.int .i64 1) w)
 (opK Tryd.prog E (xBin .eql 21 (.tmp 4) (.const (Value.int .i32 10)) x4 (Value.int .i32 10)) w fun ao a =>
 xcond ao
 (R (Value.int .i64 2) a)
 (xcut (fun ap aq => a1f x1 x4 (nth ap 0) aq R E) fun j2 =>
 opK Tryd.prog E (xBin .eql 21 (.tmp 4) (.const (Value.int .i32 59)) x4 (Value.int .i32 59)) a fun b c =>
 xcond b
 (j2 [b] c)
 (opK Tryd.prog E (xBin .eql 21 (.tmp 4) (.const (Value.int .i32 44)) x4 (Value.int .i32 44)) c fun d e =>
 xcond d
 (j2 [d] e)
 (opK Tryd.prog E (xBin .eql 21 (.tmp 4) (.const (Value.int .i32 123)) x4 (Value.int .i32 123)) e fun f g =>
 xcond f
 (j2 [f] g)
 (opK Tryd.prog E (xBin .eql 21 (.tmp 4) (.const (Value.int .i32 125)) x4 (Value.int .i32 125)) g fun i j =>
 xcond i
 (j2 [i] j)
 (opK Tryd.prog E (xBin .eql 21 (.tmp 4) (.const (Value.int .i32 40)) x4 (Value.int .i32 40)) j fun k l =>
 xcond k
 (j2 [k] l)
 (opK Tryd.prog E (xBin .eql 21 (.tmp 4) (.const (Value.int .i32 41)) x4 (Value.int .i32 41)) l fun m n =>
 xcond m
 (j2 [m] n)
 (opK Tryd.prog E (xBin .eql 21 (.tmp 4) (.const (Value.int .i32 91)) x4 (Value.int .i32 91)) n fun o p =>
 xcond o
 (j2 [o] p)
 (opK Tryd.prog E (xBin .eql 21 (.tmp 4) (.const (Value.int .i32 93)) x4 (Value.int .i32 93)) p fun q r =>
 xcond q
 (j2 [q] r)
 (opK Tryd.prog E (xBin .eql 21 (.tmp 4) (.const (Value.int .i32 61)) x4 (Value.int .i32 61)) r fun s t =>
 xcond s
 (j2 [s] t)
 (opK Tryd.prog E (xBin .eql 21 (.tmp 4) (.const (Value.int .i32 33)) x4 (Value.int .i32 33)) t fun u v =>
 xcond u
 (j2 [u] v)
 (opK Tryd.prog E (xBin .eql 21 (.tmp 4) (.const (Value.int .i32 60)) x4 (Value.int .i32 60)) v fun y z =>
 xcond y
 (j2 [y] z)
 (opK Tryd.prog E (xBin .eql 21 (.tmp 4) (.const (Value.int .i32 62)) x4 (Value.int .i32 62)) z fun aa ab =>
 xcond aa
 (j2 [aa] ab)
 (opK Tryd.prog E (xBin .eql 21 (.tmp 4) (.const (Value.int .i32 43)) x4 (Value.int .i32 43)) ab fun ac ad =>
 xcond ac
 (j2 [ac] ad)
 (opK Tryd.prog E (xBin .eql 21 (.tmp 4) (.const (Value.int .i32 45)) x4 (Value.int .i32 45)) ad fun ae af =>
 xcond ae
 (j2 [ae] af)
 (opK Tryd.prog E (xBin .eql 21 (.tmp 4) (.const (Value.int .i32 42)) x4 (Value.int .i32 42)) af fun ag ah =>
 xcond ag
 (j2 [ag] ah)
 (opK Tryd.prog E (xBin .eql 21 (.tmp 4) (.const (Value.int .i32 47)) x4 (Value.int .i32 47)) ah fun ai aj =>
 xcond ai
 (j2 [ai] aj)
 (opK Tryd.prog E (xBin .eql 21 (.tmp 4) (.const (Value.int .i32 37)) x4 (Value.int .i32 37)) aj fun ak al =>
 xcond ak
 (j2 [ak] al)
 (opK Tryd.prog E (xBin .eql 21 (.tmp 4) (.const (Value.int .i32 38)) x4 (Value.int .i32 38)) al fun am an =>
 xcond am
 (j2 [am] an)
 (opK Tryd.prog E (xBin .eql 21 (.tmp 4) (.const (Value.int .i32 124)) x4 (Value.int .i32 124)) an fun ar au =>
 j2 [ar] au)))))))))))))))))))))
def F30 (x0 : Value) (w : World) (R : Value → World → Prop) (E : Pan) : Prop :=
 opK Tryd.prog E (xV (Instr.box 21 x0)) w fun b g =>
 opK Tryd.prog E (xV (Instr.loadAt 21 b)) g fun a i =>
 xcut (fun j k => a1g b a (nth j 0) k R E) fun j1 =>
 opK Tryd.prog E (xBin .eql 21 (.tmp 4) (.const (Value.int .i32 32)) a (Value.int .i32 32)) i fun c d =>
 xcond c
 (j1 [c] d)
 (opK Tryd.prog E (xBin .eql 21 (.tmp 4) (.const (Value.int .i32 9)) a (Value.int .i32 9)) d fun e f =>
 xcond e
 (j1 [e] f)
 (opK Tryd.prog E (xBin .eql 21 (.tmp 4) (.const (Value.int .i32 13)) a (Value.int .i32 13)) f fun l m =>
 j1 [l] m))
def h30 : Hint := (.seq .none (.seq (.seq .none (.block (.cut [5] (.seq .none (.cond .none (.seq .none (.cond .none .none)))) (.cond (.seq .none .none) (.seq .none (.cond (.seq .none .none) (.cut [11] (.seq .none (.cond .none (.seq .none (.cond .none (.seq .none (.cond .none (.seq .none (.cond .none (.seq .none (.cond .none (.seq .none (.cond .none (.seq .none (.cond .none (.seq .none (.cond .none (.seq .none (.cond .none (.seq .none (.cond .none (.seq .none (.cond .none (.seq .none (.cond .none (.seq .none (.cond .none (.seq .none (.cond .none (.seq .none (.cond .none (.seq .none (.cond .none (.seq .none (.cond .none (.seq .none (.cond .none .none)))))))))))))))))))))))))))))))))))) (.cond (.seq .none .none) (.cut [31] (.seq .none (.cond .none (.seq .none (.cond .none .none)))) (.cond (.seq .none .none) .none)))))))))) (.seq .none (.seq (.block (.seq .none (.cond (.seq .none .none) (.cut [39] (.seq .none (.cond .none (.seq .none (.cond .none (.seq .none (.cond .none (.seq .none (.cond .none (.seq .none (.cond .none .none)))))))))) (.cond (.seq .none .none) .none))))) (.seq .none .none)))))
theorem a5D {x0 : Value} {w : World} {R : Value → World → Prop} {E : Pan} (h : F30 x0 w R E) : Cv Tryd.prog 30 #[x0] w R E := okF (args := [x0]) (h := h30) Tryd.func30 (by kernel_rfl) (by kernel_rfl) h
def h32 : Hint := (.seq .none (.seq (.seq .none (.cond (.seq .none .none) .none)) (.seq (.seq .none (.cond (.seq .none .none) .none)) (.seq (.seq .none (.cond (.seq .none .none) .none)) (.seq (.seq .none (.cond (.seq .none .none) .none)) (.seq .none (.cut [] (.seq .none (.block (.loop [4] (.seq (.seq .none (.cond .none .none)) (.seq (.block (.seq .none (.cond (.seq .none .none) .none))) .none))))) (.seq .none .none))))))))
def F34 (w : World) (R : Value → World → Prop) (E : Pan) : Prop :=
 opK Tryd.prog E (xV (Instr.alloc 25 true (.tuple #[]))) w fun a c =>
 opK Tryd.prog E (xV (Instr.build 25 #[(0, (Value.int .i64 1)), (1, (Value.int .i64 1))])) c fun d e =>
 opK Tryd.prog E (xU (Instr.storeAt 25 a d)) e fun _ b =>
 xcell Tryd.prog 25 a b fun f =>
 R f b
def h34 : Hint := (.seq .none (.seq .none .none))
theorem a3g {w : World} {R : Value → World → Prop} {E : Pan} (h : F34  w R E) : Cv Tryd.prog 34 #[] w R E := okF (args := []) (h := h34) Tryd.func34 (by kernel_rfl) (by kernel_rfl) h
def F35 (x0 : Value) (w : World) (R : Value → World → Prop) (E : Pan) : Prop :=
 opK Tryd.prog E (xV (Instr.box 9 x0)) w fun a b =>
 opK Tryd.prog E (xV (Instr.makeFunc (.func 54) #[] #[a])) b fun c d =>
 R c d
def h35 : Hint := (.seq .none (.seq .none .none))
theorem a3h {x0 : Value} {w : World} {R : Value → World → Prop} {E : Pan} (h : F35 x0 w R E) : Cv Tryd.prog 35 #[x0] w R E := okF (args := [x0]) (h := h35) Tryd.func35 (by kernel_rfl) (by kernel_rfl) h
def F36 (x0 : Value) (w : World) (R : Value → World → Prop) (E : Pan) : Prop :=
 opK Tryd.prog E (xCall (Value.func (.func 30) #[] #[]) [x0]) w fun b c =>
 opK Tryd.prog E (xBin .eql 3 (.tmp 6) (.const (Value.int .i64 1)) b (Value.int .i64 1)) c fun a d =>
 opK Tryd.prog E (gsem (asB a) false (xBin .eql 3 (.tmp 9) (.const (Value.int .i64 2)) (gval (asB a) false b) (Value.int .i64 2))) d fun e f =>
 opK Tryd.prog E (xPick a (Value.bool true) e) f fun g i =>
 R g i
def h36 : Hint := (.seq .none (.seq .none (.seq .none .none)))
theorem a5E {x0 : Value} {w : World} {R : Value → World → Prop} {E : Pan} (h : F36 x0 w R E) : Cv Tryd.prog 36 #[x0] w R E := okF (args := [x0]) (h := h36) Tryd.func36 (by kernel_rfl) (by kernel_rfl) h
def M4 (x0 x5 : Value) (w : World) (R : Value → World → Prop) (_E : Pan) : Prop :=
 ∀ _τ : Fr, (dX w fun a =>
 qP Tryd.prog (xNil x0) fun d =>
 qP Tryd.prog (xV (Instr.fieldAt 44 d 0)) fun b =>
 qP Tryd.prog (xNil x0) fun e =>
 qP Tryd.prog (xV (Instr.fieldAt 44 e 1)) fun c =>
 qL Tryd.prog a (blk b) (xV (Instr.loadAt 9 b)) fun f =>
 qL Tryd.prog a (blk c) (xV (Instr.loadAt 3 c)) fun g =>
 qP Tryd.prog (xV (Instr.sliceAt 9 f (some x5) (some g) none)) fun i =>
 R i a)
def V4 (x0 x1 _x5 x6 x7 : Value) (w : World) (next2 : List Value → World → Prop) (j1 : List Value → World → Prop) (_R : Value → World → Prop) (E : Pan) : Prop :=
 opK Tryd.prog E (gsem (asB x7) true (xCall (gval (asB x7) true x1) [(gval (asB x7) true x6)])) w fun c d =>
 opK Tryd.prog E (xPick x7 c (Value.bool false)) d fun e a =>
 xcond e
 (opK Tryd.prog E (xCall (Value.func (.func 56) #[] #[]) [x0]) a fun _t29_27 f =>
 opK Tryd.prog E (xCall (Value.func (.func 20) #[] #[]) [x0]) f fun b g =>
 opK Tryd.prog E (xV (Instr.extract b 0)) g fun i j =>
 opK Tryd.prog E (xV (Instr.extract b 1)) j fun k l =>
 next2 [i, k] l)
 (j1 [] a)
def F37 (x0 x1 : Value) (w : World) (R : Value → World → Prop) (E : Pan) : Prop :=
 opK Tryd.prog E (xNil x0) w fun d e =>
 opK Tryd.prog E (xV (Instr.fieldAt 44 d 1)) e fun f g =>
 opK Tryd.prog E (xV (Instr.loadAt 3 f)) g fun a i =>
 xcut (fun _ j => M4 x0 a j R E) fun j1 =>
 opK Tryd.prog E (xCall (Value.func (.func 20) #[] #[]) [x0]) i fun b k =>
 opK Tryd.prog E (xV (Instr.extract b 0)) k fun l m =>
 opK Tryd.prog E (xV (Instr.extract b 1)) m fun n o =>
 xloop [6, 7] [l, n] o fun c p next2 =>
 V4 x0 x1 a (c 6) (c 7) p next2 j1 R E
def h37 : Hint := (.seq .none (.seq .none (.cut [] (.seq .none (.block (.loop [6, 7] (.seq (.seq .none (.cond .none .none)) (.seq (.block .none) .none))))) (.seq (.reg [(0, 1073741824, 1), (1, 2147483648, 1073741824), (2, 4294967296, 2147483648), (4, 8589934592, 4294967296), (0, 17179869184, 32), (0, 34359738368, 1), (32, 68719476736, 34359738368), (64, 137438953472, 68719476736), (128, 274877906944, 137438953472), (280, 549755813888, 300647710720), (1023, 16, 549755813888)] [264, 264, 264, 256, 264, 264, 264, 264, 8, 264, 264] (.early 0 (.early 1 (.early 2 (.early 4 (.early 5 (.early 6 (.early 7 (.load 3 (.load 8 (.early 9 (.early 10 .done)))))))))))) .none))))
theorem a0b {x0 x1 : Value} {w : World} {R : Value → World → Prop} {E : Pan} (h : F37 x0 x1 w R E) : Cv Tryd.prog 37 #[x0, x1] w R E := okF (args := [x0, x1]) (h := h37) Tryd.func37 (by kernel_rfl) (by kernel_rfl) h
def F38 (x0 x1 : Value) (w : World) (R : Value → World → Prop) (E : Pan) : Prop :=
 opK Tryd.prog E (xCall (Value.func (.func 57) #[] #[]) [x0, x1]) w fun a b =>
 R a b
def h38 : Hint := (.seq .none (.seq .none .none))
theorem a5F {x0 x1 : Value} {w : World} {R : Value → World → Prop} {E : Pan} (h : F38 x0 x1 w R E) : Cv Tryd.prog 38 #[x0, x1] w R E := okF (args := [x0, x1]) (h := h38) Tryd.func38 (by kernel_rfl) (by kernel_rfl) h
def F39 (x0 : Value) (w : World) (R : Value → World → Prop) (_E : Pan) : Prop :=
 dX w fun a =>
 qP Tryd.prog (xNil x0) fun d =>
 qP Tryd.prog (xV (Instr.fieldAt 44 d 0)) fun b =>
 qP Tryd.prog (xNil x0) fun e =>
 qP Tryd.prog (xV (Instr.fieldAt 44 e 1)) fun c =>
 qL Tryd.prog a (blk b) (xV (Instr.loadAt 9 b)) fun f =>
 qL Tryd.prog a (blk c) (xV (Instr.loadAt 3 c)) fun g =>
 qP Tryd.prog (xV (Instr.sliceAt 9 f (some g) none none)) fun i =>
 R i a
def h39 : Hint := (.seq .none (.seq (.reg [(0, 8, 1), (1, 16, 8), (2, 32, 16), (4, 64, 32), (0, 128, 1), (16, 256, 128), (32, 512, 256), (64, 1024, 512), (136, 2048, 1088), (511, 4, 2048)] [136, 136, 136, 128, 136, 136, 136, 8, 136, 136] (.early 0 (.early 1 (.early 2 (.early 4 (.early 5 (.early 6 (.load 3 (.load 7 (.early 8 (.early 9 .done))))))))))) .none))
theorem a5G {x0 : Value} {w : World} {R : Value → World → Prop} {E : Pan} (h : F39 x0 w R E) : Cv Tryd.prog 39 #[x0] w R E := okF (args := [x0]) (h := h39) Tryd.func39 (by kernel_rfl) (by kernel_rfl) h
def F40 (x0 : Value) (w : World) (R : Value → World → Prop) (E : Pan) : Prop :=
 opK Tryd.prog E (xBin .neq 21 (.tmp 3) (.const (Value.int .i32 10)) x0 (Value.int .i32 10)) w fun a b =>
 R a b
def h40 : Hint := (.seq .none (.seq .none .none))
theorem a5H {x0 : Value} {w : World} {R : Value → World → Prop} {E : Pan} (h : F40 x0 w R E) : Cv Tryd.prog 40 #[x0] w R E := okF (args := [x0]) (h := h40) Tryd.func40 (by kernel_rfl) (by kernel_rfl) h
def a1h (x2 x4 : Value) (w : World) (R : Value → World → Prop) (E : Pan) : Prop :=
 ∀ _τ : Fr, (opK Tryd.prog E (xV (Instr.loadAt 33 x4)) w fun b c =>
 opK Tryd.prog E (xU (Instr.storeAt 33 x2 b)) c fun _ a =>
 xcell Tryd.prog 33 x2 a fun d =>
 R (Value.tuple #[d, (Value.int .i64 0)]) a)
def F41 (x0 : Value) (w : World) (R : Value → World → Prop) (E : Pan) : Prop :=
 opK Tryd.prog E (xV (Instr.alloc 33 true (.tuple #[]))) w fun b f =>
 opK Tryd.prog E (xCall (Value.func (.func 37) #[] #[]) [x0, (Value.func (.func 29) #[] #[])]) f fun g i =>
 opK Tryd.prog E (xV (Instr.build 33 #[(0, (Value.int .i64 1)), (1, g)])) i fun j k =>
 opK Tryd.prog E (xV (Instr.alloc 33 true (.tuple #[]))) k fun a l =>
 opK Tryd.prog E (xU (Instr.storeAt 33 a j)) l fun _ m =>
 xcut (fun _ n => a1h b a n R E) fun j1 =>
 opK Tryd.prog E (xV (Instr.fieldAt 33 a 1)) m fun o p =>
 opK Tryd.prog E (xV (Instr.loadAt 9 o)) p fun q r =>
 opK Tryd.prog E (xCall (Value.func (.func 13) #[] #[]) [q]) r fun s c =>
 xcond s
 (opK Tryd.prog E (xV (Instr.fieldAt 33 a 0)) c fun t u =>
 opK Tryd.prog E (xU (Instr.storeAt 3 t (Value.int .i64 3))) u fun _ v =>
 j1 [] v)
 (opK Tryd.prog E (xV (Instr.fieldAt 33 a 1)) c fun y z =>
 opK Tryd.prog E (xV (Instr.loadAt 9 y)) z fun aa ab =>
 opK Tryd.prog E (xCall (Value.func (.func 28) #[] #[]) [aa]) ab fun ac d =>
 xcond ac
 (opK Tryd.prog E (xV (Instr.loadAt 33 a)) d fun ad ae =>
 opK Tryd.prog E (xU (Instr.storeAt 33 b ad)) ae fun _ e =>
 xcell Tryd.prog 33 b e fun af =>
 R (Value.tuple #[af, (Value.int .i64 22)]) e)
 (j1 [] d))
def h41 : Hint := (.seq .none (.seq .none (.cut [] (.block (.seq .none (.cond .none (.seq .none (.cond (.seq .none .none) .none))))) (.seq .none .none))))
theorem a5I {x0 : Value} {w : World} {R : Value → World → Prop} {E : Pan} (h : F41 x0 w R E) : Cv Tryd.prog 41 #[x0] w R E := okF (args := [x0]) (h := h41) Tryd.func41 (by kernel_rfl) (by kernel_rfl) h
def F42 (x0 : Value) (w : World) (R : Value → World → Prop) (E : Pan) : Prop :=
 opK Tryd.prog E (xV (Instr.alloc 33 true (.tuple #[]))) w fun e m =>
 opK Tryd.prog E (xCall (Value.func (.func 37) #[] #[]) [x0, (Value.func (.func 58) #[] #[])]) m fun n o =>
 opK Tryd.prog E (xV (Instr.build 33 #[(0, (Value.int .i64 2)), (1, n)])) o fun p q =>
 opK Tryd.prog E (xV (Instr.alloc 33 true (.tuple #[]))) q fun c r =>
 opK Tryd.prog E (xU (Instr.storeAt 33 c p)) r fun _ s =>
 opK Tryd.prog E (xV (Instr.fieldAt 33 c 1)) s fun t u =>
 opK Tryd.prog E (xV (Instr.loadAt 9 t)) u fun v y =>
 opK Tryd.prog E (xCall (Value.func (.func 59) #[] #[]) [v, (Value.int .i64 10), (Value.int .i64 64)]) y fun g z =>
 opK Tryd.prog E (xV (Instr.extract g 0)) z fun aa ab =>
 opK Tryd.prog E (xV (Instr.extract g 1)) ab fun ac ad =>
 opK Tryd.prog E (xCall (Value.func (.func 20) #[] #[]) [x0]) ad fun i ae =>
 opK Tryd.prog E (xV (Instr.extract i 0)) ae fun af ag =>
 opK Tryd.prog E (xV (Instr.extract i 1)) ag fun f ah =>
 opK Tryd.prog E (xBin .neq 84 (.tmp 23) (.const Value.nilIface) ac Value.nilIface) ah fun a ai =>
 opK Tryd.prog E (gsem (asB a) false (xV (Instr.fieldAt 33 c 1))) ai fun aj ak =>
 opK Tryd.prog E (gsem (asB a) false (xV (Instr.loadAt 9 aj))) ak fun al am =>
 opK Tryd.prog E (gsem (asB a) false (xBuiltin .len #[9] 3 [false] [al])) am fun an ao =>
 opK Tryd.prog E (gsem (asB a) false (xBin .gtr 3 (.tmp 28) (.const (Value.int .i64 1)) an (Value.int .i64 1))) ao fun d ap =>
 opK Tryd.prog E (gsem (asB (gval (asB a) false d)) true (xV (Instr.fieldAt 33 c 1))) ap fun aq ar =>
 opK Tryd.prog E (gsem (asB (gval (asB a) false d)) true (xV (Instr.loadAt 9 aq))) ar fun au av =>
 opK Tryd.prog E (gsem (asB (gval (asB a) false d)) true (xV (Instr.index 9 au (Value.int .i64 0)))) av fun aw ax =>
 opK Tryd.prog E (gsem (asB (gval (asB a) false d)) true (xBin .eql 5 (.tmp 33) (.const (Value.int .u8 48)) aw (Value.int .u8 48))) ax fun ay az =>
 opK Tryd.prog E (gsem (asB a) false (xPick (gval (asB a) false d) ay (Value.bool false))) az fun ba bb =>
 opK Tryd.prog E (xPick a (Value.bool true) ba) bb fun b bc =>
 opK Tryd.prog E (gsem (asB (gval (asB b) false (gval (asB b) false f))) true (xCall (Value.func (.func 30) #[] #[]) [(gval (asB (gval (asB b) false (gval (asB b) false f))) true af)])) bc fun bd be =>
 opK Tryd.prog E (gsem (asB (gval (asB b) false (gval (asB b) false f))) true (xBin .eql 3 (.tmp 41) (.const (Value.int .i64 3)) bd (Value.int .i64 3))) be fun bf bg =>
 opK Tryd.prog E (gsem (asB b) false (xPick (gval (asB b) false (gval (asB b) false f)) bf (Value.bool false))) bg fun bh bi =>
 opK Tryd.prog E (xPick b (Value.bool true) bh) bi fun bj j =>
 xcond bj
 (opK Tryd.prog E (xV (Instr.loadAt 33 c)) j fun bk bl =>
 opK Tryd.prog E (xU (Instr.storeAt 33 e bk)) bl fun _ k =>
 xcell Tryd.prog 33 e k fun bm =>
 R (Value.tuple #[bm, (Value.int .i64 21)]) k)
 (opK Tryd.prog E (xV (Instr.fieldAt 33 c 2)) j fun bn bo =>
 opK Tryd.prog E (xU (Instr.storeAt 2 bn aa)) bo fun _ bp =>
 opK Tryd.prog E (xV (Instr.loadAt 33 c)) bp fun bq br =>
 opK Tryd.prog E (xU (Instr.storeAt 33 e bq)) br fun _ l =>
 xcell Tryd.prog 33 e l fun bs =>
 R (Value.tuple #[bs, (Value.int .i64 0)]) l)
def h42 : Hint := (.seq .none (.seq .none (.seq .none (.seq .none (.seq (.seq .none (.cond (.seq .none .none) .none)) (.seq .none (.seq .none .none)))))))
theorem a5J {x0 : Value} {w : World} {R : Value → World → Prop} {E : Pan} (h : F42 x0 w R E) : Cv Tryd.prog 42 #[x0] w R E := okF (args := [x0]) (h := h42) Tryd.func42 (by kernel_rfl) (by kernel_rfl) h
def a1i (x0 x2 : Value) (w : World) (R : Value → World → Prop) (E : Pan) : Prop :=
 ∀ _τ : Fr, (opK Tryd.prog E (xCall (Value.func (.func 39) #[] #[]) [x0]) w fun f g =>
 opK Tryd.prog E (xV (Instr.sliceAt 9 f none (some (Value.int .i64 1)) none)) g fun a i =>
 opK Tryd.prog E (xCall (Value.func (.func 56) #[] #[]) [x0]) i fun _t26_7 j =>
 opK Tryd.prog E (xBin .eql 9 (.tmp 27) (.const (Value.string ⟨#[38]⟩)) a (Value.string ⟨#[38]⟩)) j fun b k =>
 opK Tryd.prog E (gsem (asB b) false (xBin .eql 9 (.tmp 30) (.const (Value.string ⟨#[124]⟩)) (gval (asB b) false a) (Value.string ⟨#[124]⟩))) k fun l m =>
 opK Tryd.prog E (xPick b (Value.bool true) l) m fun n c =>
 xcond n
 (opK Tryd.prog E (xV (Instr.build 33 #[])) c fun o p =>
 opK Tryd.prog E (xU (Instr.storeAt 33 x2 o)) p fun _ d =>
 xcell Tryd.prog 33 x2 d fun q =>
 R (Value.tuple #[q, (Value.int .i64 20)]) d)
 (opK Tryd.prog E (xV (Instr.build 33 #[(0, (Value.int .i64 4)), (1, a)])) c fun r s =>
 opK Tryd.prog E (xU (Instr.storeAt 33 x2 r)) s fun _ e =>
 xcell Tryd.prog 33 x2 e fun t =>
 R (Value.tuple #[t, (Value.int .i64 0)]) e))
def a3i (x0 x2 x7 x8 : Value) (w : World) (next2 : List Value → World → Prop) (j1 : List Value → World → Prop) (R : Value → World → Prop) (E : Pan) : Prop :=
 opK Tryd.prog E (xBin .lss 3 (.tmp 8) (.const (Value.int .i64 6)) x8 (Value.int .i64 6)) w fun e a =>
 xcond e
 (opK Tryd.prog E (xV (Instr.index 87 x7 x8)) a fun b f =>
 opK Tryd.prog E (xCall (Value.func (.func 39) #[] #[]) [x0]) f fun g i =>
 opK Tryd.prog E (xCall (Value.func (.func 38) #[] #[]) [g, b]) i fun j c =>
 xcond j
 (opK Tryd.prog E (xCall (Value.func (.func 56) #[] #[]) [x0]) c fun _t16_37 k =>
 opK Tryd.prog E (xCall (Value.func (.func 56) #[] #[]) [x0]) k fun _t18_39 l =>
 opK Tryd.prog E (xV (Instr.build 33 #[(0, (Value.int .i64 4)), (1, b)])) l fun m n =>
 opK Tryd.prog E (xU (Instr.storeAt 33 x2 m)) n fun _ d =>
 xcell Tryd.prog 33 x2 d fun o =>
 R (Value.tuple #[o, (Value.int .i64 0)]) d)
 (opK Tryd.prog E (xBin .add 3 (.tmp 8) (.const (Value.int .i64 1)) x8 (Value.int .i64 1)) c fun p q =>
 next2 [p] q))
 (j1 [] a)
def F43 (x0 : Value) (w : World) (R : Value → World → Prop) (E : Pan) : Prop :=
 opK Tryd.prog E (xV (Instr.alloc 33 true (.tuple #[]))) w fun a b =>
 xcut (fun _ c => a1i x0 a c R E) fun j1 =>
 opK Tryd.prog E (xV (Instr.build 87 #[(0, (Value.string ⟨#[61, 61]⟩)), (1, (Value.string ⟨#[33, 61]⟩)), (2, (Value.string ⟨#[60, 61]⟩)), (3, (Value.string ⟨#[62, 61]⟩)), (4, (Value.string ⟨#[38, 38]⟩)), (5, (Value.string ⟨#[124, 124]⟩))])) b fun d e =>
 xloop [8] [(Value.int .i64 0)] e fun f g next2 =>
 a3i x0 a d (f 8) g next2 j1 R E
def h43 : Hint := (.seq .none (.cut [] (.seq .none (.block (.loop [8] (.seq .none (.seq (.cond .none .none) (.seq (.block (.seq .none (.seq .none (.cond (.seq .none (.seq .none (.seq .none .none))) .none)))) .none)))))) (.seq .none (.seq .none (.seq (.seq .none (.cond (.seq .none .none) .none)) (.seq .none .none))))))
theorem a5K {x0 : Value} {w : World} {R : Value → World → Prop} {E : Pan} (h : F43 x0 w R E) : Cv Tryd.prog 43 #[x0] w R E := okF (args := [x0]) (h := h43) Tryd.func43 (by kernel_rfl) (by kernel_rfl) h
def F44 (w : World) (R : Value → World → Prop) (E : Pan) : Prop :=
 opK Tryd.prog E (xV (Instr.alloc 33 true (.tuple #[]))) w fun a c =>
 opK Tryd.prog E (xV (Instr.build 33 #[])) c fun d e =>
 opK Tryd.prog E (xU (Instr.storeAt 33 a d)) e fun _ b =>
 xcell Tryd.prog 33 a b fun f =>
 R (Value.tuple #[f, (Value.int .i64 20)]) b
def h44 : Hint := (.seq .none (.seq .none .none))
theorem a5L {w : World} {R : Value → World → Prop} {E : Pan} (h : F44  w R E) : Cv Tryd.prog 44 #[] w R E := okF (args := []) (h := h44) Tryd.func44 (by kernel_rfl) (by kernel_rfl) h
def a1j (x2 : Value) (w : World) (R : Value → World → Prop) (_E : Pan) : Prop :=
 ∀ _τ : Fr, (R x2 w)
def a3j (x2 x4 : Value) (w : World) (next2 : List Value → World → Prop) (j1 : List Value → World → Prop) (_R : Value → World → Prop) (E : Pan) : Prop :=
 opK Tryd.prog E (xV (Instr.next x4 true 0)) w fun b c =>
 opK Tryd.prog E (xV (Instr.extract b 0)) c fun d a =>
 xcond d
 (opK Tryd.prog E (xBin .add 3 (.tmp 7) (.const (Value.int .i64 1)) x2 (Value.int .i64 1)) a fun e f =>
 next2 [e] f)
 (j1 [x2] a)
def F50 (x0 : Value) (w : World) (R : Value → World → Prop) (E : Pan) : Prop :=
 xcut (fun a b => a1j (nth a 0) b R E) fun j1 =>
 opK Tryd.prog E (xV (Instr.range 9 x0)) w fun c d =>
 xloop [2] [(Value.int .i64 0)] d fun e f next2 =>
 a3j (e 2) c f next2 j1 R E
def h50 : Hint := (.seq .none (.cut [2] (.seq .none (.block (.loop [2] (.seq .none (.seq (.cond .none .none) (.block .none)))))) (.seq .none .none)))
theorem a5M {x0 : Value} {w : World} {R : Value → World → Prop} {E : Pan} (h : F50 x0 w R E) : Cv Tryd.prog 50 #[x0] w R E := okF (args := [x0]) (h := h50) Tryd.func50 (by kernel_rfl) (by kernel_rfl) h
def F51 (x0 x1 x2 : Value) (w : World) (R : Value → World → Prop) (E : Pan) : Prop :=
 opK Tryd.prog E (xV (Instr.loadAt 21 x2)) w fun b c =>
 opK Tryd.prog E (xBin .leq 21 (.tmp 6) (.tmp 7) x0 b) c fun a d =>
 opK Tryd.prog E (gsem (asB a) true (xV (Instr.loadAt 21 x2))) d fun e f =>
 opK Tryd.prog E (gsem (asB a) true (xBin .leq 21 (.tmp 10) (.tmp 11) e (gval (asB a) true x1))) f fun g i =>
 opK Tryd.prog E (xPick a g (Value.bool false)) i fun j k =>
 R j k
def h51 : Hint := (.seq .none (.seq .none .none))
theorem a5N {x0 x1 x2 : Value} {w : World} {R : Value → World → Prop} {E : Pan} (h : F51 x0 x1 x2 w R E) : Cv Tryd.prog 51 #[x0, x1, x2] w R E := okF (args := [x0, x1, x2]) (h := h51) Tryd.func51 (by kernel_rfl) (by kernel_rfl) h
def a0c (x0 x3 x8 : Value) (w : World) (next1 : List Value → World → Prop) (R : Value → World → Prop) (E : Pan) : Prop :=
 opK Tryd.prog E (xV (Instr.next x8 true 0)) w fun a d =>
 opK Tryd.prog E (xV (Instr.extract a 0)) d fun e b =>
 xcond e
 (opK Tryd.prog E (xV (Instr.extract a 1)) b fun f g =>
 opK Tryd.prog E (xV (Instr.extract a 2)) g fun i j =>
 opK Tryd.prog E (xV (Instr.loadAt 25 x3)) j fun k l =>
 opK Tryd.prog E (xCall (Value.func (.func 55) #[] #[]) [k, i]) l fun m n =>
 opK Tryd.prog E (xU (Instr.storeAt 25 x3 m)) n fun _ o =>
 opK Tryd.prog E (xV (Instr.loadAt 25 x3)) o fun p q =>
 opK Tryd.prog E (xCall x0 [f, p]) q fun r s =>
 opK Tryd.prog E (xV (Op.unary .not r)) s fun t c =>
 xcond t
 (R (Value.tuple #[]) c)
 (next1 [] c))
 (R (Value.tuple #[]) b)
def F54 (x0 x1 : Value) (w : World) (R : Value → World → Prop) (E : Pan) : Prop :=
 opK Tryd.prog E (xCall (Value.func (.func 34) #[] #[]) []) w fun b c =>
 opK Tryd.prog E (xV (Instr.alloc 25 true (.tuple #[]))) c fun a d =>
 opK Tryd.prog E (xU (Instr.storeAt 25 a b)) d fun _ e =>
 opK Tryd.prog E (xV (Instr.loadAt 9 x1)) e fun f g =>
 opK Tryd.prog E (xV (Instr.range 9 f)) g fun i j =>
 xloop [] [] j fun _ k next1 =>
 a0c x0 a i k next1 R E
def h54 : Hint := (.seq .none (.seq .none (.block (.loop [] (.seq .none (.seq (.cond .none .none) (.block (.seq .none (.seq .none (.seq .none (.cond .none .none)))))))))))
theorem a3k {x0 x1 : Value} {w : World} {R : Value → World → Prop} {E : Pan} (h : F54 x0 x1 w R E) : Cv Tryd.prog 54 #[x0, x1] w R E := okF (args := [x0, x1]) (h := h54) Tryd.func54 (by kernel_rfl) (by kernel_rfl) h
def F55 (x0 x1 : Value) (w : World) (R : Value → World → Prop) (E : Pan) : Prop :=
 opK Tryd.prog E (xV (Instr.box 25 x0)) w fun b f =>
 opK Tryd.prog E (xV (Instr.alloc 25 true (.tuple #[]))) f fun a g =>
 opK Tryd.prog E (xBin .eql 21 (.tmp 5) (.const (Value.int .i32 10)) x1 (Value.int .i32 10)) g fun i c =>
 xcond i
 (opK Tryd.prog E (xV (Instr.fieldAt 25 b 0)) c fun j k =>
 opK Tryd.prog E (xV (Instr.loadAt 3 j)) k fun l m =>
 opK Tryd.prog E (xBin .add 3 (.tmp 8) (.const (Value.int .i64 1)) l (Value.int .i64 1)) m fun n o =>
 opK Tryd.prog E (xV (Instr.build 25 #[(0, n), (1, (Value.int .i64 1))])) o fun p q =>
 opK Tryd.prog E (xU (Instr.storeAt 25 a p)) q fun _ d =>
 xcell Tryd.prog 25 a d fun r =>
 R r d)
 (opK Tryd.prog E (xV (Instr.fieldAt 25 b 0)) c fun s t =>
 opK Tryd.prog E (xV (Instr.loadAt 3 s)) t fun u v =>
 opK Tryd.prog E (xV (Instr.fieldAt 25 b 1)) v fun y z =>
 opK Tryd.prog E (xV (Instr.loadAt 3 y)) z fun aa ab =>
 opK Tryd.prog E (xBin .add 3 (.tmp 14) (.const (Value.int .i64 1)) aa (Value.int .i64 1)) ab fun ac ad =>
 opK Tryd.prog E (xV (Instr.build 25 #[(0, u), (1, ac)])) ad fun ae af =>
 opK Tryd.prog E (xU (Instr.storeAt 25 a ae)) af fun _ e =>
 xcell Tryd.prog 25 a e fun ag =>
 R ag e)
def h55 : Hint := (.seq .none (.seq (.seq .none (.cond (.seq .none .none) .none)) (.seq .none .none)))
theorem a3l {x0 x1 : Value} {w : World} {R : Value → World → Prop} {E : Pan} (h : F55 x0 x1 w R E) : Cv Tryd.prog 55 #[x0, x1] w R E := okF (args := [x0, x1]) (h := h55) Tryd.func55 (by kernel_rfl) (by kernel_rfl) h
def F56 (x0 : Value) (w : World) (R : Value → World → Prop) (E : Pan) : Prop :=
 opK Tryd.prog E (xCall (Value.func (.func 39) #[] #[]) [x0]) w fun c d =>
 opK Tryd.prog E (xCall (Value.func (.func 33) #[] #[]) [c]) d fun a e =>
 opK Tryd.prog E (xV (Instr.extract a 0)) e fun f g =>
 opK Tryd.prog E (xV (Instr.extract a 1)) g fun i j =>
 opK Tryd.prog E (xNil x0) j fun k l =>
 opK Tryd.prog E (xV (Instr.fieldAt 44 k 1)) l fun m n =>
 opK Tryd.prog E (xV (Instr.loadAt 3 m)) n fun o p =>
 opK Tryd.prog E (xBin .add 3 (.tmp 13) (.tmp 14) o i) p fun q r =>
 opK Tryd.prog E (xNil x0) r fun s t =>
 opK Tryd.prog E (xV (Instr.fieldAt 44 s 1)) t fun u v =>
 opK Tryd.prog E (xU (Instr.storeAt 3 u q)) v fun _ y =>
 opK Tryd.prog E (xNil x0) y fun z aa =>
 opK Tryd.prog E (xV (Instr.fieldAt 44 z 2)) aa fun ab ac =>
 opK Tryd.prog E (xV (Instr.fieldAt 25 ab 1)) ac fun ad ae =>
 opK Tryd.prog E (xV (Instr.loadAt 3 ad)) ae fun af ag =>
 opK Tryd.prog E (xBin .add 3 (.tmp 22) (.const (Value.int .i64 1)) af (Value.int .i64 1)) ag fun ah ai =>
 opK Tryd.prog E (xNil x0) ai fun aj ak =>
 opK Tryd.prog E (xV (Instr.fieldAt 44 aj 2)) ak fun al am =>
 opK Tryd.prog E (xV (Instr.fieldAt 25 al 1)) am fun an ao =>
 opK Tryd.prog E (xU (Instr.storeAt 3 an ah)) ao fun _ ap =>
 opK Tryd.prog E (xBin .eql 21 (.tmp 27) (.const (Value.int .i32 10)) f (Value.int .i32 10)) ap fun aq b =>
 xcond aq
 (opK Tryd.prog E (xNil x0) b fun ar au =>
 opK Tryd.prog E (xV (Instr.fieldAt 44 ar 2)) au fun av aw =>
 opK Tryd.prog E (xV (Instr.fieldAt 25 av 0)) aw fun ax ay =>
 opK Tryd.prog E (xV (Instr.loadAt 3 ax)) ay fun az ba =>
 opK Tryd.prog E (xBin .add 3 (.tmp 34) (.const (Value.int .i64 1)) az (Value.int .i64 1)) ba fun bb bc =>
 opK Tryd.prog E (xV (Instr.build 25 #[(0, bb), (1, (Value.int .i64 1))])) bc fun bd be =>
 opK Tryd.prog E (xNil x0) be fun bf bg =>
 opK Tryd.prog E (xV (Instr.fieldAt 44 bf 2)) bg fun bh bi =>
 opK Tryd.prog E (xU (Instr.storeAt 25 bh bd)) bi fun _ bj =>
 R (Value.tuple #[]) bj)
 (R (Value.tuple #[]) b)
def h56 : Hint := (.seq .none (.seq .none (.seq .none (.seq .none (.cond .none .none)))))
theorem a5O {x0 : Value} {w : World} {R : Value → World → Prop} {E : Pan} (h : F56 x0 w R E) : Cv Tryd.prog 56 #[x0] w R E := okF (args := [x0]) (h := h56) Tryd.func56 (by kernel_rfl) (by kernel_rfl) h
def F57 (x0 x1 : Value) (w : World) (R : Value → World → Prop) (E : Pan) : Prop :=
 opK Tryd.prog E (xBuiltin .len #[9] 3 [false] [x0]) w fun b c =>
 opK Tryd.prog E (xBuiltin .len #[9] 3 [false] [x1]) c fun d e =>
 opK Tryd.prog E (xBin .geq 3 (.tmp 6) (.tmp 8) b d) e fun a f =>
 opK Tryd.prog E (gsem (asB a) true (xBuiltin .len #[9] 3 [false] [(gval (asB a) true x1)])) f fun g i =>
 opK Tryd.prog E (gsem (asB a) true (xV (Instr.sliceAt 9 (gval (asB a) true x0) none (some g) none))) i fun j k =>
 opK Tryd.prog E (gsem (asB a) true (xBin .eql 9 (.tmp 14) (.tmp 15) j (gval (asB a) true x1))) k fun l m =>
 opK Tryd.prog E (xPick a l (Value.bool false)) m fun n o =>
 R n o
def h57 : Hint := (.seq .none (.seq .none .none))
theorem a5P {x0 x1 : Value} {w : World} {R : Value → World → Prop} {E : Pan} (h : F57 x0 x1 w R E) : Cv Tryd.prog 57 #[x0, x1] w R E := okF (args := [x0, x1]) (h := h57) Tryd.func57 (by kernel_rfl) (by kernel_rfl) h
def F58 (x0 : Value) (w : World) (R : Value → World → Prop) (E : Pan) : Prop :=
 opK Tryd.prog E (xCall (Value.func (.func 30) #[] #[]) [x0]) w fun a b =>
 opK Tryd.prog E (xBin .eql 3 (.tmp 4) (.const (Value.int .i64 4)) a (Value.int .i64 4)) b fun c d =>
 R c d
def h58 : Hint := (.seq .none (.seq .none .none))
theorem a5Q {x0 : Value} {w : World} {R : Value → World → Prop} {E : Pan} (h : F58 x0 w R E) : Cv Tryd.prog 58 #[x0] w R E := okF (args := [x0]) (h := h58) Tryd.func58 (by kernel_rfl) (by kernel_rfl) h
end Go.Proofs.YthklmeihgmcljaaDoor
