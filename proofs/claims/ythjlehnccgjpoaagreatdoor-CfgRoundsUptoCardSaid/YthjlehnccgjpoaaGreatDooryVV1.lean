/- Lemmas. -/
import Derived.Test.YthjlehnccgjpoaaGreatDooryVG1a
namespace Go.Proofs.YthjlehnccgjpoaaGreatDoor
open Tryz Go.RowKit
set_option maxRecDepth 100000
set_option maxHeartbeats 4000000
section
variable {w:World}{R:RT}{E:Pan}
def d2U(x0 x4 x5 w)(R:RT)(E):=
 ∀_τ:Fr,(opK pG E (xCall (fC 94) [x0,(Value.string ⟨#[59]⟩)]) w λ_t96_11=>oN E (lA 55 x5) λc=>oN E (sA 55 x4 c) λ_=>xE 55 x4 λe=>R e)
def d2V(x0 x1 _x4 x5:Value)(w)(j1:NT)(_R:RT)(E):=
 ∀_τ:Fr,(oP E (xCall (fC 94) [x0,(Value.string ⟨#[61]⟩)]) w λ_t30_35 g=>dX g λb=>qP pG (fA 55 x5 2) λa=>qL pG b (blk a) (lA 52 a) λi=>oP E (xCall (fC 98) [x0,x1]) b λj c=>keepX [(blk a)] b c (opK pG E (yS 52 1 #[(0,j)]) c λk d=>keepX [(blk a)] c d (opK pG E (yP 52 i k) d λl e=>keepX [] d e (qP pG (fA 55 x5 2) λm=>oP E (sA 52 m l) e λ_ f=>keepX [] e f (j1 [] f)))))
def d2W(x4 x5 w)(R:RT)(E):=
 ∀_τ:Fr,(opK pG E (lA 55 x5) w λb=>oN E (sA 55 x4 b) λ_=>xE 55 x4 λd=>R d)
def h61:Hint:=(sQ (sQ (sQ (hU [] (hB (sQ (hC (hS (.reg [(0,2^14,64),(1,2^15,2^14),(0,2^16,32),(4,0,2^16),(15,2^17,32),(31,0,163840)] [2,0,2,2,2,0] (eO 0 (eO 2 (lO 1 (sO 3 (eO 4 (sO 5 dO))))))) (hU [] (sQ (hC (sQ (.reg [(0,2^21,32),(1,2^22,2^21),(0,2^23,1),(0,2^24,2),(12,2^25,25165824),(16,2^26,2^25),(50,2^27,71303168),(127,2^28,32),(255,0,402653184)] [2,0,2,2,2,2,0,2,0] (eO 0 (eO 2 (eO 3 (lO 1 (sO 4 (sO 5 (sO 6 (eO 7 (sO 8 dO))))))))))) hN)) (sQ (.reg [(0,2^31,32),(1,2^32,2^31),(0,2^33,1),(0,2^34,2),(12,2^35,2^33+2^34),(16,2^36,2^35),(50,2^37,2^32+2^36),(127,2^38,32),(255,0,2^37+2^38)] [2,0,2,2,2,2,0,2,0] (eO 0 (eO 2 (eO 3 (lO 1 (sO 4 (sO 5 (sO 6 (eO 7 (sO 8 dO))))))))))))) (sQ (hC (sQ (sQ (hU [] (sQ (hC hN hN)) (sQ hN)))) (sQ (hC (sQ (sQ (sQ hN))) (sQ (hC hN (sQ (hC hN hN))))))))))) (sQ (sQ hN))))))
theorem e3a{x0 x1}(h:opK pG E (yA 55) w λc=>oN E (yA 55) λa=>oN E (xCall (fC 95) [x0]) λaa=>oN E (yA 127) λb=>oN E (sA 127 b aa) λ_=>xK (λ_ ae=>d2U x0 c a ae R E) λj1=>oN E (fA 127 b 0) λaf=>oN E (lA 3 af) λah=>oN E (bC .eql 3 12 ah (vI 1)) λaj=>xC aj
 (dN λe=>qP pG (fA 127 b 1) λf=>qP pG (fA 55 a 0) λak=>qL pG e (blk f) (lA 9 f) λal=>opK pG E (sA 3 ak (vI 1)) e λ_ g=>keepX [(blk f)] e g (qP pG (fA 55 a 1) λam=>opK pG E (sA 9 am al) g λ_ n=>keepX [] g n (xcut (λ_ an=>d2V x0 x1 c a an j1 R E) λj2=>(oN E (xCall (fC 96) [x0,(Value.string ⟨#[91]⟩)]) λao=>xC ao
 (oN E (fA 55 a 0) λap=>oN E (sA 3 ap (vI 2)) λ_=>dN λi=>qP pG (fA 55 a 2) λd=>qL pG i (blk d) (lA 52 d) λau=>opK pG E (xCall (fC 97) [x0,x1,(Value.string ⟨#[93]⟩)]) i λav j=>keepX [(blk d)] i j (opK pG E (yS 52 1 #[(0,av)]) j λaw k=>keepX [(blk d)] j k (opK pG E (yP 52 au aw) k λax l=>keepX [] k l (qP pG (fA 55 a 2) λay=>opK pG E (sA 52 ay ax) l λ_ p=>keepX [] l p (j2 [] p)))))
 (j2 [])) n)))
 (oN E (fA 127 b 1) λaz=>oN E (lA 9 az) λbb=>oN E (bC .eql 9 41 bb (Value.string ⟨#[105,102]⟩)) λbd=>xC bd
 (oN E (xCall (fC 99) [x0,x1]) λbe=>oN E (yS 53 1 #[(0,be)]) λbg=>oN E (fA 55 a 0) λbi=>oN E (sA 3 bi (vI 3)) λ_=>oN E (fA 55 a 3) λbl=>oN E (sA 53 bl bg) λ_=>oN E (xCall (fC 100) [x0,x1]) λbo=>oN E (fA 55 a 4) λbq=>oN E (sA 23 bq bo) λ_=>xK (λ_ bt=>d2W c a bt R E) λj3=>oN E (xCall (fC 96) [x0,(Value.string ⟨#[101,108,115,101]⟩)]) λbu=>xC bu
 (oN E (xCall (fC 100) [x0,x1]) λbv=>oN E (fA 55 a 5) λbz=>oN E (sA 23 bz bv) λ_=>j3 [])
 (j3 []))
 (oN E (fA 127 b 1) λcc=>oN E (lA 9 cc) λce=>oN E (bC .eql 9 62 ce (Value.string ⟨#[119,104,105,108,101]⟩)) λcg=>xC cg
 (oN E (xCall (fC 99) [x0,x1]) λch=>oN E (yS 53 1 #[(0,ch)]) λcj=>oN E (fA 55 a 0) λcl=>oN E (sA 3 cl (vI 4)) λ_=>oN E (fA 55 a 3) λco=>oN E (sA 53 co cj) λ_=>oN E (xCall (fC 100) [x0,x1]) λcr=>oN E (fA 55 a 4) λct=>oN E (sA 23 ct cr) λ_=>oN E (lA 55 a) λcw=>oN E (sA 55 c cw) λ_=>xE 55 c λcy=>R cy)
 (oN E (fA 127 b 1) λcz=>oN E (lA 9 cz) λdb=>oN E (bC .eql 9 77 db (Value.string ⟨#[97,115,115,101,114,116]⟩)) λdd=>xC dd
 (oN E (xCall (fC 99) [x0,x1]) λde=>oN E (yS 53 1 #[(0,de)]) λdg=>oN E (fA 55 a 0) λdi=>oN E (sA 3 di (vI 5)) λ_=>oN E (fA 55 a 3) λdl=>oN E (sA 53 dl dg) λ_=>j1 [])
 (oN E (fA 127 b 1) λdp=>oN E (lA 9 dp) λdr=>oN E (bC .eql 9 87 dr (Value.string ⟨#[97,115,115,117,109,101]⟩)) λdt=>xC dt
 (oN E (xCall (fC 99) [x0,x1]) λdu=>oN E (yS 53 1 #[(0,du)]) λdw=>oN E (fA 55 a 0) λdy=>oN E (sA 3 dy (vI 6)) λ_=>oN E (fA 55 a 3) λeb=>oN E (sA 53 eb dw) λ_=>j1 [])
 (oN E (fA 55 a 0) λee=>oN E (sA 3 ee (vI 7)) λ_=>j1 [])))))):Cv pG 61 #[x0,x1] w R E:=okG (h61) func61 h
def d2X(x7 x9 w)(R:RT)(_E:Pan):=
 ∀_τ:Fr,(R (yU [x9,x7]) w)
def e3b(x5 x7 x9 x37 x38 x39 w)(next2:NT)(j1:NT)(_R:RT)(E):=
 opK pG E (bN .lss 3 39 38 x39 x38) w λf=>xC f
 (oN E (iA 182 x37 x39) λg=>oN E (lA 186 g) λj=>oN E (yA 186) λa=>oN E (sA 186 a j) λ_=>oN E (fA 186 a 0) λn=>oN E (lA 9 n) λp=>oN E (xV (Instr.lookup 61 x5 p false)) λc=>oN E (fA 186 a 1) λs=>oN E (lA 3 s) λu=>oN E (bN .eql 3 46 51 c u) λy=>xC y
 (oN E (bC .add 3 39 x39 (vI 1)) λz=>next2 [x7,x9,z])
 (oN E (bC .eql 3 46 c (vI 0)) λab=>xC ab
 (oN E (fA 186 a 0) λac=>oN E (lA 9 ac) λae=>j1 [(vI 63),ae])
 (oN E (fA 186 a 0) λag=>oN E (lA 9 ag) λai=>j1 [(vI 64),ai])))
 (j1 [x7,x9])
theorem e3c{x0}(h:opK pG E (yB 25 x0) w λa=>oN E (lA 25 a) λm=>oN E (xCall (fC 21) [m]) λe=>oN E (bC .neq 32 14 e (vI 0)) λp=>xC p
 (R (yU [(eS),e]))
 (oN E (fA 25 a 0) λq=>oN E (lA 22 q) λs=>oN E (xCall (fC 101) [s]) λb=>oN E (xT b 0) λv=>oN E (xT b 1) λz=>oN E (xT b 2) λc=>oN E (bC .neq 32 24 c (vI 0)) λac=>xC ac
 (R (yU [z,c]))
 (oN E (yI 184 #[]) λad=>oN E (yB 184 ad) λi=>oN E (fA 25 a 1) λag=>oN E (lA 23 ag) λai=>oN E (xCall (fC 102) [i,ai]) λ_t33_31=>xK (λj al=>d2X (nth j 0) (nth j.tail 0) al R E) λj1=>oN E (xNil i) λam=>oN E (fA 184 am 0) λao=>oN E (lA 182 ao) λk=>oN E (yN 182 k) λar=>xL [7,9,39] [c,(eS),(vI 0)] λd av next2=>e3b v (d 7) (d 9) k ar (d 39) av next2 j1 R E))):Cv pG 62 #[x0] w R E:=okG ((sQ (.scope (hS (sQ (sQ (hC (sQ hN) hN))) (sQ (hS (sQ (hC (sQ hN) hN)) (sQ (sQ (sQ (sQ (hU [7,9] (sQ (hB (hL [7,9,39] (sQ (hS (hC hN hN) (hS (hB (sQ (sQ (hB (sQ (hC hN (sQ (hC (sQ hN) (sQ hN))))))))) hN)))))) (sQ hN)))))))))))) func62 h
def d2Y(x0 x5 w)(R:RT)(E):=
 ∀_τ:Fr,(opK pG E (xV (Instr.sliceAt 22 x0 (some x5) none none)) w λa=>oN E (xBuiltin .clear #[22] 0 [false] [a]) λ_=>oN E (xV (Instr.sliceAt 22 x0 none (some x5) none)) λd=>R d)
def c6u(_x0 _x1 x5 x6:Value)(w)(next2:NT)(_R:RT)(E):=
 ∀_τ:Fr,(oP E (bC .add 3 20 x6 (vI 1)) w λa b=>next2 [x5,a] b)
def d2Z(x0 x1 x5 x6 w)(next2:NT)(j1:NT)(R:RT)(E):=
 opK pG E (yN 22 x0) w λd=>oN E (bN .lss 3 16 18 x6 d) λf=>xC f
 (xK (λg i=>c6u x0 x1 (nth g 0) x6 i next2 R E) λj3=>oN E (iA 22 x0 x6) λj=>oN E (lA 65 j) λl=>oN E (yA 65) λa=>oN E (sA 65 a l) λ_=>oN E (lA 65 a) λp=>oN E (xCall x1 [p]) λr=>oN E (yT r) λt=>xC t
 (oN E (lA 65 a) λu=>oN E (iA 22 x0 x5) λy=>oN E (sA 65 y u) λ_=>oN E (bC .add 3 34 x5 (vI 1)) λab=>j3 [ab])
 (j3 [x5]))
 (j1 [x5])
def F63(x0 x1 w)(R:RT)(E):=
 opK pG E (xCall (fC 103) [x0,x1]) w λa=>oN E (bC .eql 3 11 a (vI (-1))) λe=>xC e
 (R x0)
 (xK (λf g=>d2Y x0 (nth f 0) g R E) λj1=>oN E (bC .add 3 14 a (vI 1)) λi=>xL [5,6] [a,i] λc k next2=>d2Z x0 x1 (c 5) (c 6) k next2 j1 R E)
theorem e3d{x0 x1}(h:F63 x0 x1 w R E):Cv pG 63 #[x0,x1] w R E:=okG ((sQ (sQ (hS (sQ (hC (sQ hN) hN)) (hU [5] (sQ (hB (hL [5,6] (hS (sQ (hC hN hN)) (hU [5] (hB (sQ (sQ (hC (sQ hN) hN)))) hN))))) (sQ (sQ hN))))))) func63 h
def F64(x0 w)(R:RT)(E):=
 opK pG E (bC .eql 22 3 x0 (nS)) w λb=>xC b
 (R (nS))
 (oN E (yS 22 0 #[]) λc=>oN E (yP 22 c x0) λe=>R e)
theorem e3e{x0}(h:F64 x0 w R E):Cv pG 64 #[x0] w R E:=okG ((sQ (hS (sQ (hC (sQ hN) hN)) (sQ hN)))) func64 h
def F65(x0 x1 w)(R:RT)(E):=
 opK pG E (yB 65 x0) w λb d=>dX d λa=>qL pG a (blk b) (lA 65 b) λe=>qL pG a (blk x1) (lA 3 x1) λf=>oP E (xCall (fC 66) [e]) a λg c=>keepX [(blk x1)] a c (qP pG (bN .neq 3 5 6 g f) λi=>R i c)
theorem e3f{x0 x1}(h:F65 x0 x1 w R E):Cv pG 65 #[x0,x1] w R E:=okG ((sQ (hS (.reg [(0,16,4),(1,32,16),(0,64,2),(6,128,96),(15,8,128)] [4,4,1,5,5] (lO 0 (lO 2 (sO 1 (eO 3 (eO 4 dO)))))) hN))) func65 h
theorem e3g{x0}(h:opK pG E (yB 65 x0) w λb=>oN E (fA 65 b 1) λd=>oN E (lA 3 d) λf=>oN E (bC .gtr 3 4 f (vI 0)) λi=>xC i
 (R (vI 2))
 (R (vI 1))):Cv pG 66 #[x0] w R E:=okG ((sQ (hS (sQ (hC (sQ hN) hN)) (sQ hN)))) func66 h
theorem e3h{x0 x1 x2 x3 x4}(h:opK pG E (yB 112 x2) w λe=>oN E (lA 112 e) λk=>oN E (xCall (fC 104) [x0,k]) λf=>oN E (xT f 0) λn=>oN E (xT f 1) λp=>oN E (yA 41) λa=>oN E (sA 41 a n) λ_=>oN E (yT p) λt=>xC t
 (oN E (lA 112 e) λu=>oN E (xCall (fC 105) [x0,u,x1,x3,x4,(vI 0)]) λ_t26_19=>R (yU []))
 (oN E (xCall (fC 68) [x3,x4,(vI 2)]) λz=>oN E (yA 43) λb=>oN E (sA 43 b z) λ_=>dN λc=>qP pG (fA 43 b 3) λad=>qL pG c (blk a) (lA 41 a) λae=>opK pG E (sA 3 ad x1) c λ_ d=>keepX [(blk a)] c d (qP pG (fA 43 b 6) λaf=>opK pG E (sA 41 af ae) d λ_ i=>keepX [] d i (opK pG E (lA 43 b) i λag=>oN E (xCall (fC 70) [x0,ag]) λ_t36_37=>R (yU []))))):Cv pG 67 #[x0,x1,x2,x3,x4] w R E:=okG ((sQ (sQ (hS (sQ (hC (sQ hN) hN)) (sQ (hS (.reg [(0,2^30,2),(0,2^31,1024),(1,2^32,4096),(5,0,2^30+2^32),(15,2^33,4096),(31,0,2^31+2^33)] [2,0,2,2,2,0] (eO 0 (eO 2 (lO 1 (sO 3 (eO 4 (sO 5 dO))))))) hN)))))) func67 h
theorem e3i{x0 x1 x2}(h:opK pG E (yA 43) w λa=>oN E (xCall (fC 40) []) λd=>oN E (xCall (fC 40) []) λf=>oN E (yI 43 #[(0,x0),(1,x1),(2,x2),(3,(vI (-1))),(4,(vI (-1))),(6,d),(7,f)]) λi=>oN E (sA 43 a i) λ_=>xE 43 a λk=>R k):Cv pG 68 #[x0,x1,x2] w R E:=okG ((sQ (sQ hN))) func68 h
theorem e3j{x0 x1 x2 x3}(h:opK pG E (yA 41) w λa=>oN E (yA 41) λb=>oN E (iA 52 x1 (vI 0)) λp=>oN E (lA 112 p) λr=>oN E (xCall (fC 106) [x0,r,x2,x3]) λk=>oN E (xT k 0) λu=>oN E (xT k 1) λy=>oN E (sA 41 a u) λ_=>dN λc=>qP pG (iA 52 x1 (vI 1)) λf=>qL pG c (blk f) (lA 112 f) λab=>qL pG c (blk a) (lA 41 a) λac=>opK pG E (xCall (fC 107) [x0,ac,x3]) c λad g=>keepX [(blk f)] c g (opK pG E (xCall (fC 106) [x0,ab,y,ad]) g λl i=>keepX [] g i (qP pG (xT l 0) λae=>qP pG (xT l 1) λaf=>opK pG E (sA 41 b ae) i λ_ m=>keepX [] i m (dX m λd=>qL pG d (blk a) (lA 41 a) λag=>qL pG d (blk b) (lA 41 b) λah=>opK pG E (sA 41 a ag) d λ_ j=>keepX [(blk b)] d j (opK pG E (sA 41 b ah) j λ_ e=>keepX [] j e (xcell pG 41 a e λai=>xcell pG 41 b e λaj=>R (yU [ai,aj,af]) e)))))):Cv pG 69 #[x0,x1,x2,x3] w R E:=okG ((sQ (sQ (hS (.reg [(0,2^22,1),(0,2^23,2),(2,2^24,2^23),(4,2^25,2^24),(0,2^26,1024),(0,2^27,1),(0,2^28,256),(0,2^29,8),(224,2^30,939524096),(281,2^31,1178599424),(512,2^21,2^31),(1024,2^32,2^21),(1024,2^33,2^21),(4095,0,2^9+2^32),(16383,1024,2^33)] [72,72,72,64,72,72,8,72,8,0,72,72,72,0,72] (eO 0 (eO 1 (eO 2 (eO 4 (eO 5 (eO 7 (lO 3 (lO 6 (sO 8 (sO 9 (eO 10 (eO 11 (eO 12 (sO 13 (eO 14 dO)))))))))))))))) (hS (.reg [(0,2^34,256),(0,2^35,512),(0,2^36,1024),(1,0,2^8+2^34),(11,0,2^9+2^35),(31,1024,2^36)] [2,1,3,2,0,3] (eO 2 (lO 0 (lO 1 (sO 3 (sO 4 (eO 5 dO))))))) hN))))) func69 h
theorem e3k{x0 x1}(h:opK pG E (yB 43 x1) w λe g=>dX g λa=>qP pG (xNil x0) λi=>qP pG (fA 63 i 0) λj=>qP pG (fA 31 j 5) λb=>qL pG a (blk b) (lA 29 b) λk=>qL pG a (blk e) (lA 43 e) λl=>oP E (yS 29 1 #[(0,l)]) a λm c=>keepX [(blk b)] a c (opK pG E (yP 29 k m) c λn d=>keepX [] c d (qP pG (xNil x0) λo=>qP pG (fA 63 o 0) λp=>qP pG (fA 31 p 5) λq=>oP E (sA 29 q n) d λ_ f=>keepX [] d f (R (yU []) f)))):Cv pG 70 #[x0,x1] w R E:=okG ((sQ (.reg [(0,16,1),(0,32,1),(2,64,32),(4,128,64),(8,256,128),(16,512,256),(0,1024,8),(64,2048,1024),(160,4096,2560),(511,8192,16),(1023,2^14,8192),(1535,2^15,2^14),(2559,0,36864)] [96,96,96,96,96,64,32,32,0,96,96,96,0] (eO 0 (eO 1 (eO 2 (eO 3 (eO 4 (lO 5 (lO 6 (sO 7 (sO 8 (eO 9 (eO 10 (eO 11 (sO 12 dO)))))))))))))))) func70 h
theorem e3l{x0 x1 x2}(h:opK pG E (yN 23 x1) w λb=>oN E (bC .eql 3 8 b (vI 0)) λd=>xC d
 (R x2)
 (oN E (xCall (fC 14) [x0]) λe=>R e)):Cv pG 71 #[x0,x1,x2] w R E:=okG ((sQ (hS (sQ (hC (sQ hN) hN)) (sQ hN)))) func71 h
theorem e3m{x0 x1 x2 x3 x4}(h:opK pG E (yB 115 x1) w λa=>oN E (fA 115 a 0) λu=>oN E (lA 3 u) λc=>oN E (bC .eql 3 17 c (vI 1)) λz=>xC z
 (oN E (xCall (fC 68) [x2,x3,(vI 1)]) λaa=>oN E (xCall (fC 70) [x0,aa]) λ_t55_11=>R (yU []))
 (oN E (bC .eql 3 17 c (vI 2)) λad=>xC ad
 (oN E (xCall (fC 68) [x2,x4,(vI 1)]) λae=>oN E (xCall (fC 70) [x0,ae]) λ_t62_17=>R (yU []))
 (oN E (bC .eql 3 17 c (vI 4)) λah=>xC ah
 (oN E (fA 115 a 3) λai=>oN E (lA 53 ai) λak=>oN E (iA 53 ak (vI 0)) λam=>oN E (lA 115 am) λao=>oN E (xCall (fC 72) [x0,ao,x2,x4,x3]) λ_t73_29=>R (yU []))
 (oN E (bC .eql 3 17 c (vI 5)) λar=>xC ar
 (oN E (xCall (fC 14) [x0]) λo=>oN E (fA 115 a 3) λav=>oN E (lA 53 av) λax=>oN E (iA 53 ax (vI 0)) λaz=>oN E (lA 115 az) λbb=>oN E (xCall (fC 72) [x0,bb,x2,o,x4]) λ_t86_43=>oN E (fA 115 a 3) λbe=>oN E (lA 53 be) λbg=>oN E (iA 53 bg (vI 1)) λbi=>oN E (lA 115 bi) λbk=>oN E (xCall (fC 72) [x0,bk,o,x3,x4]) λ_t95_53=>R (yU []))
 (oN E (bC .eql 3 17 c (vI 6)) λbn=>xC bn
 (oN E (xCall (fC 14) [x0]) λq=>oN E (fA 115 a 3) λbp=>oN E (lA 53 bp) λbr=>oN E (iA 53 br (vI 0)) λbt=>oN E (lA 115 bt) λbv=>oN E (xCall (fC 72) [x0,bv,x2,x3,q]) λ_t108_67=>oN E (fA 115 a 3) λca=>oN E (lA 53 ca) λcc=>oN E (iA 53 cc (vI 1)) λce=>oN E (lA 115 ce) λcg=>oN E (xCall (fC 72) [x0,cg,q,x3,x4]) λ_t117_77=>R (yU []))
 (oN E (fA 115 a 2) λcj=>oN E (lA 52 cj) λcl=>oN E (xCall (fC 69) [x0,cl,x2,(vI 0)]) λg=>oN E (xT g 0) λco=>oN E (xT g 1) λcq=>oN E (xT g 2) λcs=>oN E (yA 41) λf=>oN E (yA 41) λd=>oN E (sA 41 f co) λ_=>oN E (sA 41 d cq) λ_=>oN E (xCall (fC 68) [cs,x3,(vI 12)]) λcy=>oN E (yA 43) λb=>oN E (sA 43 b cy) λ_=>dN λe=>qP pG (fA 115 a 1) λr=>qL pG e (blk r) (lA 3 r) λdc=>qP pG (fA 43 b 5) λdd=>qL pG e (blk f) (lA 41 f) λde=>qL pG e (blk d) (lA 41 d) λdf=>opK pG E (sA 3 dd dc) e λ_ i=>keepX [(blk d),(blk f)] e i (qP pG (fA 43 b 6) λdg=>opK pG E (sA 41 dg de) i λ_ j=>keepX [(blk d)] i j (qP pG (fA 43 b 7) λdh=>opK pG E (sA 41 dh df) j λ_ s=>keepX [] j s (opK pG E (lA 43 b) s λdi=>oN E (xCall (fC 70) [x0,di]) λ_t39_121=>oN E (fA 115 a 1) λdl=>oN E (lA 3 dl) λdn=>oN E (xCall (fC 41) [dn]) λdq=>oN E (fA 43 b 1) λds=>oN E (sA 3 ds x4) λ_=>oN E (fA 43 b 5) λdv=>oN E (sA 3 dv dq) λ_=>oN E (lA 43 b) λdy=>oN E (xCall (fC 70) [x0,dy]) λ_t48_139=>R (yU [])))))))))):Cv pG 72 #[x0,x1,x2,x3,x4] w R E:=okG ((sQ (sQ (hB (sQ (hC hN (sQ (hC hN (sQ (hC hN (sQ (hC (sQ (sQ hN)) (sQ (hC (sQ (sQ hN)) (sQ (sQ (hS (.reg [(0,2^30,64),(1,2^31,2^30),(0,2^32,4096),(0,2^33,8192),(3,2^34,2^15),(19,0,2^31+2^34),(55,2^35,2^15),(119,0,2^32+2^35),(255,2^36,2^15),(511,0,2^33+2^36)] [14,12,10,6,14,12,14,8,14,0] (eO 0 (lO 1 (eO 4 (lO 2 (lO 3 (sO 5 (eO 6 (sO 7 (eO 8 (sO 9 dO))))))))))) (sQ (sQ hN))))))))))))))))))) func72 h
def d3a(x3 w)(R:RT)(E):=
 ∀_τ:Fr,(oP E (lA 107 x3) w λa b=>R a b)
theorem e3n{x0}(h:opK pG E (yI 106 #[]) w λf=>oN E (yB 106 f) λi=>oN E (yA 107) λa=>oN E (sA 107 a i) λ_=>oN E (yA 194) λb=>oN E (xV (Instr.makeFunc (.func 108) #[] #[a,b])) λn=>oN E (sA 194 b n) λ_=>xK (λ_ q=>d3a a q R E) λj1=>oN E (lA 194 b) λr=>oN E (xCall r [x0,(vI 1)]) λt=>oN E (yT t) λv=>xC v
 (j1 [])
 (oN E (lA 107 a) λy=>oN E (xNil y) λaa=>oN E (fA 106 aa 3) λac=>oN E (lA 4 ac) λae=>xC ae
 (oN E (lA 107 a) λaf=>oN E (xNil af) λah=>oN E (fA 106 ah 2) λaj=>oN E (sA 32 aj (vI 30)) λ_=>j1 [])
 (oN E (lA 107 a) λam=>oN E (xNil am) λao=>oN E (fA 106 ao 4) λaq=>oN E (lA 4 aq) λau=>xC au
 (oN E (lA 107 a) λav=>oN E (xNil av) λax=>oN E (fA 106 ax 2) λaz=>oN E (sA 32 az (vI 31)) λ_=>j1 [])
 (j1 [])))):Cv pG 73 #[x0] w R E:=okG ((sQ (sQ (sQ (sQ (hU [] (sQ (hB (sQ (hC hN (sQ (hC hN (sQ (hC hN hN)))))))) (sQ hN))))))) func73 h
def d3b(x6 w)(R:RT)(_E:Pan):=
 ∀_τ:Fr,(R x6 w)
def e3o(x6 x25 x26 x27 w)(next3:NT)(j2:NT)(_R:RT)(E):=
 opK pG E (bN .lss 3 27 26 x27 x26) w λb=>xC b
 (oN E (iA 197 x25 x27) λc=>oN E (lA 146 c) λe=>oN E (yP 146 x6 e) λg=>oN E (bC .add 3 27 x27 (vI 1)) λj=>next3 [g,j])
 (j2 [x6])
def d3c(x0 x3 w)(R:RT)(E):=
 ∀_τ:Fr,(opK pG E (xCall (fC 110) [(nS),x3]) w λb=>xK (λd e=>d3b (nth d 0) e R E) λj2=>oN E (yN 197 x0) λf=>xL [6,27] [b,(vI 0)] λa i next3=>e3o (a 6) x0 f (a 27) i next3 j2 R E)
def d3d(_x0 x3 _x9 _x10 x11:Value)(w)(next4:NT)(_R:RT)(E):=
 ∀_τ:Fr,(oP E (bC .add 3 11 x11 (vI 1)) w λa b=>next4 [x3,a] b)
def e3p(x0 x3 x9 x10 x11 w)(next4:NT)(j1:NT)(R:RT)(E):=
 opK pG E (bN .lss 3 11 10 x11 x10) w λd=>xC d
 (xK (λe f=>d3d x0 (nth e 0) x9 x10 x11 f next4 R E) λj5=>oN E (iA 197 x9 x11) λg=>oN E (lA 146 g) λj=>oN E (yN 146 j) λl=>oN E (bN .add 3 15 17 x3 l) λa=>oN E (bC .lss 3 19 a (vI 0)) λo=>xC o
 (oN E (yE 9 (Value.string ⟨#[108,101,110,32,111,117,116,32,111,102,32,114,97,110,103,101]⟩)) λp=>oN E (xV (Instr.panic p)) λ_=>j5 [a])
 (j5 [a]))
 (j1 [x3])
theorem e3q{x0}(h:xcut (λb c=>d3c x0 (nth b 0) c R E) λj1=>(oN E (yN 197 x0) λd=>xL [3,11] [(vI 0),(vI 0)] λa f next4=>e3p x0 (a 3) x0 d (a 11) f next4 j1 R E) w):Cv pG 74 #[x0] w R E:=okG ((sQ (sQ (hU [3] (sQ (hB (hL [3,11] (sQ (hS (hC hN hN) (hU [3] (hB (sQ (sQ (sQ (hC hN hN))))) hN)))))) (sQ (hU [6] (sQ (hB (hL [6,27] (sQ (hS (hC hN hN) (hS (hB (sQ hN)) hN)))))) (sQ hN))))))) func74 h
def d3e(x5 w)(R:RT)(_E:Pan):=
 ∀_τ:Fr,(R x5 w)
def e3r(x1 x5 x8 x9 x10 w)(next2:NT)(j1:NT)(_R:RT)(E):=
 opK pG E (bN .lss 3 10 9 x10 x9) w λc=>xC c
 (oN E (iA 22 x8 x10) λd=>oN E (lA 65 d) λf=>oN E (yA 65) λb=>oN E (sA 65 b f) λ_=>oN E (lA 65 b) λk=>oN E (xCall x1 [k]) λm=>oN E (yS 146 1 #[(0,m)]) λo=>oN E (yP 146 x5 o) λq=>oN E (bC .add 3 10 x10 (vI 1)) λs=>next2 [q,s])
 (j1 [x5])
theorem e3s{x0 x1}(h:xcut (λb c=>d3e (nth b 0) c R E) λj1=>(oN E (yN 22 x0) λd=>xL [5,10] [(nS),(vI 0)] λa f next2=>e3r x1 (a 5) x0 d (a 10) f next2 j1 R E) w):Cv pG 75 #[x0,x1] w R E:=okG ((sQ (sQ (hU [5] (sQ (hB (hL [5,10] (sQ (hS (hC hN hN) (hS (hB (sQ hN)) hN)))))) (sQ hN))))) func75 h
theorem e3t{x0}(h:opK pG E (yB 65 x0) w λa=>oN E (lA 65 a) λc=>oN E (yI 200 #[(0,c)]) λe=>oN E (yE 200 e) λg=>R g):Cv pG 76 #[x0] w R E:=okG ((sQ (sQ hN))) func76 h
def d3f(x5 w)(R:RT)(_E:Pan):=
 ∀_τ:Fr,(R x5 w)
def e3u(x1 x5 x8 x9 x10 w)(next2:NT)(j1:NT)(_R:RT)(E):=
 opK pG E (bN .lss 3 10 9 x10 x9) w λc=>xC c
 (oN E (iA 23 x8 x10) λd=>oN E (lA 55 d) λf=>oN E (yA 55) λb=>oN E (sA 55 b f) λ_=>oN E (lA 55 b) λk=>oN E (xCall x1 [k]) λm=>oN E (yS 146 1 #[(0,m)]) λo=>oN E (yP 146 x5 o) λq=>oN E (bC .add 3 10 x10 (vI 1)) λs=>next2 [q,s])
 (j1 [x5])
theorem e3v{x0 x1}(h:xcut (λb c=>d3f (nth b 0) c R E) λj1=>(oN E (yN 23 x0) λd=>xL [5,10] [(nS),(vI 0)] λa f next2=>e3u x1 (a 5) x0 d (a 10) f next2 j1 R E) w):Cv pG 77 #[x0,x1] w R E:=okG ((sQ (sQ (hU [5] (sQ (hB (hL [5,10] (sQ (hS (hC hN hN) (hS (hB (sQ hN)) hN)))))) (sQ hN))))) func77 h
theorem e3w{x0}(h:opK pG E (yB 55 x0) w λa=>oN E (lA 55 a) λc=>oN E (yI 202 #[(0,c)]) λe=>oN E (yE 202 e) λg=>R g):Cv pG 78 #[x0] w R E:=okG ((sQ (sQ hN))) func78 h
theorem e3x{x0 x1}(h:opK pG E (xCall (fC 114) [x0]) w λ_t7_1=>oN E (xNil x0) λb=>oN E (fA 81 b 1) λd=>oN E (lA 79 d) λf=>oN E (xBuiltin .append #[79,9] 79 [false,false] [f,x1]) λi=>oN E (xNil x0) λk=>oN E (fA 81 k 1) λm=>oN E (sA 79 m i) λ_=>oN E (yN 9 x1) λp=>R (yU [p,Value.nilIface])):Cv pG 80 #[x0,x1] w R E:=okG ((sQ (sQ (sQ (sQ hN))))) func80 h
def d3g(x3 w)(R:RT)(_E:Pan):=
 ∀_τ:Fr,(R x3 w)
def d3h(x3 w)(j1:NT)(_R:RT)(E):=
 ∀_τ:Fr,(oP E (bC .sub 3 18 x3 (vI 1)) w λa b=>j1 [a] b)
def d3i(x3 w)(j2:NT)(_R:RT)(E):=
 ∀_τ:Fr,(oP E (bC .sub 3 16 x3 (vI 1)) w λa b=>j2 [a] b)
def d3j(x3 x4 x8 w)(j3:NT)(j2:NT)(j1:NT)(_R:RT)(E):=
 ∀_τ:Fr,(xcond x8
 (j3 [x3] w)
 ((oN E (bC .eql 3 4 x4 (vI 5)) λb=>xC b
 (j2 [x3])
 (j1 [x3])) w))
def d3k(x3 x4 x5 w)(j3:NT)(j2:NT)(j1:NT)(R:RT)(E):=
 ∀_τ:Fr,(xcond x5
 (opK pG E (bC .sub 3 14 x3 (vI 1)) w λe f=>j3 [e] f)
 (xcut (λg i=>d3j x3 x4 (nth g 0) i j3 j2 j1 R E) λj5=>(oN E (bC .eql 3 4 x4 (vI 8)) λa=>xC a
 (j5 [a])
 (oN E (bC .eql 3 4 x4 (vI 9)) λc=>xC c
 (j5 [c])
 (oN E (bC .eql 3 4 x4 (vI 10)) λj=>j5 [j]))) w))
theorem e3y{x0}(h:xcut (λc d=>d3g (nth c 0) d R E) λj1=>xcut (λe f=>d3h (nth e 0) f j1 R E) λj2=>xcut (λg i=>d3i (nth g 0) i j2 R E) λj3=>xcut (λj k=>d3k (vI 4) x0 (nth j 0) k j3 j2 j1 R E) λj4=>(oN E (bC .eql 3 4 x0 (vI 6)) λa=>xC a
 (j4 [a])
 (oN E (bC .eql 3 4 x0 (vI 7)) λl=>j4 [l])) w):Cv pG 82 #[x0] w R E:=okG ((sQ (sQ (hU [3] (sQ (hB (hU [3] (hB (hU [3] (hB (hS (hB (hS (hS (hU [5] (sQ (hC hN hN)) (hC hN hN)) (hS (hU [8] (sQ (hC hN (sQ (hC hN hN)))) (hC hN hN)) (sQ (hC hN hN)))) hN)) hN)) hN)) (sQ hN)))) (sQ hN))))) func82 h
def F84(x0 x1 x2 w)(R:RT)(E):=
 opK pG E (yB 77 x0) w λa g=>oP E (yB 112 x1) g λd i=>dX i λb=>qP pG (fA 112 d 0) λe=>qP pG (xV (Instr.makeFunc (.func 120) #[] #[a,d])) λj=>qL pG b (blk a) (lA 77 a) λk=>qL pG b (blk e) (lA 3 e) λl=>oP E (xCall (fC 82) [l]) b λm c=>keepX [(blk a)] b c (qP pG (bN .lss 3 9 10 m x2) λn=>oP E (xCall (fC 119) [k,n,(Value.string ⟨#[40]⟩),(Value.string ⟨#[41]⟩),j]) c λ_t13_13 f=>keepX [] c f (R (yU []) f))
theorem e3z{x0 x1 x2}(h:F84 x0 x1 x2 w R E):Cv pG 84 #[x0,x1,x2] w R E:=okG ((sQ (.reg [(0,64,8),(0,128,16),(2,256,128),(4,512,256),(0,1024,4),(24,2048,1536),(0,4096,24),(105,8192,6208)] [4,5,1,1,5,5,5,0] (eO 1 (eO 4 (eO 6 (lO 0 (lO 2 (sO 3 (eO 5 (sO 7 dO))))))))))) func84 h
theorem e3A{x0}(h:opK pG E (yI 214 #[(0,(Value.string ⟨#[43]⟩)),(1,(Value.string ⟨#[45]⟩)),(2,(Value.string ⟨#[42]⟩)),(3,(Value.string ⟨#[47]⟩)),(4,(Value.string ⟨#[37]⟩))]) w λa=>oN E (bC .sub 3 4 x0 (vI 6)) λc=>oN E (yX 214 a c) λe=>R e):Cv pG 85 #[x0] w R E:=okG ((sQ (sQ hN))) func85 h
def F86(x0 x1 x2 x3 w)(R:RT)(E):=
 opK pG E (lA 77 x0) w λa=>oN E (lA 9 x1) λc=>oN E (yS 28 2 #[(0,c),(1,(Value.string ⟨#[32]⟩))]) λe=>oN E (xCall (fC 45) [a,e]) λ_t7_7=>oN E (lA 77 x0) λi=>oN E (lA 115 x2) λk=>oN E (xCall (fC 87) [i,k]) λ_t10_13=>oN E (lA 77 x0) λn=>oN E (lA 9 x3) λp=>oN E (yS 28 1 #[(0,p)]) λr=>oN E (xCall (fC 45) [n,r]) λ_t14_21=>R (yU [])
theorem e3B{x0 x1 x2 x3}(h:F86 x0 x1 x2 x3 w R E):Cv pG 86 #[x0,x1,x2,x3] w R E:=okG ((sQ (sQ hN))) func86 h
def d3l(x0 x3 x4 x5 w)(R:RT)(E):=
 ∀_τ:Fr,(opK pG E (fA 115 x3 3) w λa=>oN E (lA 53 a) λc=>oN E (iA 53 c (vI 0)) λe=>oN E (lA 115 e) λg=>oN E (xCall (fC 122) [x0,g,x4]) λ_t63_17=>oN E (yS 28 1 #[(0,x5)]) λk=>oN E (xCall (fC 45) [x0,k]) λ_t67_21=>oN E (fA 115 x3 3) λn=>oN E (lA 53 n) λp=>oN E (iA 53 p (vI 1)) λr=>oN E (lA 115 r) λt=>oN E (bC .add 3 73 x4 (vI 1)) λv=>oN E (xCall (fC 122) [x0,t,v]) λ_t75_33=>R (yU []))
theorem e3C{x0 x1}(h:opK pG E (yB 115 x1) w λa=>oN E (fA 115 a 0) λk=>oN E (lA 3 k) λm=>oN E (xCall (fC 121) [m]) λc=>xK (λp q=>d3l x0 a c (nth p 0) q R E) λj1=>oN E (fA 115 a 0) λr=>oN E (lA 3 r) λb=>oN E (bC .eql 3 10 b (vI 1)) λu=>xC u
 (oN E (yS 28 1 #[(0,(Value.string ⟨#[116,114,117,101]⟩))]) λv=>oN E (xCall (fC 45) [x0,v]) λ_t15_45=>R (yU []))
 (oN E (bC .eql 3 10 b (vI 2)) λaa=>xC aa
 (oN E (yS 28 1 #[(0,(Value.string ⟨#[102,97,108,115,101]⟩))]) λab=>oN E (xCall (fC 45) [x0,ab]) λ_t20_51=>R (yU []))
 (oN E (bC .eql 3 10 b (vI 3)) λae=>xC ae
 (oN E (fA 115 a 2) λaf=>oN E (lA 52 af) λah=>oN E (iA 52 ah (vI 0)) λaj=>oN E (lA 112 aj) λal=>oN E (xCall (fC 48) [x0,al]) λ_t28_63=>oN E (yI 215 #[(0,(Value.string ⟨#[60]⟩)),(1,(Value.string ⟨#[60,61]⟩)),(2,(Value.string ⟨#[61,61]⟩)),(3,(Value.string ⟨#[33,61]⟩)),(4,(Value.string ⟨#[62]⟩)),(5,(Value.string ⟨#[62,61]⟩))]) λao=>oN E (fA 115 a 1) λaq=>oN E (lA 3 aq) λau=>oN E (bC .sub 3 32 au (vI 1)) λaw=>oN E (yX 215 ao aw) λay=>oN E (yS 28 3 #[(0,(Value.string ⟨#[32]⟩)),(1,ay),(2,(Value.string ⟨#[32]⟩))]) λba=>oN E (xCall (fC 45) [x0,ba]) λ_t36_77=>oN E (fA 115 a 2) λbd=>oN E (lA 52 bd) λbf=>oN E (iA 52 bf (vI 1)) λbh=>oN E (lA 112 bh) λbj=>oN E (xCall (fC 48) [x0,bj]) λ_t42_87=>R (yU []))
 (oN E (bC .eql 3 10 b (vI 4)) λbm=>xC bm
 (oN E (yS 28 1 #[(0,(Value.string ⟨#[33]⟩))]) λbn=>oN E (xCall (fC 45) [x0,bn]) λ_t47_93=>oN E (fA 115 a 3) λbq=>oN E (lA 53 bq) λbs=>oN E (iA 53 bs (vI 0)) λbu=>oN E (lA 115 bu) λbw=>oN E (xCall (fC 122) [x0,bw,c]) λ_t54_103=>R (yU []))
 (oN E (bC .eql 3 10 b (vI 6)) λcb=>xC cb
 (j1 [(Value.string ⟨#[32,124,124,32]⟩)])
 (j1 [(Value.string ⟨#[32,38,38,32]⟩)])))))):Cv pG 87 #[x0,x1] w R E:=okG ((sQ (sQ (sQ (hU [5] (sQ (hB (sQ (hC (sQ hN) (sQ (hC (sQ hN) (sQ (hC (sQ (sQ (sQ hN))) (sQ (hC (sQ (sQ hN)) (sQ (hC hN hN)))))))))))) (sQ (sQ hN))))))) func87 h
def d3m(w)(R:RT)(_E:Pan):=
 ∀_τ:Fr,(R (yU [(vI 0),(vI 0)]) w)
def e3D(x0 x12 w)(next2:NT)(j1:NT)(R:RT)(E):=
 opK pG E (xV (Instr.next x12 true 0)) w λa=>oN E (xT a 0) λi=>xC i
 (oN E (xT a 1) λc=>oN E (xT a 2) λk=>oN E (bC .neq 21 17 k (Value.int .i32 65533)) λm=>xC m
 (next2 [])
 (oN E (xV (Instr.sliceAt 9 x0 (some c) none none)) λn=>oN E (xCall (fC 123) [n]) λe=>oN E (xT e 0) λ_t24_23=>oN E (xT e 1) λr=>oN E (bC .eql 3 26 r (vI 1)) λt=>xC t
 (R (yU [c,(vI 11)]))
 (next2 [])))
 (j1 [])
theorem e3E{x0}(h:opK pG E (yN 9 x0) w λb=>oN E (bC .gtr 3 9 b (vI 65536)) λd=>xC d
 (R (yU [(vI 0),(vI 10)]))
 (xK (λ_ e=>d3m e R E) λj1=>oN E (xV (Instr.range 9 x0)) λf=>xL [] [] λ_ i next2=>e3D x0 f i next2 j1 R E)):Cv pG 88 #[x0] w R E:=okG ((sQ (hS (sQ (hC (sQ hN) hN)) (hU [] (sQ (hB (hL [] (sQ (hS (hC hN hN) (hB (sQ (hS (sQ (hC hN hN)) (sQ (sQ (hC (sQ hN) hN))))))))))) (sQ hN))))) func88 h
def e3F(x0 x2 w)(next1:NT)(R:RT)(E):=
 opK pG E (xCall (fC 129) [x0]) w λb=>oN E (xCall (fC 112) [b,(Value.string ⟨#[35]⟩)]) λd=>xC d
 (oN E (xCall (fC 128) [x0,(fC 130)]) λ_t13_7=>oN E (xCall (fC 128) [x0,x2]) λ_t11_9=>next1 [])
 (R (yU []))
theorem e3G{x0}(h:opK pG E (xCall (fC 128) [x0,(fC 126)]) w λ_t5_1=>xL [] [] λ_ b next1=>e3F x0 (fC 126) b next1 R E):Cv pG 90 #[x0] w R E:=okG ((sQ (sQ (hB (hL [] (hS (sQ (hC hN hN)) (hS (hB hN) hN))))))) func90 h
def d3n(w)(R:RT)(_E:Pan):=
 ∀_τ:Fr,(R (yU [(Value.int .i32 0),(vB false)]) w)
def d3o(x8 w)(j1:NT)(R:RT)(E):=
 opK pG E (xV (Instr.next x8 true 0)) w λa=>oN E (xT a 0) λd=>xC d
 (oN E (xT a 2) λe=>R (yU [e,(vB true)]))
 (j1 [])
def F91(x0 w)(R:RT)(E):=
 xcut (λ_ a=>d3n a R E) λj1=>(oN E (xCall (fC 129) [x0]) λb=>oN E (xV (Instr.range 9 b)) λd=>xL [] [] λ_ f _=>d3o d f j1 R E) w
theorem e3H{x0}(h:F91 x0 w R E):Cv pG 91 #[x0] w R E:=okG ((sQ (hU [] (sQ (hB (hL [] (sQ (hS (hC hN hN) (hB (sQ (sQ hN)))))))) (sQ hN)))) func91 h
def F92(x0 x1 w)(R:RT)(E):=
 opK pG E (xCall (fC 127) [x1]) w λa=>oN E (bC .eql 3 6 a (vI 3)) λf=>xC f
 (oN E (xV (Instr.makeFunc (.func 131) #[x0] #[])) λg=>R g)
 (oN E (bC .eql 3 6 a (vI 4)) λj=>xC j
 (oN E (xV (Instr.makeFunc (.func 132) #[x0] #[])) λk=>R k)
 (oN E (bC .eql 3 6 a (vI 5)) λm=>xC m
 (oN E (xV (Instr.makeFunc (.func 133) #[x0] #[])) λn=>R n)
 (R (fC 134))))
theorem e3I{x0 x1}(h:F92 x0 x1 w R E):Cv pG 92 #[x0,x1] w R E:=okG ((sQ (hS (sQ (hB (sQ (hC (sQ hN) (sQ (hC (sQ hN) (sQ (hC (sQ hN) hN)))))))) (sQ hN)))) func92 h
def d3p(x0 x4 w)(R:RT)(E):=
 ∀_τ:Fr,(opK pG E (xCall (fC 95) [x0]) w λb=>oN E (sA 127 x4 b) λ_=>xE 127 x4 λd=>R d)
theorem e3J{x0 x1}(h:opK pG E (yA 127) w λb=>xK (λ_ d=>d3p x0 b d R E) λj1=>oN E (xCall (fC 55) [x0]) λe=>oN E (yF 127 e 0) λg=>oN E (bN .neq 3 7 8 g x1) λj=>xC j
 (oN E (xCall (fC 56) [x0]) λ_t11_16=>j1 [])
 (j1 [])):Cv pG 93 #[x0,x1] w R E:=okG ((sQ (hU [] (sQ (hC hN hN)) (sQ hN)))) func93 h
theorem e3K{x0 x1}(h:opK pG E (xCall (fC 96) [x0,x1]) w λb=>oN E (yT b) λd=>xC d
 (oN E (xCall (fC 56) [x0]) λ_t9_5=>R (yU []))
 (R (yU []))):Cv pG 94 #[x0,x1] w R E:=okG ((sQ (hC hN hN))) func94 h
def d3q(x0 x2 x3 w)(R:RT)(E):=
 ∀_τ:Fr,(opK pG E (xNil x0) w λb=>oN E (fA 125 b 1) λd=>oN E (lA 3 d) λf=>oN E (bC .add 3 14 f (vI 1)) λi=>oN E (xNil x0) λk=>oN E (fA 125 k 1) λm=>oN E (sA 3 m i) λ_=>oN E (lA 127 x3) λp=>oN E (sA 127 x2 p) λ_=>xE 127 x2 λr=>R r)
theorem e3L{x0}(h:opK pG E (yA 127) w λc=>oN E (xCall (fC 55) [x0]) λe=>oN E (yA 127) λa=>oN E (sA 127 a e) λ_=>xK (λ_ j=>d3q x0 c a j R E) λj1=>oN E (fA 127 a 0) λk=>oN E (lA 3 k) λm=>oN E (bC .eql 3 7 m (vI 5)) λo=>xC o
 (oN E (xCall (fC 56) [x0]) λ_t10_36=>j1 [])
 (j1 [])):Cv pG 95 #[x0] w R E:=okG ((sQ (sQ (hU [] (sQ (hC hN hN)) (sQ (sQ hN)))))) func95 h
theorem e3M{x0 x1}(h:opK pG E (xCall (fC 57) [x0,x1]) w λb=>oN E (yT b) λd=>xC d
 (R (vB false))
 (oN E (xNil x0) λe=>oN E (fA 125 e 1) λg=>oN E (lA 3 g) λj=>oN E (bC .add 3 12 j (vI 1)) λl=>oN E (xNil x0) λn=>oN E (fA 125 n 1) λp=>oN E (sA 3 p l) λ_=>R (vB true))):Cv pG 96 #[x0,x1] w R E:=okG ((sQ (hS (sQ (hC (sQ hN) hN)) (sQ (sQ hN))))) func96 h
theorem e3N{x0 x1 x2}(h:opK pG E (yA 112) w λa=>oN E (bC .add 3 9 x1 (vI 1)) λe=>oN E (xCall (fC 135) [x0]) λg=>oN E (xCall (fC 59) [x0,e,g]) λ_t13_7=>oN E (bC .add 3 15 x1 (vI 1)) λk=>oN E (xCall (fC 98) [x0,k]) λm=>oN E (yA 112) λb=>oN E (sA 112 b m) λ_=>oN E (xCall (fC 94) [x0,x2]) λ_t20_17=>oN E (lA 112 b) λr=>oN E (sA 112 a r) λ_=>xE 112 a λt=>R t):Cv pG 97 #[x0,x1,x2] w R E:=okG ((sQ (sQ (sQ (sQ (sQ hN)))))) func97 h
def F98(x0 x1 w)(R:RT)(E):=
 opK pG E (yA 112) w λa=>oN E (yS 28 2 #[(0,(Value.string ⟨#[43]⟩)),(1,(Value.string ⟨#[45]⟩))]) λd=>oN E (yS 26 2 #[(0,(vI 6)),(1,(vI 7))]) λf=>oN E (xV (Instr.makeFunc (.func 137) #[x0] #[])) λi=>oN E (yI 228 #[(0,d),(1,f),(2,i)]) λk=>oN E (xCall (fC 136) [x0,x1,k]) λm=>oN E (sA 112 a m) λ_=>xE 112 a λo=>R o
theorem e3O{x0 x1}(h:F98 x0 x1 w R E):Cv pG 98 #[x0,x1] w R E:=okG ((sQ (sQ hN))) func98 h
def F99(x0 x1 w)(R:RT)(E):=
 opK pG E (yB 91 x0) w λa=>oN E (yA 115) λb=>oN E (xV (Instr.makeFunc (.func 138) #[] #[a])) λf=>oN E (lA 91 a) λi=>oN E (xCall (fC 139) [i,x1,(Value.string ⟨#[124,124]⟩),(vI 6),f]) λk=>oN E (sA 115 b k) λ_=>xE 115 b λm=>R m
theorem e3P{x0 x1}(h:F99 x0 x1 w R E):Cv pG 99 #[x0,x1] w R E:=okG ((sQ (sQ (sQ hN)))) func99 h
def c8S(x5 w)(R:RT)(_E:Pan):=
 ∀_τ:Fr,(R x5 w)
def d8F(x0 x1 x5 w)(next2:NT)(j1:NT)(_R:RT)(E):=
 opK pG E (xCall (fC 96) [x0,(Value.string ⟨#[125]⟩)]) w λb=>oN E (yT b) λd=>xC d
 (oN E (bC .add 3 12 x1 (vI 1)) λe=>oN E (xCall (fC 60) [x0]) λg=>oN E (xCall (fC 59) [x0,e,g]) λ_t16_13=>oN E (bC .add 3 19 x1 (vI 1)) λk=>oN E (xCall (fC 61) [x0,k]) λm=>oN E (yS 23 1 #[(0,m)]) λo=>oN E (yP 23 x5 o) λq=>next2 [q])
 (j1 [x5])
def e7a(x0 x1 w)(R:RT)(E):=
 opK pG E (xCall (fC 94) [x0,(Value.string ⟨#[123]⟩)]) w λ_t7_1=>xK (λb c=>c8S (nth b 0) c R E) λj1=>xL [5] [(nS)] λd e next2=>d8F x0 x1 (d 5) e next2 j1 R E
def e7b:Hint:=(sQ (sQ (sQ (hU [5] (hB (hL [5] (hS (sQ (hC hN hN)) (hB (sQ hN))))) (sQ hN)))))
theorem d8G{x0 x1}(h:e7a x0 x1 w R E):Cv pG 100 #[x0,x1] w R E:=okG (e7b) func100 h
def c8T(x5 w)(R:RT)(_E:Pan):=
 ∀_τ:Fr,(R (yU [x5,(eS),(vI 0)]) w)
def c8U(x5 x6 x13 x14 x15 w)(next2:NT)(j1:NT)(R:RT)(E):=
 opK pG E (bN .lss 3 15 14 x15 x14) w λn=>xC n
 (oN E (iA 22 x13 x15) λo=>oN E (lA 65 o) λq=>oN E (yA 65) λa=>oN E (sA 65 a q) λ_=>oN E (lA 65 a) λu=>oN E (xCall (fC 66) [u]) λb=>oN E (xV (Instr.lookup 230 x6 b false)) λz=>oN E (bC .sub 3 23 z (vI 1)) λab=>oN E (xU (Instr.mapUpdate 230 x6 b ab)) λ_=>oN E (fA 65 a 0) λae=>oN E (lA 9 ae) λag=>oN E (xV (Instr.lookup 61 x5 ag false)) λai=>oN E (bC .neq 3 29 ai (vI 0)) λak=>xC ak
 (dN λe=>qP pG (fA 65 a 0) λf=>qL pG e (blk f) (lA 9 f) λal=>R (yU [(Value.map none),al,(vI 60)]) e)
 (oN E (fA 65 a 1) λam=>oN E (lA 3 am) λao=>oN E (bC .gtr 3 35 ao (vI 1024)) λaq=>xC aq
 (dN λi=>qP pG (fA 65 a 0) λj=>qL pG i (blk j) (lA 9 j) λar=>R (yU [(Value.map none),ar,(vI 61)]) i)
 (oN E (xV (Instr.lookup 230 x6 b false)) λau=>oN E (bC .lss 3 42 au (vI 0)) λaw=>xC aw
 (dN λl=>qP pG (fA 65 a 0) λm=>qL pG l (blk m) (lA 9 m) λax=>R (yU [(Value.map none),ax,(vI 62)]) l)
 (oN E (fA 65 a 0) λay=>oN E (lA 9 ay) λba=>oN E (xU (Instr.mapUpdate 61 x5 ba b)) λ_=>oN E (bC .add 3 15 x15 (vI 1)) λbd=>next2 [bd]))))
 (j1 [])
def e3Q(x0 w)(R:RT)(E):=
 opK pG E (xV (Instr.makeMap 61 none)) w λb=>oN E (xV (Instr.makeMap 230 none)) λa=>oN E (xU (Instr.mapUpdate 230 a (vI 1) (vI 32))) λ_=>oN E (xU (Instr.mapUpdate 230 a (vI 2) (vI 16))) λ_=>xK (λ_ g=>c8T b g R E) λj1=>oN E (yN 22 x0) λi=>xL [15] [(vI 0)] λk l next2=>c8U b a x0 i (k 15) l next2 j1 R E
def e7c:Hint:=(sQ (sQ (sQ (hU [] (sQ (hB (hL [15] (sQ (hS (hC hN hN) (hS (hB (sQ (sQ (sQ (hS (hB (sQ (hC (hS (.reg [(0,2^31,256),(1,2^32,2^31),(0,4,0),(7,8,2^32),(15,16,0)] [2,0,2,2,2] (eO 0 (eO 2 (lO 1 (eO 3 (eO 4 dO)))))) hN) (sQ (hC (hS (.reg [(0,2^37,256),(1,2^38,2^37),(0,4,0),(7,8,2^38),(15,16,0)] [2,0,2,2,2] (eO 0 (eO 2 (lO 1 (eO 3 (eO 4 dO)))))) hN) (sQ (hC (hS (.reg [(0,2^44,256),(1,2^45,2^44),(0,4,0),(7,8,2^45),(15,16,0)] [2,0,2,2,2] (eO 0 (eO 2 (lO 1 (eO 3 (eO 4 dO)))))) hN) hN))))))) hN))))) hN)))))) (sQ hN)))))
theorem d8H{x0}(h:e3Q x0 w R E):Cv pG 101 #[x0] w R E:=okG (e7c) func101 h
def c8V(_x0 _x10 _x11 x12:Value)(w)(next1:NT)(_R:RT)(E):=
 ∀_τ:Fr,(oP E (bC .add 3 12 x12 (vI 1)) w λa b=>next1 [a] b)
def c8W(x0 x5 _x10 _x11 _x12:Value)(w)(j2:NT)(_R:RT)(E):=
 ∀_τ:Fr,(opK pG E (fA 55 x5 4) w λa=>oN E (lA 23 a) λc=>oN E (xCall (fC 102) [x0,c]) λ_t71_21=>oN E (fA 55 x5 5) λf=>oN E (lA 23 f) λi=>oN E (xCall (fC 102) [x0,i]) λ_t75_27=>j2 [])
def d8I(x0 _x5 _x10 _x11 _x12 x58 x59 x60:Value)(w)(next6:NT)(j5:NT)(_R:RT)(E):=
 opK pG E (bN .lss 3 60 59 x60 x59) w λc=>xC c
 (oN E (iA 52 x58 x60) λd=>oN E (lA 112 d) λf=>oN E (yA 112) λb=>oN E (sA 112 b f) λ_=>oN E (lA 112 b) λk=>oN E (xCall (fC 142) [x0,k]) λ_t66_49=>oN E (bC .add 3 60 x60 (vI 1)) λn=>next6 [n])
 (j5 [])
def c8X(x0 x5 x10 x11 x12 w)(j2:NT)(R:RT)(E):=
 ∀_τ:Fr,(xcut (λ_ b=>c8W x0 x5 x10 x11 x12 b j2 R E) λj5=>(oN E (fA 55 x5 2) λc=>oN E (lA 52 c) λa=>oN E (yN 52 a) λf=>xL [60] [(vI 0)] λi j next6=>d8I x0 x5 x10 x11 x12 a f (i 60) j next6 j5 R E) w)
def d8J(x0 _x5 _x10 _x11 _x12 x47 x48 x49:Value)(w)(next7:NT)(j4:NT)(_R:RT)(E):=
 opK pG E (bN .lss 3 49 48 x49 x48) w λc=>xC c
 (oN E (iA 53 x47 x49) λd=>oN E (lA 115 d) λf=>oN E (yA 115) λb=>oN E (sA 115 b f) λ_=>oN E (lA 115 b) λk=>oN E (xCall (fC 141) [x0,k]) λ_t55_75=>oN E (bC .add 3 49 x49 (vI 1)) λn=>next7 [n])
 (j4 [])
def c8Y(x0 x5 x10 x11 x12 w)(j2:NT)(R:RT)(E):=
 ∀_τ:Fr,(xcut (λ_ b=>c8X x0 x5 x10 x11 x12 b j2 R E) λj4=>(oN E (fA 55 x5 3) λc=>oN E (lA 53 c) λa=>oN E (yN 53 a) λf=>xL [49] [(vI 0)] λi j next7=>d8J x0 x5 x10 x11 x12 a f (i 49) j next7 j4 R E) w)
def d8K(x0 x10 x11 x12 w)(next1:NT)(R:RT)(E):=
 opK pG E (bN .lss 3 12 11 x12 x11) w λs=>xC s
 (xK (λ_ t=>c8V x0 x10 x11 x12 t next1 R E) λj2=>oN E (iA 23 x10 x12) λu=>oN E (lA 55 u) λy=>oN E (yA 55) λa=>oN E (sA 55 a y) λ_=>xK (λ_ ac=>c8Y x0 a x10 x11 x12 ac j2 R E) λj3=>oN E (fA 55 a 0) λad=>oN E (lA 3 ad) λl=>oN E (bC .eql 3 17 l (vI 1)) λag=>xC ag
 (dN λb=>qP pG (xNil x0) λah=>qP pG (fA 184 ah 0) λd=>qP pG (fA 55 a 1) λn=>qL pG b (blk d) (lA 182 d) λai=>qL pG b (blk n) (lA 9 n) λaj=>qP pG (yI 186 #[(0,aj),(1,(vI 1))]) λak=>opK pG E (yS 182 1 #[(0,ak)]) b λal e=>keepX [(blk d)] b e (opK pG E (yP 182 ai al) e λam f=>keepX [] e f (qP pG (xNil x0) λan=>qP pG (fA 184 an 0) λao=>opK pG E (sA 182 ao am) f λ_ o=>keepX [] f o (j3 [] o))))
 (oN E (bC .eql 3 17 l (vI 2)) λap=>xC ap
 (dN λc=>qP pG (xNil x0) λaq=>qP pG (fA 184 aq 0) λg=>qP pG (fA 55 a 1) λq=>qL pG c (blk g) (lA 182 g) λar=>qL pG c (blk q) (lA 9 q) λau=>qP pG (yI 186 #[(0,au),(1,(vI 2))]) λav=>opK pG E (yS 182 1 #[(0,av)]) c λaw i=>keepX [(blk g)] c i (opK pG E (yP 182 ar aw) i λax j=>keepX [] i j (qP pG (xNil x0) λay=>qP pG (fA 184 ay 0) λaz=>opK pG E (sA 182 az ax) j λ_ r=>keepX [] j r (j3 [] r))))
 (j3 [])))
 (R (yU []))
def e7d(x0 x1 w)(R:RT)(E):=
 opK pG E (yN 23 x1) w λa=>xL [12] [(vI 0)] λc d next1=>d8K x0 x1 a (c 12) d next1 R E
def e7e:Hint:=(sQ (hB (hL [12] (sQ (hS (hC hN hN) (hU [] (hB (sQ (hU [] (sQ (hB (sQ (hC (.reg [(0,2^20,1),(0,2^21,1),(2,2^22,2^21),(4,2^23,2^22),(8,2^24,2^23),(0,2^25,32),(32,2^26,2^25),(64,2^27,2^26),(128,2^28,2^27),(272,2^29,285212672),(1023,2^30,2^20),(2047,2^31,2^30),(3071,0,2^29+2^31)] [80,80,80,80,64,80,16,80,16,0,80,80,0] (eO 0 (eO 1 (eO 2 (eO 3 (eO 5 (lO 4 (lO 6 (eO 7 (sO 8 (sO 9 (eO 10 (eO 11 (sO 12 dO)))))))))))))) (sQ (hC (.reg [(0,2^34,1),(0,2^35,1),(2,2^36,2^35),(4,2^37,2^36),(8,2^38,2^37),(0,2^39,32),(32,2^40,2^39),(64,2^41,2^40),(128,2^42,2^41),(272,2^43,2^38+2^42),(1023,2^44,2^34),(2047,2^45,2^44),(3071,0,2^43+2^45)] [80,80,80,80,64,80,16,80,16,0,80,80,0] (eO 0 (eO 1 (eO 2 (eO 3 (eO 5 (lO 4 (lO 6 (eO 7 (sO 8 (sO 9 (eO 10 (eO 11 (sO 12 dO)))))))))))))) hN)))))) (hU [] (sQ (hB (hL [49] (sQ (hS (hC hN hN) (hS (hB (sQ hN)) hN)))))) (hU [] (sQ (hB (hL [60] (sQ (hS (hC hN hN) (hS (hB (sQ hN)) hN)))))) (sQ hN)))))) hN))))))
theorem d8L{x0 x1}(h:e7d x0 x1 w R E):Cv pG 102 #[x0,x1] w R E:=okG (e7e) func102 h
def c8Z(w)(R:RT)(_E:Pan):=
 ∀_τ:Fr,(R (vI (-1)) w)
def c9a(x0 x1 x7 x8 w)(next2:NT)(j1:NT)(R:RT)(E):=
 opK pG E (bN .lss 3 8 7 x8 x7) w λc=>xC c
 (oN E (iA 22 x0 x8) λd=>oN E (lA 65 d) λf=>oN E (xCall x1 [f]) λi=>xC i
 (R x8)
 (oN E (bC .add 3 8 x8 (vI 1)) λj=>next2 [j]))
 (j1 [])
def e3R(x0 x1 w)(R:RT)(E):=
 xcut (λ_ a=>c8Z a R E) λj1=>(oN E (yN 22 x0) λb=>xL [8] [(vI 0)] λd e next2=>c9a x0 x1 b (d 8) e next2 j1 R E) w
def e7f:Hint:=(sQ (hU [] (sQ (hB (hL [8] (sQ (hS (hC hN hN) (hS (hB (sQ (sQ (hC (sQ hN) hN)))) hN)))))) (sQ hN)))
theorem d8M{x0 x1}(h:e3R x0 x1 w R E):Cv pG 103 #[x0,x1] w R E:=okG (e7f) func103 h
def e7g(x0 x1 w)(R:RT)(E):=
 opK pG E (yB 112 x1) w λb=>oN E (yA 41) λa=>oN E (fA 112 b 0) λr=>oN E (lA 3 r) λt=>oN E (bC .eql 3 8 t (vI 1)) λv=>xC v
 (oN E (fA 112 b 1) λy=>oN E (lA 2 y) λaa=>oN E (yI 41 #[(0,(vI (-1))),(1,aa)]) λac=>oN E (sA 41 a ac) λ_=>xE 41 a λae=>R (yU [ae,(vB true)]))
 (oN E (fA 112 b 0) λaf=>oN E (lA 3 af) λah=>oN E (bC .eql 3 15 ah (vI 5)) λc=>oN E (gYs c (fA 112 b 3)) λak=>oN E (gYs c (lA 52 ak)) λam=>oN E (gYs c (iA 52 am (vI 0))) λao=>oN E (gYs c (fA 112 ao 0)) λaq=>oN E (gYs c (lA 3 aq)) λau=>oN E (gYs c (bC .eql 3 22 au (vI 1))) λaw=>oN E (xPick c aw (vB false)) λay=>xC ay
 (oN E (fA 112 b 3) λaz=>oN E (lA 52 az) λbb=>oN E (iA 52 bb (vI 0)) λbd=>oN E (fA 112 bd 1) λbf=>oN E (lA 2 bf) λbh=>oN E (xV (Op.unary .neg bh)) λbj=>oN E (yI 41 #[(0,(vI (-1))),(1,bj)]) λbl=>oN E (sA 41 a bl) λ_=>xE 41 a λbn=>R (yU [bn,(vB true)]))
 (oN E (fA 112 b 0) λbo=>oN E (lA 3 bo) λbq=>oN E (bC .eql 3 34 bq (vI 2)) λbs=>xC bs
 (dN λd=>qP pG (xNil x0) λbt=>qP pG (fA 63 bt 1) λl=>qP pG (fA 112 b 2) λm=>qL pG d (blk l) (lA 61 l) λn=>qL pG d (blk m) (lA 9 m) λbu=>qL pG d (blk n) (xV (Instr.lookup 61 n bu false)) λbv=>qP pG (yI 41 #[(0,bv)]) λbw=>opK pG E (sA 41 a bw) d λ_ e=>keepX [] d e (xcell pG 41 a e λbz=>R (yU [bz,(vB true)]) e))
 (oN E (xCall (fC 40) []) λca=>oN E (sA 41 a ca) λ_=>xE 41 a λcc=>R (yU [cc,(vB false)]))))
def e7h:Hint:=(sQ (hS (hB (sQ (hC (sQ hN) (sQ (hC (sQ hN) (sQ (hC (hS (.reg [(0,2^36,1),(1,2^37,2^36),(2,2^38,2^37),(4,2^39,2^38),(0,2^40,8),(16,2^41,2^40),(40,2^42,2^39+2^41),(64,2^43,2^42),(255,0,2^4+2^43),(511,32,0)] [104,104,104,96,104,72,40,104,0,104] (eO 0 (eO 1 (eO 2 (eO 4 (lO 3 (lO 5 (lO 6 (eO 7 (sO 8 (eO 9 dO))))))))))) hN) hN))))))) (sQ hN)))
theorem d8N{x0 x1}(h:e7g x0 x1 w R E):Cv pG 104 #[x0,x1] w R E:=okG (e7h) func104 h
def c9b(x0 x12 w)(R:RT)(E):=
 ∀_τ:Fr,(opK pG E (lA 43 x12) w λa=>oN E (xCall (fC 70) [x0,a]) λ_t67_21=>R (yU []))
def c9c(x0 x7 x12 w)(R:RT)(E):=
 ∀_τ:Fr,(xcut (λ_ g=>c9b x0 x12 g R E) λj2=>(oN E (fA 112 x7 0) λi=>oN E (lA 3 i) λk=>oN E (bC .eql 3 55 k (vI 4)) λm=>xC m
 (dN λa=>qP pG (xNil x0) λn=>qP pG (fA 63 n 2) λc=>qP pG (fA 112 x7 2) λd=>qL pG a (blk c) (lA 61 c) λe=>qL pG a (blk d) (lA 9 d) λo=>qL pG a (blk e) (xV (Instr.lookup 61 e o false)) λp=>qP pG (fA 43 x12 4) λq=>opK pG E (sA 3 q p) a λ_ f=>keepX [] a f (j2 [] f))
 (j2 [])) w)
def e7i(x0 x1 x2 x3 x4 x5 w)(R:RT)(E):=
 opK pG E (yB 112 x1) w λb=>oN E (fA 112 b 0) λj=>oN E (lA 3 j) λl=>oN E (xCall (fC 143) [l]) λn=>oN E (xCall (fC 68) [x3,x4,n]) λp=>oN E (yA 43) λa=>oN E (sA 43 a p) λ_=>oN E (fA 43 a 3) λt=>oN E (sA 3 t x2) λ_=>xK (λ_ y=>c9c x0 b a y R E) λj1=>oN E (fA 112 b 3) λz=>oN E (lA 52 z) λab=>oN E (yN 52 ab) λd=>oN E (bC .eql 3 23 d (vI 1)) λae=>xC ae
 (oN E (fA 112 b 3) λaf=>oN E (lA 52 af) λah=>oN E (iA 52 ah (vI 0)) λaj=>oN E (lA 112 aj) λal=>oN E (xCall (fC 106) [x0,al,x3,x5]) λf=>oN E (xT f 0) λao=>oN E (xT f 1) λaq=>oN E (fA 43 a 6) λau=>oN E (sA 41 au ao) λ_=>oN E (fA 43 a 0) λax=>oN E (sA 3 ax aq) λ_=>j1 [])
 (oN E (bC .eql 3 23 d (vI 2)) λba=>xC ba
 (oN E (fA 112 b 3) λbb=>oN E (lA 52 bb) λbd=>oN E (xCall (fC 69) [x0,bd,x3,x5]) λc=>oN E (xT c 0) λbg=>oN E (xT c 1) λbi=>oN E (xT c 2) λbk=>oN E (fA 43 a 6) λbm=>oN E (sA 41 bm bg) λ_=>oN E (fA 43 a 7) λbp=>oN E (sA 41 bp bi) λ_=>oN E (fA 43 a 0) λbs=>oN E (sA 3 bs bk) λ_=>j1 [])
 (j1 []))
def e7j:Hint:=(sQ (sQ (sQ (hU [] (sQ (hB (sQ (hC hN (sQ (hC hN hN)))))) (hU [] (sQ (hC (.reg [(0,2^57,1),(1,2^58,2^57),(2,2^59,2^58),(4,2^60,2^59),(0,2^61,128),(16,2^62,2^61),(40,2^63,2^60+2^62),(127,2^64,4096),(255,0,2^63+2^64)] [104,104,104,96,104,72,40,104,0] (eO 0 (eO 1 (eO 2 (eO 4 (lO 3 (lO 5 (lO 6 (eO 7 (sO 8 dO)))))))))) hN)) hN)))))
theorem d8O{x0 x1 x2 x3 x4 x5}(h:e7i x0 x1 x2 x3 x4 x5 w R E):Cv pG 105 #[x0,x1,x2,x3,x4,x5] w R E:=okG (e7j) func105 h
def e7k(x0 x1 x2 x3 w)(R:RT)(E):=
 opK pG E (yB 112 x1) w λc=>oN E (yA 41) λa=>oN E (lA 112 c) λm=>oN E (xCall (fC 104) [x0,m]) λd=>oN E (xT d 0) λp=>oN E (xT d 1) λr=>oN E (yA 41) λe=>oN E (sA 41 e p) λ_=>xC r
 (oN E (lA 41 e) λu=>oN E (sA 41 a u) λ_=>xE 41 a λy=>R (yU [y,x2]))
 (oN E (xCall (fC 14) [x0]) λi=>oN E (xCall (fC 144) [x0,x3]) λaa=>oN E (yI 41 #[(0,aa)]) λac=>oN E (yA 41) λb=>oN E (sA 41 b ac) λ_=>oN E (lA 112 c) λag=>oN E (fA 41 b 0) λai=>oN E (lA 3 ai) λak=>oN E (xCall (fC 105) [x0,ag,ak,x2,i,x3]) λ_t36_38=>oN E (lA 41 b) λan=>oN E (sA 41 a an) λ_=>xE 41 a λap=>R (yU [ap,i]))
def e7l:Hint:=(sQ (hS (sQ (sQ (hC (sQ hN) hN))) (sQ (sQ (sQ (sQ hN))))))
theorem d8P{x0 x1 x2 x3}(h:e7k x0 x1 x2 x3 w R E):Cv pG 106 #[x0,x1,x2,x3] w R E:=okG (e7l) func106 h
def e7m(x0 x1 x2 w)(R:RT)(E):=
 opK pG E (yB 41 x1) w λd e=>dX e λa=>qP pG (fA 41 d 0) λb=>qP pG (xNil x0) λf=>qP pG (fA 63 f 0) λg=>qP pG (fA 31 g 0) λc=>qL pG a (blk b) (lA 3 b) λi=>qL pG a (blk c) (lA 28 c) λj=>qP pG (yN 28 j) λk=>qP pG (bN .geq 3 8 14 i k) λl=>xcond l
 (oP E (bC .add 3 16 x2 (vI 1)) a λm n=>R m n)
 (R x2 a)
def e7n:Hint:=(sQ (hS (hS (.reg [(0,128,16),(1,256,128),(0,512,1),(4,1024,512),(8,2048,1024),(16,4096,2048),(32,8192,4096),(64,2^14,8192),(130,2^15,16640)] [66,64,66,66,66,66,2,66,66] (eO 0 (eO 2 (eO 3 (eO 4 (eO 5 (lO 1 (lO 6 (eO 7 (eO 8 dO)))))))))) (hC (sQ hN) hN)) (sQ hN)))
theorem d8Q{x0 x1 x2}(h:e7m x0 x1 x2 w R E):Cv pG 107 #[x0,x1,x2] w R E:=okG (e7n) func107 h
def c9d(w)(R:RT)(_E:Pan):=
 ∀_τ:Fr,(R (vB true) w)
def d8R(x1 x2 x3 x9 x10 x11 w)(next2:NT)(j1:NT)(R:RT)(E):=
 opK pG E (bN .lss 3 11 10 x11 x10) w λi=>xC i
 (oN E (iA 146 x9 x11) λj=>oN E (lA 149 j) λg=>dN λc=>qL pG c (blk x2) (lA 107 x2) λm=>opK pG E (xCall (fC 109) [m,g,x1]) c λn b=>keepX [] c b (qP pG (yT n) λa=>qP pG (gNo a (bC .add 3 24 (gval (asB a) false x1) (vI 1))) λo=>qL pG b (blk x3) (gNo a (lA 194 x3)) λp=>opK pG E (gNo a (xInvoke (gval (asB a) false g) "gnomon/tree.parts" [])) b λq d=>keepX [(blk x3)] b d (opK pG E (gNo a (xCall p [q,o])) d λr e=>keepX [] d e (qP pG (gNo a (yT r)) λs=>qP pG (xPick a (vB true) s) λt=>xcond t
 (R (vB false) e)
 (opK pG E (bC .add 3 11 x11 (vI 1)) e λu v=>next2 [u] v)))))
 (j1 [])
def e7o(x0 x1 x2 x3 w)(R:RT)(E):=
 xcut (λ_ a=>c9d a R E) λj1=>(oN E (yN 146 x0) λb=>xL [11] [(vI 0)] λd e next2=>d8R x1 x2 x3 x0 b (d 11) e next2 j1 R E) w
def e7p:Hint:=(sQ (hU [] (sQ (hB (hL [11] (sQ (hS (hC hN hN) (hS (hB (sQ (hS (.reg [(0,2^15,4),(0,2^16,256),(0,2^17,2),(7,2^18,229376),(8,2^19,2^18),(24,2^20,2^19),(32,2^21,1048584),(32,2^22,1048832),(160,2^23,5242880),(32,2^24,1048578),(544,2^25,17825792),(1376,2^26,45088768),(2080,2^27,68157440),(4128,2^28,135266304)] [64,65,65,0,65,65,1,65,64,65,65,0,65,65] (eO 1 (eO 2 (lO 0 (sO 3 (eO 4 (eO 5 (eO 7 (eO 9 (eO 10 (lO 6 (sO 8 (sO 11 (eO 12 (eO 13 dO))))))))))))))) (hC (sQ hN) hN)))) hN)))))) (sQ hN)))
theorem d8S{x0 x1 x2 x3}(h:e7o x0 x1 x2 x3 w R E):Cv pG 108 #[x0,x1,x2,x3] w R E:=okG (e7p) func108 h
def c9e(w)(R:RT)(_E:Pan):=
 ∀_τ:Fr,(R (vB true) w)
def e7q(x0 x1 x2 w)(R:RT)(E):=
 opK pG E (xNil x0) w λj=>oN E (fA 106 j 0) λl=>oN E (lA 3 l) λn=>oN E (bC .add 3 12 n (vI 1)) λp=>oN E (xNil x0) λr=>oN E (fA 106 r 0) λt=>oN E (sA 3 t p) λ_=>oN E (xNil x0) λy=>oN E (fA 106 y 0) λaa=>oN E (lA 3 aa) λac=>oN E (bC .gtr 3 19 ac (vI 4096)) λae=>xC ae
 (oN E (xNil x0) λaf=>oN E (fA 106 af 2) λah=>oN E (sA 32 ah (vI 33)) λ_=>R (vB false))
 (oN E (bC .gtr 3 24 x2 (vI 64)) λak=>xC ak
 (oN E (xNil x0) λal=>oN E (fA 106 al 2) λan=>oN E (sA 32 an (vI 32)) λ_=>R (vB false))
 (oN E (xNil x0) λaq=>oN E (fA 106 aq 1) λau=>oN E (lA 3 au) λaw=>oN E (xBuiltin .max #[3,3] 3 [false,false] [aw,x2]) λay=>oN E (xNil x0) λba=>oN E (fA 106 ba 1) λbc=>oN E (sA 3 bc ay) λ_=>oN E (xNil x0) λbf=>oN E (fA 106 bf 3) λbh=>oN E (lA 4 bh) λa=>oN E (gNo a (xInvoke (gval (asB a) false x1) "gnomon/tree.form" [])) λbk=>oN E (gNo a (yT bk)) λbm=>oN E (xPick a (vB true) bm) λbo=>oN E (xNil x0) λbq=>oN E (fA 106 bq 3) λbs=>oN E (sA 4 bs bo) λ_=>xK (λ_ bv=>c9e bv R E) λj1=>oN E (xCall (fC 145) [x1]) λf=>oN E (xT f 0) λc=>oN E (xT f 1) λca=>xC ca
 (oN E (xNil x0) λcb=>oN E (fA 106 cb 4) λcd=>oN E (lA 4 cd) λb=>oN E (gNo b (xCall (fC 146) [(gval (asB b) false c)])) λcg=>oN E (gNo b (yT cg)) λci=>oN E (xPick b (vB true) ci) λck=>oN E (xNil x0) λcm=>oN E (fA 106 cm 4) λco=>oN E (sA 4 co ck) λ_=>oN E (xNil x0) λcr=>oN E (fA 106 cr 5) λct=>oN E (lA 28 ct) λcv=>oN E (xCall (fC 147) [cv,c]) λcx=>oN E (yT cx) λcz=>xC cz
 (oN E (xNil x0) λda=>oN E (fA 106 da 5) λdc=>oN E (lA 28 dc) λde=>oN E (yS 28 1 #[(0,c)]) λdg=>oN E (yP 28 de dg) λdi=>oN E (xNil x0) λdk=>oN E (fA 106 dk 5) λdm=>oN E (sA 28 dm di) λ_=>j1 [])
 (j1 []))
 (j1 [])))
def e7r:Hint:=(sQ (hS (sQ (sQ (hC (sQ (sQ hN)) hN))) (hS (sQ (hC (sQ (sQ hN)) hN)) (sQ (sQ (hU [] (sQ (sQ (hC (sQ (sQ (hC hN hN))) hN))) (sQ hN)))))))
theorem d8T{x0 x1 x2}(h:e7q x0 x1 x2 w R E):Cv pG 109 #[x0,x1,x2] w R E:=okG (e7r) func109 h
def c3P(x0 w)(R:RT)(_E:Pan):=
 ∀_τ:Fr,(R x0 w)
def c9f(x0 x1 w)(R:RT)(E):=
 ∀_τ:Fr,(xcut (λc d=>c3P (nth c 0) d R E) λj2=>(oN E (xBuiltin .cap #[146] 3 [false] [x0]) λe=>oN E (yN 146 x0) λg=>oN E (bN .sub 3 10 12 e g) λj=>oN E (bN .sub 3 8 13 x1 j) λa=>oN E (bC .gtr 3 15 a (vI 0)) λm=>xC m
 (oN E (xBuiltin .cap #[146] 3 [false] [x0]) λn=>oN E (xV (Instr.sliceAt 146 x0 none (some n) none)) λp=>oN E (xBuiltin .append #[146,3] 146 [false,false] [p,a]) λr=>oN E (yN 146 x0) λt=>oN E (xV (Instr.sliceAt 146 r none (some t) none)) λv=>j2 [v])
 (j2 [x0])) w)
def e3S(x0 x1 w)(R:RT)(E):=
 xcut (λ_ b=>c9f x0 x1 b R E) λj1=>(oN E (bC .lss 3 5 x1 (vI 0)) λc=>xC c
 (oN E (yE 9 (Value.string ⟨#[99,97,110,110,111,116,32,98,101,32,110,101,103,97,116,105,118,101]⟩)) λd=>oN E (xV (Instr.panic d)) λ_=>j1 [])
 (j1 [])) w
def e7s:Hint:=(sQ (hU [] (sQ (hC hN hN)) (hU [0] (sQ (sQ (hC hN hN))) (sQ hN))))
theorem d8U{x0 x1}(h:e3S x0 x1 w R E):Cv pG 110 #[x0,x1] w R E:=okG (e7s) func110 h
def e7t(x0 x1 w)(R:RT)(E):=
 opK pG E (xCall (fC 150) [x0,x1]) w λa=>R a
def e7u:Hint:=(sQ (sQ hN))
theorem d8V{x0 x1}(h:e7t x0 x1 w R E):Cv pG 112 #[x0,x1] w R E:=okG (e7u) func112 h
def e3T(x0 w)(R:RT)(E):=
 opK pG E (xNil x0) w λb c=>oP E (fA 81 b 0) c λd e=>oP E (lA 78 d) e λf g=>oP E (bC .eql 78 5 f (Value.pointer none)) g λi a=>xcond i
 (oP E (xV (convert 78 239 x0)) a λj k=>oP E (xCall (fC 152) [j]) k λl m=>oP E (xV (convert 239 78 l)) m λn o=>oP E (xNil x0) o λp q=>oP E (fA 81 p 0) q λr s=>oP E (sA 78 r n) s λ_ t=>R (yU []) t)
 (oP E (xNil x0) a λu v=>oP E (fA 81 u 0) v λy z=>oP E (lA 78 y) z λaa ab=>oP E (bN .neq 78 17 18 aa x0) ab λac ad=>xcond ac
 (False)
 (R (yU []) ad))
def e7v:Hint:=(sQ (hC hN (sQ (hC hN hN))))
theorem d8W{x0}(h:e3T x0 w R E):Cv pG 114 #[x0] w R E:=okG (e7v) func114 h
def c3Q(x0 x1 x3 x4 w)(R:RT)(E):=
 ∀_τ:Fr,(opK pG E (xCall x4 []) w λ_t16_1=>xC x1
 (oN E (yS 28 1 #[(0,x3)]) λb=>oN E (xCall (fC 45) [x0,b]) λ_t21_5=>R (yU []))
 (R (yU [])))
def e3U(x0 x1 x2 x3 x4 w)(R:RT)(E):=
 xcut (λ_ a=>c3Q x0 x1 x3 x4 a R E) λj1=>xcond x1
 ((oN E (yS 28 1 #[(0,x2)]) λb=>oN E (xCall (fC 45) [x0,b]) λ_t14_11=>j1 []) w)
 (j1 [] w)
def e7w:Hint:=(hU [] (sQ (hC hN hN)) (sQ (sQ (hC hN hN))))
theorem d8X{x0 x1 x2 x3 x4}(h:e3U x0 x1 x2 x3 x4 w R E):Cv pG 119 #[x0,x1,x2,x3,x4] w R E:=okG (e7w) func119 h
def e3V(x0 x1 w)(R:RT)(E):=
 opK pG E (lA 77 x0) w λa=>oN E (lA 112 x1) λc=>oN E (xCall (fC 48) [a,c]) λ_t4_5=>R (yU [])
def e7x:Hint:=hN
theorem d8Y{x0 x1}(h:e3V x0 x1 w R E):Cv pG 120 #[x0,x1] w R E:=okG (e7x) func120 h
def c9g(x3 w)(R:RT)(_E:Pan):=
 ∀_τ:Fr,(R x3 w)
def c9h(x3 w)(j1:NT)(_R:RT)(E):=
 ∀_τ:Fr,(oP E (bC .sub 3 11 x3 (vI 1)) w λa b=>j1 [a] b)
def e7y(x0 w)(R:RT)(E):=
 xcut (λc d=>c9g (nth c 0) d R E) λj1=>xcut (λe f=>c9h (nth e 0) f j1 R E) λj2=>(oN E (bC .eql 3 4 x0 (vI 6)) λg=>xC g
 (oN E (bC .sub 3 9 (vI 3) (vI 1)) λi=>j2 [i])
 (oN E (bC .eql 3 4 x0 (vI 5)) λk=>xC k
 (j2 [(vI 3)])
 (j1 [(vI 3)]))) w
def e7z:Hint:=(sQ (sQ (hU [3] (sQ (hB (hU [3] (hB (hS (hB (hS (hS (sQ (hC hN hN)) (sQ (hC hN hN))) hN)) hN)) (sQ hN)))) (sQ hN))))
theorem d8Z{x0}(h:e7y x0 w R E):Cv pG 121 #[x0] w R E:=okG (e7z) func121 h
def e3W(x0 x1 x2 w)(R:RT)(E):=
 opK pG E (yB 77 x0) w λa g=>oP E (yB 115 x1) g λd i=>dX i λb=>qP pG (fA 115 d 0) λe=>qP pG (xV (Instr.makeFunc (.func 158) #[] #[a,d])) λj=>qL pG b (blk a) (lA 77 a) λk=>qL pG b (blk e) (lA 3 e) λl=>oP E (xCall (fC 121) [l]) b λm c=>keepX [(blk a)] b c (qP pG (bN .lss 3 9 10 m x2) λn=>oP E (xCall (fC 119) [k,n,(Value.string ⟨#[91]⟩),(Value.string ⟨#[93]⟩),j]) c λ_t13_13 f=>keepX [] c f (R (yU []) f))
def e7A:Hint:=(sQ (.reg [(0,64,8),(0,128,16),(2,256,128),(4,512,256),(0,1024,4),(24,2048,1536),(0,4096,24),(105,8192,6208)] [4,5,1,1,5,5,5,0] (eO 1 (eO 4 (eO 6 (lO 0 (lO 2 (sO 3 (eO 5 (sO 7 dO))))))))))
theorem d9a{x0 x1 x2}(h:e3W x0 x1 x2 w R E):Cv pG 122 #[x0,x1,x2] w R E:=okG (e7A) func122 h
def e7B(w)(R:RT)(E):=
 opK pG E (yA 47) w λa=>oN E (yI 47 #[(0,(vI 1)),(1,(vI 1))]) λd=>oN E (sA 47 a d) λ_=>xE 47 a λf=>R f
def e7C:Hint:=(sQ (sQ hN))
theorem d9b(h:e7B  w R E):Cv pG 124 #[] w R E:=okG (e7C) func124 h
def e7D(x0 w)(R:RT)(E):=
 opK pG E (xCall (fC 127) [x0]) w λb=>oN E (bC .eql 3 6 b (vI 1)) λa=>oN E (gNo a (bC .eql 3 9 (gval (asB a) false b) (vI 2))) λe=>oN E (xPick a (vB true) e) λg=>R g
def e7E:Hint:=(sQ (sQ (sQ hN)))
theorem d9c{x0}(h:e7D x0 w R E):Cv pG 126 #[x0] w R E:=okG (e7E) func126 h
def c9i(x39 w)(R:RT)(_E:Pan):=
 ∀_τ:Fr,(xcond x39
 (R (vI 3) w)
 (R (vI 6) w))
def c9j(x1 x31 w)(R:RT)(E):=
 ∀_τ:Fr,(xcond x31
 (R (vI 6) w)
 ((oN E (xV (Instr.makeFunc (.func 162) #[] #[x1])) λa=>oN E (xCall a [(Value.int .i32 48),(Value.int .i32 57)]) λo=>xC o
 (R (vI 4))
 (xK (λp q=>c9i (nth p 0) q R E) λj4=>oN E (lA 21 x1) λr=>oN E (bC .eql 21 40 r (Value.int .i32 95)) λc=>xC c
 (j4 [c])
 (oN E (xCall a [(Value.int .i32 97),(Value.int .i32 122)]) λe=>xC e
 (j4 [e])
 (oN E (xCall a [(Value.int .i32 65),(Value.int .i32 90)]) λg=>xC g
 (j4 [g])
 (oN E (xCall a [(Value.int .i32 192),(Value.int .i32 591)]) λj=>xC j
 (j4 [j])
 (oN E (xCall a [(Value.int .i32 913),(Value.int .i32 969)]) λl=>xC l
 (j4 [l])
 (oN E (xCall a [(Value.int .i32 1040),(Value.int .i32 1103)]) λt=>j4 [t]))))))) w))
def c9k(x1 x4 x11 w)(R:RT)(E):=
 ∀_τ:Fr,(xcond x11
 (R (vI 5) w)
 (xcut (λe f=>c9j x1 (nth e 0) f R E) λj3=>(oN E (bC .eql 21 4 x4 (Value.int .i32 215)) λa=>xC a
 (j3 [a])
 (oN E (bC .eql 21 4 x4 (Value.int .i32 247)) λc=>xC c
 (j3 [c])
 (oN E (bC .eql 21 4 x4 (Value.int .i32 930)) λg=>j3 [g]))) w))
def c9l(x1 x4 x5 w)(R:RT)(E):=
 ∀_τ:Fr,(xcond x5
 (R (vI 1) w)
 ((oN E (bC .eql 21 4 x4 (Value.int .i32 10)) λao=>xC ao
 (R (vI 2))
 (xK (λap aq=>c9k x1 x4 (nth ap 0) aq R E) λj2=>oN E (bC .eql 21 4 x4 (Value.int .i32 59)) λb=>xC b
 (j2 [b])
 (oN E (bC .eql 21 4 x4 (Value.int .i32 44)) λd=>xC d
 (j2 [d])
 (oN E (bC .eql 21 4 x4 (Value.int .i32 123)) λf=>xC f
 (j2 [f])
 (oN E (bC .eql 21 4 x4 (Value.int .i32 125)) λi=>xC i
 (j2 [i])
 (oN E (bC .eql 21 4 x4 (Value.int .i32 40)) λk=>xC k
 (j2 [k])
 (oN E (bC .eql 21 4 x4 (Value.int .i32 41)) λm=>xC m
 (j2 [m])
 (oN E (bC .eql 21 4 x4 (Value.int .i32 91)) λo=>xC o
 (j2 [o])
 (oN E (bC .eql 21 4 x4 (Value.int .i32 93)) λq=>xC q
 (j2 [q])
 (oN E (bC .eql 21 4 x4 (Value.int .i32 61)) λs=>xC s
 (j2 [s])
 (oN E (bC .eql 21 4 x4 (Value.int .i32 33)) λu=>xC u
 (j2 [u])
 (oN E (bC .eql 21 4 x4 (Value.int .i32 60)) λy=>xC y
 (j2 [y])
 (oN E (bC .eql 21 4 x4 (Value.int .i32 62)) λaa=>xC aa
 (j2 [aa])
 (oN E (bC .eql 21 4 x4 (Value.int .i32 43)) λac=>xC ac
 (j2 [ac])
 (oN E (bC .eql 21 4 x4 (Value.int .i32 45)) λae=>xC ae
 (j2 [ae])
 (oN E (bC .eql 21 4 x4 (Value.int .i32 42)) λag=>xC ag
 (j2 [ag])
 (oN E (bC .eql 21 4 x4 (Value.int .i32 47)) λai=>xC ai
 (j2 [ai])
 (oN E (bC .eql 21 4 x4 (Value.int .i32 37)) λak=>xC ak
 (j2 [ak])
 (oN E (bC .eql 21 4 x4 (Value.int .i32 38)) λam=>xC am
 (j2 [am])
 (oN E (bC .eql 21 4 x4 (Value.int .i32 124)) λar=>j2 [ar])))))))))))))))))))) w))
def e7F(x0 w)(R:RT)(E):=
 opK pG E (yB 21 x0) w λb=>oN E (lA 21 b) λa=>xK (λj k=>c9l b a (nth j 0) k R E) λj1=>oN E (bC .eql 21 4 a (Value.int .i32 32)) λc=>xC c
 (j1 [c])
 (oN E (bC .eql 21 4 a (Value.int .i32 9)) λe=>xC e
 (j1 [e])
 (oN E (bC .eql 21 4 a (Value.int .i32 13)) λl=>j1 [l]))
def e7G:Hint:=(sQ (hS (sQ (hB (hU [5] (sQ (hC hN (sQ (hC hN hN)))) (hC (sQ hN) (sQ (hC (sQ hN) (hU [11] (sQ (hC hN (sQ (hC hN (sQ (hC hN (sQ (hC hN (sQ (hC hN (sQ (hC hN (sQ (hC hN (sQ (hC hN (sQ (hC hN (sQ (hC hN (sQ (hC hN (sQ (hC hN (sQ (hC hN (sQ (hC hN (sQ (hC hN (sQ (hC hN (sQ (hC hN (sQ (hC hN hN)))))))))))))))))))))))))))))))))))) (hC (sQ hN) (hU [31] (sQ (hC hN (sQ (hC hN hN)))) (hC (sQ hN) hN)))))))))) (sQ (hS (hB (sQ (hC (sQ hN) (hU [39] (sQ (hC hN (sQ (hC hN (sQ (hC hN (sQ (hC hN (sQ (hC hN hN)))))))))) (hC (sQ hN) hN))))) (sQ hN)))))
theorem d9d{x0}(h:e7F x0 w R E):Cv pG 127 #[x0] w R E:=okG (e7G) func127 h
def a9P(x0 x5 w)(R:RT)(_E:Pan):=
 ∀_τ:Fr,(dX w λa=>qP pG (xNil x0) λd=>qP pG (fA 167 d 0) λb=>qP pG (xNil x0) λe=>qP pG (fA 167 e 1) λc=>qL pG a (blk b) (lA 9 b) λf=>qL pG a (blk c) (lA 3 c) λg=>qP pG (xV (Instr.sliceAt 9 f (some x5) (some g) none)) λi=>R i a)
def b6Z(x0 x1 _x5 x6 x7:Value)(w)(next2:NT)(j1:NT)(_R:RT)(E):=
 opK pG E (gYs x7 (xCall (gval (asB x7) true x1) [(gval (asB x7) true x6)])) w λc=>oN E (xPick x7 c (vB false)) λe=>xC e
 (oN E (xCall (fC 163) [x0]) λ_t29_27=>oN E (xCall (fC 91) [x0]) λb=>oN E (xT b 0) λi=>oN E (xT b 1) λk=>next2 [i,k])
 (j1 [])
def c6v(x0 x1 w)(R:RT)(E):=
 opK pG E (xNil x0) w λd=>oN E (fA 167 d 1) λf=>oN E (lA 3 f) λa=>xK (λ_ j=>a9P x0 a j R E) λj1=>oN E (xCall (fC 91) [x0]) λb=>oN E (xT b 0) λl=>oN E (xT b 1) λn=>xL [6,7] [l,n] λc p next2=>b6Z x0 x1 a (c 6) (c 7) p next2 j1 R E
def e7H:Hint:=(sQ (sQ (hU [] (sQ (hB (hL [6,7] (hS (sQ (hC hN hN)) (hS (hB hN) hN))))) (hS (.reg [(0,2^30,1),(1,2^31,2^30),(2,2^32,2^31),(4,2^33,2^32),(0,2^34,32),(0,2^35,1),(32,2^36,2^35),(64,2^37,2^36),(128,2^38,2^37),(280,2^39,300647710720),(1023,16,2^39)] [264,264,264,256,264,264,264,264,8,264,264] (eO 0 (eO 1 (eO 2 (eO 4 (eO 5 (eO 6 (eO 7 (lO 3 (lO 8 (eO 9 (eO 10 dO)))))))))))) hN))))
theorem c0l{x0 x1}(h:c6v x0 x1 w R E):Cv pG 128 #[x0,x1] w R E:=okG (e7H) func128 h
def e7I(x0 w)(R:RT)(_E:Pan):=
 dX w λa=>qP pG (xNil x0) λd=>qP pG (fA 167 d 0) λb=>qP pG (xNil x0) λe=>qP pG (fA 167 e 1) λc=>qL pG a (blk b) (lA 9 b) λf=>qL pG a (blk c) (lA 3 c) λg=>qP pG (xV (Instr.sliceAt 9 f (some g) none none)) λi=>R i a
def e7J:Hint:=(sQ (hS (.reg [(0,8,1),(1,16,8),(2,32,16),(4,64,32),(0,128,1),(16,256,128),(32,512,256),(64,1024,512),(136,2048,1088),(511,4,2048)] [136,136,136,128,136,136,136,8,136,136] (eO 0 (eO 1 (eO 2 (eO 4 (eO 5 (eO 6 (lO 3 (lO 7 (eO 8 (eO 9 dO))))))))))) hN))
theorem d9e{x0}(h:e7I x0 w R E):Cv pG 129 #[x0] w R E:=okG (e7J) func129 h
def e7K(x0 w)(R:RT)(E):=
 opK pG E (bC .neq 21 3 x0 (Value.int .i32 10)) w λa=>R a
def e7L:Hint:=(sQ (sQ hN))
theorem d9f{x0}(h:e7K x0 w R E):Cv pG 130 #[x0] w R E:=okG (e7L) func130 h
def c9m(x2 x4 w)(R:RT)(E):=
 ∀_τ:Fr,(opK pG E (lA 127 x4) w λb=>oN E (sA 127 x2 b) λ_=>xE 127 x2 λd=>R (yU [d,(vI 0)]))
def e7M(x0 w)(R:RT)(E):=
 opK pG E (yA 127) w λb=>oN E (xCall (fC 128) [x0,(fC 164)]) λg=>oN E (yI 127 #[(0,(vI 1)),(1,g)]) λj=>oN E (yA 127) λa=>oN E (sA 127 a j) λ_=>xK (λ_ n=>c9m b a n R E) λj1=>oN E (fA 127 a 1) λo=>oN E (lA 9 o) λq=>oN E (xCall (fC 165) [q]) λs=>xC s
 (oN E (fA 127 a 0) λt=>oN E (sA 3 t (vI 3)) λ_=>j1 [])
 (oN E (fA 127 a 1) λy=>oN E (lA 9 y) λaa=>oN E (xCall (fC 166) [aa]) λac=>xC ac
 (oN E (lA 127 a) λad=>oN E (sA 127 b ad) λ_=>xE 127 b λaf=>R (yU [af,(vI 22)]))
 (j1 []))
def e7N:Hint:=(sQ (sQ (hU [] (hB (sQ (hC hN (sQ (hC (sQ hN) hN))))) (sQ hN))))
theorem d9g{x0}(h:e7M x0 w R E):Cv pG 131 #[x0] w R E:=okG (e7N) func131 h
def e7O(x0 w)(R:RT)(E):=
 opK pG E (yA 127) w λe=>oN E (xCall (fC 128) [x0,(fC 167)]) λn=>oN E (yI 127 #[(0,(vI 2)),(1,n)]) λp=>oN E (yA 127) λc=>oN E (sA 127 c p) λ_=>oN E (fA 127 c 1) λt=>oN E (lA 9 t) λv=>oN E (xCall (fC 168) [v,(vI 10),(vI 64)]) λg=>oN E (xT g 0) λaa=>oN E (xT g 1) λac=>oN E (xCall (fC 91) [x0]) λi=>oN E (xT i 0) λaf=>oN E (xT i 1) λf=>oN E (xBin .neq 156 (.tmp 23) (.const Value.nilIface) ac Value.nilIface) λa=>oN E (gNo a (fA 127 c 1)) λaj=>oN E (gNo a (lA 9 aj)) λal=>oN E (gNo a (yN 9 al)) λan=>oN E (gNo a (bC .gtr 3 28 an (vI 1))) λd=>oN E (gsem (asB (gval (asB a) false d)) true (fA 127 c 1)) λaq=>oN E (gsem (asB (gval (asB a) false d)) true (lA 9 aq)) λau=>oN E (gsem (asB (gval (asB a) false d)) true (yX 9 au (vI 0))) λaw=>oN E (gsem (asB (gval (asB a) false d)) true (bC .eql 5 33 aw (Value.int .u8 48))) λay=>oN E (gNo a (xPick (gval (asB a) false d) ay (vB false))) λba=>oN E (xPick a (vB true) ba) λb=>oN E (gsem (asB (gval (asB b) false (gval (asB b) false f))) true (xCall (fC 127) [(gval (asB (gval (asB b) false (gval (asB b) false f))) true af)])) λbd=>oN E (gsem (asB (gval (asB b) false (gval (asB b) false f))) true (bC .eql 3 41 bd (vI 3))) λbf=>oN E (gNo b (xPick (gval (asB b) false (gval (asB b) false f)) bf (vB false))) λbh=>oN E (xPick b (vB true) bh) λbj=>xC bj
 (oN E (lA 127 c) λbk=>oN E (sA 127 e bk) λ_=>xE 127 e λbm=>R (yU [bm,(vI 21)]))
 (oN E (fA 127 c 2) λbn=>oN E (sA 2 bn aa) λ_=>oN E (lA 127 c) λbq=>oN E (sA 127 e bq) λ_=>xE 127 e λbs=>R (yU [bs,(vI 0)]))
def e7P:Hint:=(sQ (sQ (sQ (sQ (hS (sQ (hC (sQ hN) hN)) (sQ (sQ hN)))))))
theorem d9h{x0}(h:e7O x0 w R E):Cv pG 132 #[x0] w R E:=okG (e7P) func132 h
def c9n(x0 x2 w)(R:RT)(E):=
 ∀_τ:Fr,(opK pG E (xCall (fC 129) [x0]) w λf=>oN E (xV (Instr.sliceAt 9 f none (some (vI 1)) none)) λa=>oN E (xCall (fC 163) [x0]) λ_t26_7=>oN E (bC .eql 9 27 a (Value.string ⟨#[38]⟩)) λb=>oN E (gNo b (bC .eql 9 30 (gval (asB b) false a) (Value.string ⟨#[124]⟩))) λl=>oN E (xPick b (vB true) l) λn=>xC n
 (oN E (yI 127 #[]) λo=>oN E (sA 127 x2 o) λ_=>xE 127 x2 λq=>R (yU [q,(vI 20)]))
 (oN E (yI 127 #[(0,(vI 4)),(1,a)]) λr=>oN E (sA 127 x2 r) λ_=>xE 127 x2 λt=>R (yU [t,(vI 0)])))
def d9i(x0 x2 x7 x8 w)(next2:NT)(j1:NT)(R:RT)(E):=
 opK pG E (bC .lss 3 8 x8 (vI 6)) w λe=>xC e
 (oN E (yX 215 x7 x8) λb=>oN E (xCall (fC 129) [x0]) λg=>oN E (xCall (fC 112) [g,b]) λj=>xC j
 (oN E (xCall (fC 163) [x0]) λ_t16_37=>oN E (xCall (fC 163) [x0]) λ_t18_39=>oN E (yI 127 #[(0,(vI 4)),(1,b)]) λm=>oN E (sA 127 x2 m) λ_=>xE 127 x2 λo=>R (yU [o,(vI 0)]))
 (oN E (bC .add 3 8 x8 (vI 1)) λp=>next2 [p]))
 (j1 [])
def e7Q(x0 w)(R:RT)(E):=
 opK pG E (yA 127) w λa=>xK (λ_ c=>c9n x0 a c R E) λj1=>oN E (yI 215 #[(0,(Value.string ⟨#[61,61]⟩)),(1,(Value.string ⟨#[33,61]⟩)),(2,(Value.string ⟨#[60,61]⟩)),(3,(Value.string ⟨#[62,61]⟩)),(4,(Value.string ⟨#[38,38]⟩)),(5,(Value.string ⟨#[124,124]⟩))]) λd=>xL [8] [(vI 0)] λf g next2=>d9i x0 a d (f 8) g next2 j1 R E
def e7R:Hint:=(sQ (hU [] (sQ (hB (hL [8] (sQ (hS (hC hN hN) (hS (hB (sQ (sQ (hC (sQ (sQ (sQ hN))) hN)))) hN)))))) (sQ (sQ (hS (sQ (hC (sQ hN) hN)) (sQ hN))))))
theorem d9j{x0}(h:e7Q x0 w R E):Cv pG 133 #[x0] w R E:=okG (e7R) func133 h
def e7S(w)(R:RT)(E):=
 opK pG E (yA 127) w λa=>oN E (yI 127 #[]) λd=>oN E (sA 127 a d) λ_=>xE 127 a λf=>R (yU [f,(vI 20)])
def e7T:Hint:=(sQ (sQ hN))
theorem d9k(h:e7S  w R E):Cv pG 134 #[] w R E:=okG (e7T) func134 h
def e7U(x0 w)(R:RT)(E):=
 opK pG E (xCall (fC 55) [x0]) w λf=>oN E (yF 127 f 0) λe=>oN E (bC .eql 3 7 e (vI 1)) λa=>oN E (gNo a (bC .eql 3 10 (gval (asB a) false e) (vI 2))) λk=>oN E (xPick a (vB true) k) λb=>oN E (gNo b (xCall (fC 57) [(gval (asB b) false x0),(Value.string ⟨#[45]⟩)])) λn=>oN E (xPick b (vB true) n) λc=>oN E (gNo c (xCall (fC 57) [(gval (asB c) false x0),(Value.string ⟨#[105,110,112,117,116]⟩)])) λq=>oN E (xPick c (vB true) q) λd=>oN E (gNo d (xCall (fC 57) [(gval (asB d) false x0),(Value.string ⟨#[40]⟩)])) λt=>oN E (xPick d (vB true) t) λv=>R v
def e7V:Hint:=(sQ (sQ (sQ hN)))
theorem d9l{x0}(h:e7U x0 w R E):Cv pG 135 #[x0] w R E:=okG (e7V) func135 h
def c3R(x6 x7 w)(R:RT)(E):=
 ∀_τ:Fr,(opK pG E (lA 112 x7) w λb=>oN E (sA 112 x6 b) λ_=>xE 112 x6 λd=>R d)
def c9o(x0 x1 x5 _x6 x7 x8:Value)(w)(next2:NT)(j1:NT)(_R:RT)(E):=
 opK pG E (bC .neq 3 16 x8 (vI 0)) w λg=>xC g
 (dN λa=>qP pG (fA 228 x5 2) λe=>qL pG a (blk x7) (lA 112 x7) λi=>qL pG a (blk e) (lA 176 e) λj=>opK pG E (xCall j [x1]) a λk b=>keepX [(blk x7)] a b (opK pG E (yS 52 2 #[(0,i),(1,k)]) b λl c=>keepX [] b c (qP pG (yI 112 #[(0,x8),(3,l)]) λm=>opK pG E (sA 112 x7 m) c λ_ f=>keepX [] c f (opK pG E (lA 228 x5) f λn=>oN E (xCall (fC 169) [x0,n]) λp=>next2 [p]))))
 (j1 [])
def e3X(x0 x1 x2 w)(R:RT)(E):=
 opK pG E (yB 228 x2) w λa=>oN E (yA 112) λc=>oN E (fA 228 a 2) λf=>oN E (lA 176 f) λi=>oN E (xCall i [x1]) λk=>oN E (yA 112) λb=>oN E (sA 112 b k) λ_=>xK (λ_ o=>c3R c b o R E) λj1=>oN E (lA 228 a) λp=>oN E (xCall (fC 169) [x0,p]) λr=>xL [8] [r] λt u next2=>c9o x0 x1 a c b (t 8) u next2 j1 R E
def e7W:Hint:=(sQ (sQ (hU [] (sQ (hB (hL [8] (hS (sQ (hC hN hN)) (hS (hB (.reg [(0,2^21,256),(0,2^22,128),(0,2^23,32),(4,2^24,2^23),(0,2^25,2),(24,2^26,50331648),(34,2^27,71303168),(65,2^28,136314880),(255,0,2^7+2^28)] [10,8,10,2,10,2,0,10,0] (eO 0 (eO 2 (eO 4 (lO 1 (lO 3 (sO 5 (sO 6 (eO 7 (sO 8 dO))))))))))) hN))))) (sQ hN))))
theorem d9m{x0 x1 x2}(h:e3X x0 x1 x2 w R E):Cv pG 136 #[x0,x1,x2] w R E:=okG (e7W) func136 h
def e3Y(x0 x1 w)(R:RT)(E):=
 opK pG E (yA 112) w λa=>oN E (yS 28 3 #[(0,(Value.string ⟨#[42]⟩)),(1,(Value.string ⟨#[47]⟩)),(2,(Value.string ⟨#[37]⟩))]) λd=>oN E (yS 26 3 #[(0,(vI 8)),(1,(vI 9)),(2,(vI 10))]) λf=>oN E (xV (Instr.makeFunc (.func 170) #[x0] #[])) λi=>oN E (yI 228 #[(0,d),(1,f),(2,i)]) λk=>oN E (xCall (fC 136) [x0,x1,k]) λm=>oN E (sA 112 a m) λ_=>xE 112 a λo=>R o
def e7X:Hint:=(sQ (sQ hN))
theorem d9n{x0 x1}(h:e3Y x0 x1 w R E):Cv pG 137 #[x0,x1] w R E:=okG (e7X) func137 h
def e3Z(x0 x1 w)(R:RT)(E):=
 opK pG E (yA 115) w λa=>oN E (lA 91 x1) λd=>oN E (lA 91 x1) λf=>oN E (xV (Instr.makeFunc (.func 140) #[f] #[])) λi=>oN E (xCall (fC 139) [d,x0,(Value.string ⟨#[38,38]⟩),(vI 5),i]) λk=>oN E (sA 115 a k) λ_=>xE 115 a λm=>R m
def e7Y:Hint:=(sQ (sQ hN))
theorem d9o{x0 x1}(h:e3Z x0 x1 w R E):Cv pG 138 #[x0,x1] w R E:=okG (e7Y) func138 h
def c3S(x10 x11 w)(R:RT)(E):=
 ∀_τ:Fr,(opK pG E (lA 115 x11) w λb=>oN E (sA 115 x10 b) λ_=>xE 115 x10 λd=>R d)
def c9p(x0 x1 x2 x3 x4 _x10 x11:Value)(w)(next2:NT)(j1:NT)(_R:RT)(E):=
 opK pG E (xCall (fC 96) [x0,x2]) w λf=>xC f
 (dN λa=>qL pG a (blk x11) (lA 115 x11) λg=>opK pG E (xCall x4 [x1]) a λi b=>keepX [(blk x11)] a b (opK pG E (yS 53 2 #[(0,g),(1,i)]) b λj c=>keepX [] b c (qP pG (yI 115 #[(0,x3),(3,j)]) λk=>opK pG E (sA 115 x11 k) c λ_ e=>keepX [] c e (next2 [] e))))
 (j1 [])
def e4a(x0 x1 x2 x3 x4 w)(R:RT)(E):=
 opK pG E (yA 115) w λb=>oN E (xCall x4 [x1]) λd=>oN E (yA 115) λa=>oN E (sA 115 a d) λ_=>xK (λ_ i=>c3S b a i R E) λj1=>xL [] [] λ_ j next2=>c9p x0 x1 x2 x3 x4 b a j next2 j1 R E
def e7Z:Hint:=(sQ (sQ (hU [] (hB (hL [] (hS (sQ (hC hN hN)) (hB (.reg [(0,2^18,8),(0,2^19,2048),(0,2^20,16),(0,2^21,2),(12,2^22,3145728),(18,2^23,4718592),(33,2^24,8650752),(127,0,16779264)] [2,0,2,2,2,0,2,0] (eO 0 (eO 2 (eO 3 (lO 1 (sO 4 (sO 5 (eO 6 (sO 7 dO))))))))))))) (sQ hN))))
theorem d9p{x0 x1 x2 x3 x4}(h:e4a x0 x1 x2 x3 x4 w R E):Cv pG 139 #[x0,x1,x2,x3,x4] w R E:=okG (e7Z) func139 h
def c9q(x0 x1 x4 w)(R:RT)(E):=
 ∀_τ:Fr,(opK pG E (xCall (fC 98) [x0,x1]) w λf=>oN E (yA 112) λa=>oN E (sA 112 a f) λ_=>oN E (xCall (fC 172) [x0]) λk=>dN λb=>qL pG b (blk a) (lA 112 a) λm=>opK pG E (xCall (fC 98) [x0,x1]) b λn c=>keepX [(blk a)] b c (opK pG E (yS 52 2 #[(0,m),(1,n)]) c λo d=>keepX [] c d (qP pG (yI 115 #[(0,(vI 3)),(1,k),(2,o)]) λp=>opK pG E (sA 115 x4 p) d λ_ e=>keepX [] d e (xcell pG 115 x4 e λq=>R q e))))
def e8a(x0 x1 w)(R:RT)(E):=
 opK pG E (yA 115) w λa=>xK (λ_ n=>c9q x0 x1 a n R E) λj1=>oN E (xCall (fC 171) [x0]) λo=>oN E (yT o) λq=>xC q
 (oN E (xCall (fC 56) [x0]) λ_t13_27=>j1 [])
 (oN E (xCall (fC 96) [x0,(Value.string ⟨#[116,114,117,101]⟩)]) λs=>xC s
 (oN E (yI 115 #[(0,(vI 1))]) λt=>oN E (sA 115 a t) λ_=>xE 115 a λv=>R v)
 (oN E (xCall (fC 96) [x0,(Value.string ⟨#[102,97,108,115,101]⟩)]) λy=>xC y
 (oN E (yI 115 #[(0,(vI 2))]) λz=>oN E (sA 115 a z) λ_=>xE 115 a λab=>R ab)
 (oN E (xCall (fC 96) [x0,(Value.string ⟨#[33]⟩)]) λac=>xC ac
 (oN E (bC .add 3 26 x1 (vI 1)) λad=>oN E (xCall (fC 171) [x0]) λaf=>oN E (xCall (fC 59) [x0,ad,af]) λ_t30_49=>oN E (bC .add 3 32 x1 (vI 1)) λai=>oN E (xCall (fC 140) [x0,ai]) λak=>oN E (yS 53 1 #[(0,ak)]) λam=>oN E (yI 115 #[(0,(vI 4)),(3,am)]) λao=>oN E (sA 115 a ao) λ_=>xE 115 a λaq=>R aq)
 (oN E (xCall (fC 96) [x0,(Value.string ⟨#[91]⟩)]) λar=>xC ar
 (oN E (bC .add 3 41 x1 (vI 1)) λau=>oN E (xCall (fC 171) [x0]) λaw=>oN E (xCall (fC 59) [x0,au,aw]) λ_t45_68=>oN E (bC .add 3 47 x1 (vI 1)) λaz=>oN E (xCall (fC 99) [x0,az]) λbb=>oN E (yA 115) λk=>oN E (sA 115 k bb) λ_=>oN E (xCall (fC 94) [x0,(Value.string ⟨#[93]⟩)]) λ_t51_78=>oN E (lA 115 k) λbg=>oN E (sA 115 a bg) λ_=>xE 115 a λbi=>R bi)
 (j1 [])))))
def e8b:Hint:=(sQ (hU [] (hB (sQ (hC hN (sQ (hC (sQ hN) (sQ (hC (sQ hN) (sQ (hC (sQ (sQ hN)) (sQ (hC (sQ (sQ (sQ (sQ hN)))) hN))))))))))) (sQ (sQ (hS (.reg [(0,2^58,128),(0,2^59,64),(0,2^60,1),(0,2^61,2),(12,2^62,2^60+2^61),(18,2^63,2^59+2^62),(33,2^64,2^58+2^63),(127,0,2^4+2^64)] [2,0,2,2,2,0,2,0] (eO 0 (eO 2 (eO 3 (lO 1 (sO 4 (sO 5 (eO 6 (sO 7 dO))))))))) hN)))))
theorem d9q{x0 x1}(h:e8a x0 x1 w R E):Cv pG 140 #[x0,x1] w R E:=okG (e8b) func140 h
def d9r(x0 x20 x21 x22 w)(next2:NT)(R:RT)(E):=
 opK pG E (bN .lss 3 22 21 x22 x21) w λc=>xC c
 (oN E (iA 53 x20 x22) λd=>oN E (lA 115 d) λf=>oN E (yA 115) λb=>oN E (sA 115 b f) λ_=>oN E (lA 115 b) λk=>oN E (xCall (fC 141) [x0,k]) λ_t28_21=>oN E (bC .add 3 22 x22 (vI 1)) λn=>next2 [n])
 (R (yU []))
def c9r(x0 x3 w)(R:RT)(E):=
 ∀_τ:Fr,(opK pG E (fA 115 x3 3) w λb=>oN E (lA 53 b) λa=>oN E (yN 53 a) λe=>xL [22] [(vI 0)] λg i next2=>d9r x0 a e (g 22) i next2 R E)
def d9s(x0 _x3 x9 x10 x11:Value)(w)(next3:NT)(j1:NT)(_R:RT)(E):=
 opK pG E (bN .lss 3 11 10 x11 x10) w λc=>xC c
 (oN E (iA 52 x9 x11) λd=>oN E (lA 112 d) λf=>oN E (yA 112) λb=>oN E (sA 112 b f) λ_=>oN E (lA 112 b) λk=>oN E (xCall (fC 142) [x0,k]) λ_t17_47=>oN E (bC .add 3 11 x11 (vI 1)) λn=>next3 [n])
 (j1 [])
def e8c(x0 x1 w)(R:RT)(E):=
 opK pG E (yB 115 x1) w λa=>xK (λ_ d=>c9r x0 a d R E) λj1=>oN E (fA 115 a 2) λe=>oN E (lA 52 e) λb=>oN E (yN 52 b) λi=>xL [11] [(vI 0)] λk l next3=>d9s x0 a b i (k 11) l next3 j1 R E
def e8d:Hint:=(sQ (hU [] (sQ (hB (hL [11] (sQ (hS (hC hN hN) (hS (hB (sQ hN)) hN)))))) (sQ (hB (hL [22] (sQ (hS (hC hN hN) (hS (hB (sQ hN)) hN))))))))
theorem d9t{x0 x1}(h:e8c x0 x1 w R E):Cv pG 141 #[x0,x1] w R E:=okG (e8d) func141 h
def d9u(x0 x37 x38 x39 w)(next2:NT)(R:RT)(E):=
 opK pG E (bN .lss 3 39 38 x39 x38) w λc=>xC c
 (oN E (iA 52 x37 x39) λd=>oN E (lA 112 d) λf=>oN E (yA 112) λb=>oN E (sA 112 b f) λ_=>oN E (lA 112 b) λk=>oN E (xCall (fC 142) [x0,k]) λ_t45_21=>oN E (bC .add 3 39 x39 (vI 1)) λn=>next2 [n])
 (R (yU []))
def c9s(x0 x3 w)(R:RT)(E):=
 ∀_τ:Fr,(opK pG E (fA 112 x3 3) w λb=>oN E (lA 52 b) λa=>oN E (yN 52 a) λe=>xL [39] [(vI 0)] λg i next2=>d9u x0 a e (g 39) i next2 R E)
def e8e(x0 x1 w)(R:RT)(E):=
 opK pG E (yB 112 x1) w λa=>xK (λ_ s=>c9s x0 a s R E) λj1=>oN E (fA 112 a 0) λt=>oN E (lA 3 t) λk=>oN E (bC .eql 3 7 k (vI 2)) λy=>xC y
 (dN λb=>qP pG (xNil x0) λz=>qP pG (fA 184 z 0) λd=>qP pG (fA 112 a 2) λm=>qL pG b (blk d) (lA 182 d) λaa=>qL pG b (blk m) (lA 9 m) λab=>qP pG (yI 186 #[(0,ab),(1,(vI 1))]) λac=>opK pG E (yS 182 1 #[(0,ac)]) b λad e=>keepX [(blk d)] b e (opK pG E (yP 182 aa ad) e λae f=>keepX [] e f (qP pG (xNil x0) λaf=>qP pG (fA 184 af 0) λag=>opK pG E (sA 182 ag ae) f λ_ n=>keepX [] f n (j1 [] n))))
 (oN E (bC .eql 3 7 k (vI 4)) λah=>xC ah
 (dN λc=>qP pG (xNil x0) λai=>qP pG (fA 184 ai 0) λg=>qP pG (fA 112 a 2) λp=>qL pG c (blk g) (lA 182 g) λaj=>qL pG c (blk p) (lA 9 p) λak=>qP pG (yI 186 #[(0,ak),(1,(vI 2))]) λal=>opK pG E (yS 182 1 #[(0,al)]) c λam i=>keepX [(blk g)] c i (opK pG E (yP 182 aj am) i λan j=>keepX [] i j (qP pG (xNil x0) λao=>qP pG (fA 184 ao 0) λap=>opK pG E (sA 182 ap an) j λ_ q=>keepX [] j q (j1 [] q))))
 (j1 []))
def e8f:Hint:=(sQ (hU [] (sQ (hB (sQ (hC (.reg [(0,1024,1),(0,2048,1),(2,4096,2048),(4,8192,4096),(8,2^14,8192),(0,2^15,8),(32,2^16,2^15),(64,2^17,2^16),(128,2^18,2^17),(272,2^19,278528),(1023,2^20,1024),(2047,2^21,2^20),(3071,0,2621440)] [80,80,80,80,64,80,16,80,16,0,80,80,0] (eO 0 (eO 1 (eO 2 (eO 3 (eO 5 (lO 4 (lO 6 (eO 7 (sO 8 (sO 9 (eO 10 (eO 11 (sO 12 dO)))))))))))))) (sQ (hC (.reg [(0,2^24,1),(0,2^25,1),(2,2^26,2^25),(4,2^27,2^26),(8,2^28,2^27),(0,2^29,8),(32,2^30,2^29),(64,2^31,2^30),(128,2^32,2^31),(272,2^33,2^28+2^32),(1023,2^34,2^24),(2047,2^35,2^34),(3071,0,2^33+2^35)] [80,80,80,80,64,80,16,80,16,0,80,80,0] (eO 0 (eO 1 (eO 2 (eO 3 (eO 5 (lO 4 (lO 6 (eO 7 (sO 8 (sO 9 (eO 10 (eO 11 (sO 12 dO)))))))))))))) hN)))))) (sQ (hB (hL [39] (sQ (hS (hC hN hN) (hS (hB (sQ hN)) hN))))))))
theorem d9v{x0 x1}(h:e8e x0 x1 w R E):Cv pG 142 #[x0,x1] w R E:=okG (e8f) func142 h
def e8g(x0 w)(R:RT)(E):=
 opK pG E (yI 251 #[(5,(vI 3)),(6,(vI 4)),(7,(vI 5)),(8,(vI 6)),(9,(vI 7)),(10,(vI 8)),(3,(vI 9)),(4,(vI 10))]) w λa=>oN E (yX 251 a x0) λc=>R c
def e8h:Hint:=(sQ (sQ hN))
theorem d9w{x0}(h:e8g x0 w R E):Cv pG 143 #[x0] w R E:=okG (e8h) func143 h
def e8i(x0 x1 w)(R:RT)(E):=
 opK pG E (xNil x0) w λa=>oN E (fA 63 a 0) λc=>oN E (fA 31 c 1) λe=>oN E (lA 3 e) λg=>oN E (bC .add 3 11 x1 (vI 1)) λj=>oN E (xBuiltin .max #[3,3] 3 [false,false] [g,j]) λl=>oN E (xNil x0) λn=>oN E (fA 63 n 0) λp=>oN E (fA 31 p 1) λr=>oN E (sA 3 r l) λ_=>oN E (xNil x0) λu=>oN E (fA 63 u 0) λy=>oN E (fA 31 y 0) λaa=>oN E (lA 28 aa) λac=>oN E (yN 28 ac) λae=>oN E (bN .add 3 22 23 ae x1) λag=>R ag
def e8j:Hint:=(sQ (sQ (sQ hN)))
theorem d9x{x0 x1}(h:e8i x0 x1 w R E):Cv pG 144 #[x0,x1] w R E:=okG (e8j) func144 h
def e8k(x0 w)(R:RT)(E):=
 opK pG E (xV (Instr.typeAssert x0 149 200 true)) w λg=>oN E (xT g 1) λv=>oN E (xT g 0) λz=>xC v
 (oN E (yA 200) λj=>oN E (sA 200 j z) λ_=>oN E (fA 200 j 0) λac=>oN E (fA 65 ac 0) λae=>oN E (lA 9 ae) λag=>R (yU [ag,(vB true)]))
 (oN E (xV (Instr.typeAssert x0 149 202 true)) λk=>oN E (xT k 1) λaj=>oN E (xT k 0) λal=>xC aj
 (oN E (yA 202) λc=>oN E (sA 202 c al) λ_=>dN λd=>qP pG (fA 202 c 0) λao=>qP pG (fA 55 ao 1) λm=>qP pG (fA 202 c 0) λap=>qP pG (fA 55 ap 0) λn=>qL pG d (blk m) (lA 9 m) λaq=>qL pG d (blk n) (lA 3 n) λar=>qP pG (bC .eql 3 22 ar (vI 1)) λa=>qP pG (gNo a (fA 202 c 0)) λau=>qP pG (gNo a (fA 55 au 0)) λo=>qL pG d (blk o) (gNo a (lA 3 o)) λav=>qP pG (gNo a (bC .eql 3 27 av (vI 2))) λaw=>qP pG (xPick a (vB true) aw) λax=>R (yU [aq,ax]) d)
 (oN E (xV (Instr.typeAssert x0 149 253 true)) λp=>oN E (xT p 1) λaz=>oN E (xT p 0) λbb=>xC az
 (oN E (yA 253) λe=>oN E (sA 253 e bb) λ_=>dN λf=>qP pG (fA 253 e 0) λbe=>qP pG (fA 112 be 2) λr=>qP pG (fA 253 e 0) λbf=>qP pG (fA 112 bf 0) λs=>qL pG f (blk r) (lA 9 r) λbg=>qL pG f (blk s) (lA 3 s) λbh=>qP pG (bC .eql 3 38 bh (vI 2)) λb=>qP pG (gNo b (fA 253 e 0)) λbi=>qP pG (gNo b (fA 112 bi 0)) λt=>qL pG f (blk t) (gNo b (lA 3 t)) λbj=>qP pG (gNo b (bC .eql 3 43 bj (vI 4))) λbk=>qP pG (xPick b (vB true) bk) λbl=>R (yU [bg,bl]) f)
 (R (yU [(eS),(vB false)]))))
def e8l:Hint:=(sQ (hS (sQ (hB (sQ (hC (sQ (sQ hN)) (sQ (hC (sQ (hS (.reg [(0,2^17,32),(1,2^18,2^17),(2,2^19,2^18),(0,2^20,32),(8,2^21,2^20),(16,2^22,2^21),(32,2^23,2^22),(64,2^24,2^23),(128,2^25,16777248),(384,2^26,50331648),(640,2^27,83886080),(1152,2^28,150994944),(2176,2^29,285212672),(135,4,2^19),(16383,8,2^29)] [1060,1060,1056,1060,1060,1028,1060,1060,1060,1060,36,1060,1060,1060,1060] (eO 0 (eO 1 (eO 3 (eO 4 (lO 2 (lO 5 (eO 6 (eO 7 (eO 8 (eO 9 (eO 13 (lO 10 (eO 11 (eO 12 (eO 14 dO)))))))))))))))) hN)) (sQ (hC (sQ (hS (.reg [(0,2^33,64),(1,2^34,2^33),(2,2^35,2^34),(0,2^36,64),(8,2^37,2^36),(16,2^38,2^37),(32,2^39,2^38),(64,2^40,2^39),(128,2^41,2^6+2^40),(384,2^42,2^40+2^41),(640,2^43,2^40+2^42),(1152,2^44,2^40+2^43),(2176,2^45,2^40+2^44),(135,4,2^35),(16383,8,2^45)] [1060,1060,1056,1060,1060,1028,1060,1060,1060,1060,36,1060,1060,1060,1060] (eO 0 (eO 1 (eO 3 (eO 4 (lO 2 (lO 5 (eO 6 (eO 7 (eO 8 (eO 9 (eO 13 (lO 10 (eO 11 (eO 12 (eO 14 dO)))))))))))))))) hN)) hN)))))))) (sQ hN)))
theorem d9y{x0}(h:e8k x0 w R E):Cv pG 145 #[x0] w R E:=okG (e8l) func145 h
def c9t(w)(R:RT)(_E:Pan):=
 ∀_τ:Fr,(R (vB true) w)
def d9z(x21 w)(next2:NT)(j1:NT)(R:RT)(E):=
 opK pG E (xV (Instr.next x21 true 0)) w λc=>oN E (xT c 0) λi=>xC i
 (oN E (xT c 1) λj=>oN E (xT c 2) λe=>oN E (xCall (fC 164) [e]) λm=>oN E (yT m) λa=>oN E (gNo a (bC .eql 3 30 (gval (asB a) false j) (vI 0))) λb=>oN E (gsem (asB (gval (asB a) false b)) true (xCall (fC 127) [(gval (asB (gval (asB a) false b)) true e)])) λq=>oN E (gsem (asB (gval (asB a) false b)) true (bC .neq 3 34 q (vI 3))) λs=>oN E (gNo a (xPick (gval (asB a) false b) s (vB false))) λu=>oN E (xPick a (vB true) u) λy=>xC y
 (R (vB false))
 (next2 []))
 (j1 [])
def e8m(x0 w)(R:RT)(E):=
 opK pG E (bC .eql 9 5 x0 (eS)) w λa=>oN E (gNo a (xCall (fC 173) [(gval (asB a) false x0)])) λf=>oN E (gNo a (yT f)) λi=>oN E (xPick a (vB true) i) λb=>oN E (gNo b (xCall (fC 166) [(gval (asB b) false x0)])) λl=>oN E (xPick b (vB true) l) λc=>oN E (gNo c (xCall (fC 165) [(gval (asB c) false x0)])) λo=>oN E (xPick c (vB true) o) λq=>xC q
 (R (vB false))
 (xK (λ_ r=>c9t r R E) λj1=>oN E (xV (Instr.range 9 x0)) λs=>xL [] [] λ_ u next2=>d9z s u next2 j1 R E)
def e8n:Hint:=(sQ (hS (sQ (hC (sQ hN) hN)) (hU [] (sQ (hB (hL [] (sQ (hS (hC hN hN) (hB (sQ (sQ (hC (sQ hN) hN))))))))) (sQ hN))))
theorem d9A{x0}(h:e8m x0 w R E):Cv pG 146 #[x0] w R E:=okG (e8n) func146 h
def e8o(x0 x1 w)(R:RT)(E):=
 opK pG E (xCall (fC 174) [x0,x1]) w λa=>oN E (bC .geq 3 7 a (vI 0)) λc=>R c
def e8p:Hint:=(sQ (sQ hN))
theorem d9B{x0 x1}(h:e8o x0 x1 w R E):Cv pG 147 #[x0,x1] w R E:=okG (e8p) func147 h
def e8q(x0 x1 w)(R:RT)(E):=
 opK pG E (yN 9 x0) w λb=>oN E (yN 9 x1) λd=>oN E (bN .geq 3 6 8 b d) λa=>oN E (gYs a (yN 9 (gval (asB a) true x1))) λg=>oN E (gYs a (xV (Instr.sliceAt 9 (gval (asB a) true x0) none (some g) none))) λj=>oN E (gYs a (bN .eql 9 14 15 j (gval (asB a) true x1))) λl=>oN E (xPick a l (vB false)) λn=>R n
def e8r:Hint:=(sQ (sQ hN))
theorem d9C{x0 x1}(h:e8q x0 x1 w R E):Cv pG 150 #[x0,x1] w R E:=okG (e8r) func150 h
def e4b(x0 x1 w)(R:RT)(E):=
 opK pG E (lA 77 x0) w λa=>oN E (lA 115 x1) λc=>oN E (xCall (fC 87) [a,c]) λ_t4_5=>R (yU [])
def e8s:Hint:=hN
theorem d9D{x0 x1}(h:e4b x0 x1 w R E):Cv pG 158 #[x0,x1] w R E:=okG (e8s) func158 h
def e8t(x0 x1 w)(R:RT)(E):=
 opK pG E (yB 47 x0) w λb=>oN E (yA 47) λa=>oN E (bC .eql 21 5 x1 (Value.int .i32 10)) λi=>xC i
 (oN E (fA 47 b 0) λj=>oN E (lA 3 j) λl=>oN E (bC .add 3 8 l (vI 1)) λn=>oN E (yI 47 #[(0,n),(1,(vI 1))]) λp=>oN E (sA 47 a p) λ_=>xE 47 a λr=>R r)
 (oN E (fA 47 b 0) λs=>oN E (lA 3 s) λu=>oN E (fA 47 b 1) λy=>oN E (lA 3 y) λaa=>oN E (bC .add 3 14 aa (vI 1)) λac=>oN E (yI 47 #[(0,u),(1,ac)]) λae=>oN E (sA 47 a ae) λ_=>xE 47 a λag=>R ag)
def e8u:Hint:=(sQ (hS (sQ (hC (sQ hN) hN)) (sQ hN)))
theorem d9E{x0 x1}(h:e8t x0 x1 w R E):Cv pG 161 #[x0,x1] w R E:=okG (e8u) func161 h
def e8v(x0 x1 x2 w)(R:RT)(E):=
 opK pG E (lA 21 x2) w λb=>oN E (bN .leq 21 6 7 x0 b) λa=>oN E (gYs a (lA 21 x2)) λe=>oN E (gYs a (bN .leq 21 10 11 e (gval (asB a) true x1))) λg=>oN E (xPick a g (vB false)) λj=>R j
def e8w:Hint:=(sQ (sQ hN))
theorem d9F{x0 x1 x2}(h:e8v x0 x1 x2 w R E):Cv pG 162 #[x0,x1,x2] w R E:=okG (e8w) func162 h
def e8x(x0 w)(R:RT)(E):=
 opK pG E (xCall (fC 129) [x0]) w λc=>oN E (xCall (fC 123) [c]) λa=>oN E (xT a 0) λf=>oN E (xT a 1) λi=>oN E (xNil x0) λk=>oN E (fA 167 k 1) λm=>oN E (lA 3 m) λo=>oN E (bN .add 3 13 14 o i) λq=>oN E (xNil x0) λs=>oN E (fA 167 s 1) λu=>oN E (sA 3 u q) λ_=>oN E (xNil x0) λz=>oN E (fA 167 z 2) λab=>oN E (fA 47 ab 1) λad=>oN E (lA 3 ad) λaf=>oN E (bC .add 3 22 af (vI 1)) λah=>oN E (xNil x0) λaj=>oN E (fA 167 aj 2) λal=>oN E (fA 47 al 1) λan=>oN E (sA 3 an ah) λ_=>oN E (bC .eql 21 27 f (Value.int .i32 10)) λaq=>xC aq
 (oN E (xNil x0) λar=>oN E (fA 167 ar 2) λav=>oN E (fA 47 av 0) λax=>oN E (lA 3 ax) λaz=>oN E (bC .add 3 34 az (vI 1)) λbb=>oN E (yI 47 #[(0,bb),(1,(vI 1))]) λbd=>oN E (xNil x0) λbf=>oN E (fA 167 bf 2) λbh=>oN E (sA 47 bh bd) λ_=>R (yU []))
 (R (yU []))
def e8y:Hint:=(sQ (sQ (sQ (sQ (hC hN hN)))))
theorem d9G{x0}(h:e8x x0 w R E):Cv pG 163 #[x0] w R E:=okG (e8y) func163 h
def e8z(x0 w)(R:RT)(E):=
 opK pG E (xCall (fC 127) [x0]) w λb=>oN E (bC .eql 3 6 b (vI 3)) λa=>oN E (gNo a (bC .eql 3 9 (gval (asB a) false b) (vI 4))) λe=>oN E (xPick a (vB true) e) λg=>R g
def e8A:Hint:=(sQ (sQ (sQ hN)))
theorem d9H{x0}(h:e8z x0 w R E):Cv pG 164 #[x0] w R E:=okG (e8A) func164 h
def c9u(x4 w)(R:RT)(_E:Pan):=
 ∀_τ:Fr,(xcond x4
 (R (vB true) w)
 (R (vB false) w))
def e8B(x0 w)(R:RT)(E):=
 xcut (λv y=>c9u (nth v 0) y R E) λj1=>(oN E (bC .eql 9 3 x0 (Value.string ⟨#[118,97,114]⟩)) λa=>xC a
 (j1 [a])
 (oN E (bC .eql 9 3 x0 (Value.string ⟨#[97,114,114,97,121]⟩)) λc=>xC c
 (j1 [c])
 (oN E (bC .eql 9 3 x0 (Value.string ⟨#[105,102]⟩)) λe=>xC e
 (j1 [e])
 (oN E (bC .eql 9 3 x0 (Value.string ⟨#[101,108,115,101]⟩)) λg=>xC g
 (j1 [g])
 (oN E (bC .eql 9 3 x0 (Value.string ⟨#[119,104,105,108,101]⟩)) λj=>xC j
 (j1 [j])
 (oN E (bC .eql 9 3 x0 (Value.string ⟨#[97,115,115,101,114,116]⟩)) λl=>xC l
 (j1 [l])
 (oN E (bC .eql 9 3 x0 (Value.string ⟨#[97,115,115,117,109,101]⟩)) λn=>xC n
 (j1 [n])
 (oN E (bC .eql 9 3 x0 (Value.string ⟨#[115,107,105,112]⟩)) λp=>xC p
 (j1 [p])
 (oN E (bC .eql 9 3 x0 (Value.string ⟨#[105,110,112,117,116]⟩)) λr=>xC r
 (j1 [r])
 (oN E (bC .eql 9 3 x0 (Value.string ⟨#[116,114,117,101]⟩)) λt=>xC t
 (j1 [t])
 (oN E (bC .eql 9 3 x0 (Value.string ⟨#[102,97,108,115,101]⟩)) λz=>j1 [z]))))))))))) w
def e8C:Hint:=(sQ (hS (sQ (hB (hU [4] (sQ (hC hN (sQ (hC hN (sQ (hC hN (sQ (hC hN (sQ (hC hN (sQ (hC hN (sQ (hC hN (sQ (hC hN (sQ (hC hN (sQ (hC hN hN)))))))))))))))))))) (hC (sQ hN) hN)))) (sQ hN)))
theorem d9I{x0}(h:e8B x0 w R E):Cv pG 165 #[x0] w R E:=okG (e8C) func165 h
def e8D(x0 w)(R:RT)(E):=
 opK pG E (xCall (fC 178) [x0]) w λa=>oN E (bC .gtr 3 4 a (vI 32)) λc=>R c
def e8E:Hint:=(sQ (sQ hN))
theorem d9J{x0}(h:e8D x0 w R E):Cv pG 166 #[x0] w R E:=okG (e8E) func166 h
def e8F(x0 w)(R:RT)(E):=
 opK pG E (xCall (fC 127) [x0]) w λa=>oN E (bC .eql 3 4 a (vI 4)) λc=>R c
def e8G:Hint:=(sQ (sQ hN))
theorem d9K{x0}(h:e8F x0 w R E):Cv pG 167 #[x0] w R E:=okG (e8G) func167 h
end
section
variable {w:World}{R:RT}{E:Pan}
def c9v(w)(R:RT)(_E:Pan):=
 ∀_τ:Fr,(R (vI 0) w)
def d9L(x0 x3 x8 x9 x10 w)(next2:NT)(j1:NT)(R:RT)(E):=
 opK pG E (bN .lss 3 10 9 x10 x9) w λc=>xC c
 (oN E (iA 28 x8 x10) λd=>oN E (lA 9 d) λf=>oN E (xCall (fC 96) [x0,f]) λi=>xC i
 (oN E (fA 228 x3 1) λj=>oN E (lA 26 j) λl=>oN E (iA 26 l x10) λn=>oN E (lA 3 n) λp=>R p)
 (oN E (bC .add 3 10 x10 (vI 1)) λr=>next2 [r]))
 (j1 [])
def e8H(x0 x1 w)(R:RT)(E):=
 opK pG E (yB 228 x1) w λa=>xK (λ_ d=>c9v d R E) λj1=>oN E (fA 228 a 0) λe=>oN E (lA 28 e) λb=>oN E (yN 28 b) λi=>xL [10] [(vI 0)] λk l next2=>d9L x0 a b i (k 10) l next2 j1 R E
def e8I:Hint:=(sQ (hU [] (sQ (hB (hL [10] (sQ (hS (hC hN hN) (hS (hB (sQ (sQ (hC (sQ hN) hN)))) hN)))))) (sQ hN)))
theorem d9M{x0 x1}(h:e8H x0 x1 w R E):Cv pG 169 #[x0,x1] w R E:=okG (e8I) func169 h
def c9w(x0 x1 x4 w)(R:RT)(E):=
 ∀_τ:Fr,(opK pG E (xCall (fC 95) [x0]) w λl=>oN E (yA 127) λa=>oN E (sA 127 a l) λ_=>oN E (fA 127 a 0) λp=>oN E (lA 3 p) λr=>oN E (bC .eql 3 40 r (vI 2)) λt=>xC t
 (oN E (fA 127 a 2) λu=>oN E (lA 2 u) λy=>oN E (yI 112 #[(0,(vI 1)),(1,y)]) λaa=>oN E (sA 112 x4 aa) λ_=>xE 112 x4 λac=>R ac)
 (oN E (xCall (fC 96) [x0,(Value.string ⟨#[91]⟩)]) λad=>oN E (yT ad) λaf=>xC af
 (oN E (fA 127 a 1) λag=>oN E (lA 9 ag) λai=>oN E (yI 112 #[(0,(vI 2)),(2,ai)]) λak=>oN E (sA 112 x4 ak) λ_=>xE 112 x4 λam=>R am)
 (dN λc=>qP pG (fA 127 a 1) λb=>qL pG c (blk b) (lA 9 b) λan=>opK pG E (xCall (fC 97) [x0,x1,(Value.string ⟨#[93]⟩)]) c λao d=>keepX [(blk b)] c d (opK pG E (yS 52 1 #[(0,ao)]) d λap e=>keepX [(blk b)] d e (qP pG (yI 112 #[(0,(vI 4)),(2,an),(3,ap)]) λaq=>opK pG E (sA 112 x4 aq) e λ_ f=>keepX [] e f (xcell pG 112 x4 f λar=>R ar f))))))
def e8J(x0 x1 w)(R:RT)(E):=
 opK pG E (yA 112) w λa=>xK (λ_ k=>c9w x0 x1 a k R E) λj1=>oN E (xCall (fC 135) [x0]) λl=>oN E (yT l) λn=>xC n
 (oN E (xCall (fC 56) [x0]) λ_t11_54=>j1 [])
 (oN E (xCall (fC 96) [x0,(Value.string ⟨#[45]⟩)]) λp=>xC p
 (oN E (bC .add 3 16 x1 (vI 1)) λq=>oN E (xCall (fC 135) [x0]) λs=>oN E (xCall (fC 59) [x0,q,s]) λ_t20_62=>oN E (bC .add 3 22 x1 (vI 1)) λv=>oN E (xCall (fC 170) [x0,v]) λz=>oN E (yS 52 1 #[(0,z)]) λab=>oN E (yI 112 #[(0,(vI 5)),(3,ab)]) λad=>oN E (sA 112 a ad) λ_=>xE 112 a λaf=>R af)
 (oN E (xCall (fC 96) [x0,(Value.string ⟨#[40]⟩)]) λag=>xC ag
 (oN E (xCall (fC 97) [x0,x1,(Value.string ⟨#[41]⟩)]) λah=>oN E (sA 112 a ah) λ_=>xE 112 a λaj=>R aj)
 (oN E (xCall (fC 96) [x0,(Value.string ⟨#[105,110,112,117,116]⟩)]) λak=>xC ak
 (oN E (yI 112 #[(0,(vI 3))]) λal=>oN E (sA 112 a al) λ_=>xE 112 a λan=>R an)
 (j1 []))))
def e8K:Hint:=(sQ (hU [] (hB (sQ (hC hN (sQ (hC (sQ (sQ hN)) (sQ (hC (sQ hN) (sQ (hC (sQ hN) hN))))))))) (sQ (hS (sQ (hC (sQ hN) hN)) (hS (sQ (hC (sQ hN) hN)) (hS (.reg [(0,2^51,32),(1,2^52,2^51),(0,2^53,1),(0,2^54,2),(12,2^55,2^53+2^54),(16,2^56,2^55),(34,2^57,2^52+2^56),(127,0,2^4+2^57)] [2,0,2,2,2,2,2,0] (eO 0 (eO 2 (eO 3 (lO 1 (sO 4 (sO 5 (eO 6 (sO 7 dO))))))))) hN))))))
theorem d9N{x0 x1}(h:e8J x0 x1 w R E):Cv pG 170 #[x0,x1] w R E:=okG (e8K) func170 h
def e8L(x0 w)(R:RT)(E):=
 opK pG E (xCall (fC 135) [x0]) w λa=>oN E (gNo a (xCall (fC 57) [(gval (asB a) false x0),(Value.string ⟨#[116,114,117,101]⟩)])) λf=>oN E (xPick a (vB true) f) λb=>oN E (gNo b (xCall (fC 57) [(gval (asB b) false x0),(Value.string ⟨#[102,97,108,115,101]⟩)])) λj=>oN E (xPick b (vB true) j) λc=>oN E (gNo c (xCall (fC 57) [(gval (asB c) false x0),(Value.string ⟨#[33]⟩)])) λm=>oN E (xPick c (vB true) m) λd=>oN E (gNo d (xCall (fC 57) [(gval (asB d) false x0),(Value.string ⟨#[91]⟩)])) λp=>oN E (xPick d (vB true) p) λr=>R r
def e8M:Hint:=(sQ (sQ hN))
theorem d9O{x0}(h:e8L x0 w R E):Cv pG 171 #[x0] w R E:=okG (e8M) func171 h
def c9x(x0 w)(R:RT)(E):=
 ∀_τ:Fr,(oP E (xCall (fC 56) [x0]) w λ_t22_7 a=>R (vI 0) a)
def d9P(x0 x7 x8 w)(next2:NT)(j1:NT)(R:RT)(E):=
 opK pG E (bC .lss 3 8 x8 (vI 7)) w λd=>xC d
 (oN E (yX 263 x7 x8) λe=>oN E (bC .gtr 3 12 x8 (vI 0)) λa=>oN E (gYs a (xCall (fC 96) [(gval (asB a) true x0),(gval (asB a) true e)])) λi=>oN E (xPick a i (vB false)) λk=>xC k
 (R x8)
 (oN E (bC .add 3 8 x8 (vI 1)) λl=>next2 [l]))
 (j1 [])
def e8N(x0 w)(R:RT)(E):=
 opK pG E (yI 263 #[(0,(eS)),(1,(Value.string ⟨#[60]⟩)),(2,(Value.string ⟨#[60,61]⟩)),(3,(Value.string ⟨#[61,61]⟩)),(4,(Value.string ⟨#[33,61]⟩)),(5,(Value.string ⟨#[62]⟩)),(6,(Value.string ⟨#[62,61]⟩))]) w λb=>oN E (yA 263) λa=>oN E (sA 263 a b) λ_=>xK (λ_ f=>c9x x0 f R E) λj1=>oN E (lA 263 a) λg=>xL [8] [(vI 0)] λj k next2=>d9P x0 g (j 8) k next2 j1 R E
def e8O:Hint:=(sQ (sQ (hU [] (sQ (hB (hL [8] (sQ (hS (hC hN hN) (hS (hB (sQ (sQ (hC (sQ hN) hN)))) hN)))))) (sQ (sQ hN)))))
theorem d9Q{x0}(h:e8N x0 w R E):Cv pG 172 #[x0] w R E:=okG (e8O) func172 h
def c9y(w)(R:RT)(_E:Pan):=
 ∀_τ:Fr,(R (vI (-1)) w)
def d9R(x0 x1 x7 x8 w)(next2:NT)(j1:NT)(R:RT)(E):=
 opK pG E (bN .lss 3 8 7 x8 x7) w λc=>xC c
 (oN E (iA 28 x0 x8) λd=>oN E (lA 9 d) λf=>oN E (bN .eql 9 11 15 x1 f) λi=>xC i
 (R x8)
 (oN E (bC .add 3 8 x8 (vI 1)) λj=>next2 [j]))
 (j1 [])
def e8P(x0 x1 w)(R:RT)(E):=
 xcut (λ_ a=>c9y a R E) λj1=>(oN E (yN 28 x0) λb=>xL [8] [(vI 0)] λd e next2=>d9R x0 x1 b (d 8) e next2 j1 R E) w
def e8Q:Hint:=(sQ (hU [] (sQ (hB (hL [8] (sQ (hS (hC hN hN) (hS (hB (sQ (sQ (hC (sQ hN) hN)))) hN)))))) (sQ hN)))
theorem d9S{x0 x1}(h:e8P x0 x1 w R E):Cv pG 174 #[x0,x1] w R E:=okG (e8Q) func174 h
def e8R(x0 w)(R:RT)(E):=
 opK pG E (yB 200 x0) w λb=>oN E (fA 200 b 0) λd=>oN E (fA 65 d 1) λf=>oN E (lA 3 f) λi=>oN E (bC .geq 3 5 i (vI 0)) λa=>oN E (gYs a (fA 200 b 0)) λl=>oN E (gYs a (fA 65 l 1)) λn=>oN E (gYs a (lA 3 n)) λp=>oN E (gYs a (bC .leq 3 10 p (vI 2147483647))) λr=>oN E (xPick a r (vB false)) λt=>R t
def e8S:Hint:=(sQ (sQ hN))
theorem d9T{x0}(h:e8R x0 w R E):Cv pG 208 #[x0] w R E:=okG (e8S) func208 h
def e8T(x0 w)(R:RT)(E):=
 opK pG E (yB 200 x0) w λ_t1_1=>R (nS)
def e8U:Hint:=(sQ (sQ hN))
theorem d9U{x0}(h:e8T x0 w R E):Cv pG 209 #[x0] w R E:=okG (e8U) func209 h
def c9z(x4 x5 x35 x83 w)(R:RT)(E):=
 ∀_τ:Fr,(xcond x83
 ((oN E (gYs x5 (lA 294 x4)) λb=>oN E (gYs x5 (yI 294 #[(0,(vI 0)),(1,(vI 1))])) λd=>oN E (gYs x5 (bN .eql 294 88 89 b d)) λf=>oN E (xPick x5 f (vB false)) λi=>R i) w)
 ((oN E (bC .eql 3 35 x35 (vI 7)) λk=>xC k
 (oN E (gYs x5 (lA 294 x4)) λl=>oN E (gYs x5 (yI 294 #[])) λn=>oN E (gYs x5 (bN .eql 294 96 97 l n)) λp=>oN E (xPick x5 p (vB false)) λr=>R r)
 (R (vB false))) w))
def e8V(x0 w)(R:RT)(E):=
 opK pG E (yB 202 x0) w λa=>oN E (fA 202 a 0) λs=>oN E (fA 55 s 4) λu=>oN E (lA 23 u) λy=>oN E (yN 23 y) λaa=>oN E (fA 202 a 0) λac=>oN E (fA 55 ac 5) λae=>oN E (lA 23 ae) λag=>oN E (yN 23 ag) λai=>oN E (bN .add 3 9 13 aa ai) λak=>oN E (bC .gtr 3 14 ak (vI 0)) λj=>oN E (fA 202 a 0) λan=>oN E (fA 55 an 2) λap=>oN E (lA 52 ap) λar=>oN E (yN 52 ar) λav=>oN E (fA 202 a 0) λax=>oN E (fA 55 ax 3) λaz=>oN E (lA 53 az) λbb=>oN E (yN 53 bb) λbd=>oN E (yI 294 #[(0,av),(1,bd)]) λbf=>oN E (yA 294) λc=>oN E (sA 294 c bf) λ_=>oN E (fA 202 a 0) λbj=>oN E (fA 55 bj 1) λbl=>oN E (lA 9 bl) λbn=>oN E (bC .eql 9 27 bn (eS)) λk=>oN E (gYs k (yT (gval (asB k) true j))) λbq=>oN E (xPick k bq (vB false)) λbs=>oN E (fA 202 a 0) λbu=>oN E (fA 55 bu 0) λbw=>oN E (lA 3 bw) λb=>oN E (bC .eql 3 35 b (vI 1)) λcb=>xC cb
 (oN E (yT j) λe=>oN E (gYs e (lA 294 c)) λcd=>oN E (gYs e (yI 294 #[(0,(vI 1)),(1,(vI 0))])) λcf=>oN E (gYs e (bN .eql 294 41 42 cd cf)) λch=>oN E (xPick e ch (vB false)) λcj=>R cj)
 (oN E (bC .eql 3 35 b (vI 2)) λcl=>xC cl
 (oN E (yT j) λf=>oN E (gYs f (lA 294 c)) λcn=>oN E (gYs f (yI 294 #[(0,(vI 2)),(1,(vI 0))])) λcp=>oN E (gYs f (bN .eql 294 50 51 cn cp)) λcr=>oN E (xPick f cr (vB false)) λct=>R ct)
 (oN E (bC .eql 3 35 b (vI 3)) λcv=>xC cv
 (oN E (fA 202 a 0) λcw=>oN E (fA 55 cw 1) λcy=>oN E (lA 9 cy) λda=>oN E (bC .eql 9 58 da (eS)) λg=>oN E (gYs g (lA 294 c)) λdd=>oN E (gYs g (yI 294 #[(0,(vI 0)),(1,(vI 1))])) λdf=>oN E (gYs g (bN .eql 294 61 62 dd df)) λdh=>oN E (xPick g dh (vB false)) λdj=>R dj)
 (oN E (bC .eql 3 35 b (vI 4)) λdl=>xC dl
 (oN E (fA 202 a 0) λdm=>oN E (fA 55 dm 1) λdp=>oN E (lA 9 dp) λdr=>oN E (bC .eql 9 69 dr (eS)) λd=>oN E (gYs d (fA 202 a 0)) λdu=>oN E (gYs d (fA 55 du 5)) λdw=>oN E (gYs d (lA 23 dw)) λdy=>oN E (gYs d (yN 23 dy)) λea=>oN E (gYs d (bC .eql 3 75 ea (vI 0))) λec=>oN E (xPick d ec (vB false)) λi=>oN E (gYs i (lA 294 c)) λef=>oN E (gYs i (yI 294 #[(0,(vI 0)),(1,(vI 1))])) λeh=>oN E (gYs i (bN .eql 294 79 80 ef eh)) λej=>oN E (xPick i ej (vB false)) λel=>R el)
 (xK (λen eo=>c9z c bs b (nth en 0) eo R E) λj1=>oN E (bC .eql 3 35 b (vI 5)) λp=>xC p
 (j1 [p])
 (oN E (bC .eql 3 35 b (vI 6)) λep=>j1 [ep])))))
def e8W:Hint:=(sQ (sQ (sQ (sQ (hS (sQ (hB (sQ (hC (sQ hN) (sQ (hC (sQ hN) (sQ (hC (sQ hN) (sQ (hC (sQ hN) (hU [83] (sQ (hC hN hN)) (hC (sQ hN) (sQ (hC (sQ hN) hN)))))))))))))) (sQ hN))))))
theorem d9V{x0}(h:e8V x0 w R E):Cv pG 210 #[x0] w R E:=okG (e8W) func210 h
def e8X(x0 w)(R:RT)(E):=
 opK pG E (yB 202 x0) w λc n=>dX n λa=>qP pG (fA 202 c 0) λo=>qP pG (fA 55 o 3) λl=>qP pG (fA 202 c 0) λp=>qP pG (fA 55 p 2) λe=>qP pG (fA 202 c 0) λq=>qP pG (fA 55 q 4) λd=>qP pG (fA 202 c 0) λr=>qP pG (fA 55 r 5) λb=>qL pG a (blk l) (lA 53 l) λs=>qL pG a (blk e) (lA 52 e) λt=>qL pG a (blk d) (lA 23 d) λu=>qL pG a (blk b) (lA 23 b) λv=>oP E (xCall (fC 212) [s,(fC 213)]) a λy f=>keepX [(blk b),(blk d),(blk e)] a f (opK pG E (xCall (fC 214) [t,(fC 215)]) f λz g=>keepX [(blk b),(blk d)] f g (opK pG E (xCall (fC 77) [u,(fC 78)]) g λaa i=>keepX [(blk b)] g i (opK pG E (xCall (fC 77) [v,(fC 78)]) i λab j=>keepX [] i j (opK pG E (yS 197 4 #[(0,y),(1,z),(2,aa),(3,ab)]) j λac k=>keepX [] j k (opK pG E (xCall (fC 74) [ac]) k λad m=>keepX [] k m (R ad m))))))
def e8Y:Hint:=(sQ (hS (.reg [(0,8,2),(1,16,8),(2,32,16),(4,64,32),(0,128,2),(16,256,128),(32,512,256),(72,1024,512),(0,2048,2),(256,4096,2048),(512,8192,4096),(1152,2^14,8192),(0,2^15,2),(4096,2^16,2^15),(8192,2^17,2^16),(18432,2^18,2^17),(34952,2^19,279616),(98304,2^20,2^19),(262143,4,2^20)] [17476,17476,17472,17472,17476,17476,17412,17408,17476,17476,16452,2^14,17476,17476,1092,0,0,0,17476] (eO 0 (eO 1 (eO 4 (eO 5 (eO 8 (eO 9 (eO 12 (eO 13 (lO 2 (lO 6 (lO 10 (lO 14 (sO 3 (sO 7 (sO 11 (sO 15 (sO 16 (sO 17 (eO 18 dO)))))))))))))))))))) hN))
theorem d9W{x0}(h:e8X x0 w R E):Cv pG 211 #[x0] w R E:=okG (e8Y) func211 h
def c9A(x5 w)(R:RT)(_E:Pan):=
 ∀_τ:Fr,(R x5 w)
def d9X(x1 x5 x8 x9 x10 w)(next2:NT)(j1:NT)(_R:RT)(E):=
 opK pG E (bN .lss 3 10 9 x10 x9) w λc=>xC c
 (oN E (iA 53 x8 x10) λd=>oN E (lA 115 d) λf=>oN E (yA 115) λb=>oN E (sA 115 b f) λ_=>oN E (lA 115 b) λk=>oN E (xCall x1 [k]) λm=>oN E (yS 146 1 #[(0,m)]) λo=>oN E (yP 146 x5 o) λq=>oN E (bC .add 3 10 x10 (vI 1)) λs=>next2 [q,s])
 (j1 [x5])
def e8Z(x0 x1 w)(R:RT)(E):=
 xcut (λb c=>c9A (nth b 0) c R E) λj1=>(oN E (yN 53 x0) λd=>xL [5,10] [(nS),(vI 0)] λa f next2=>d9X x1 (a 5) x0 d (a 10) f next2 j1 R E) w
def e9a:Hint:=(sQ (sQ (hU [5] (sQ (hB (hL [5,10] (sQ (hS (hC hN hN) (hS (hB (sQ hN)) hN)))))) (sQ hN))))
theorem d9Y{x0 x1}(h:e8Z x0 x1 w R E):Cv pG 212 #[x0,x1] w R E:=okG (e9a) func212 h
def e9b(x0 w)(R:RT)(E):=
 opK pG E (yB 115 x0) w λa=>oN E (lA 115 a) λc=>oN E (yI 300 #[(0,c)]) λe=>oN E (yE 300 e) λg=>R g
def e9c:Hint:=(sQ (sQ hN))
theorem d9Z{x0}(h:e9b x0 w R E):Cv pG 213 #[x0] w R E:=okG (e9c) func213 h
def c9B(x5 w)(R:RT)(_E:Pan):=
 ∀_τ:Fr,(R x5 w)
def e0a(x1 x5 x8 x9 x10 w)(next2:NT)(j1:NT)(_R:RT)(E):=
 opK pG E (bN .lss 3 10 9 x10 x9) w λc=>xC c
 (oN E (iA 52 x8 x10) λd=>oN E (lA 112 d) λf=>oN E (yA 112) λb=>oN E (sA 112 b f) λ_=>oN E (lA 112 b) λk=>oN E (xCall x1 [k]) λm=>oN E (yS 146 1 #[(0,m)]) λo=>oN E (yP 146 x5 o) λq=>oN E (bC .add 3 10 x10 (vI 1)) λs=>next2 [q,s])
 (j1 [x5])
def e9d(x0 x1 w)(R:RT)(E):=
 xcut (λb c=>c9B (nth b 0) c R E) λj1=>(oN E (yN 52 x0) λd=>xL [5,10] [(nS),(vI 0)] λa f next2=>e0a x1 (a 5) x0 d (a 10) f next2 j1 R E) w
def e9e:Hint:=(sQ (sQ (hU [5] (sQ (hB (hL [5,10] (sQ (hS (hC hN hN) (hS (hB (sQ hN)) hN)))))) (sQ hN))))
theorem e0b{x0 x1}(h:e9d x0 x1 w R E):Cv pG 214 #[x0,x1] w R E:=okG (e9e) func214 h
def e9f(x0 w)(R:RT)(E):=
 opK pG E (yB 112 x0) w λa=>oN E (lA 112 a) λc=>oN E (yI 253 #[(0,c)]) λe=>oN E (yE 253 e) λg=>R g
def e9g:Hint:=(sQ (sQ hN))
theorem e0c{x0}(h:e9f x0 w R E):Cv pG 215 #[x0] w R E:=okG (e9g) func215 h
def c9C(x3 x59 w)(R:RT)(E):=
 ∀_τ:Fr,(xcond x59
 (oP E (bC .eql 3 65 x3 (vI 2)) w λa b=>R a b)
 (R (vB false) w))
def c9D(x3 x38 x54 w)(R:RT)(E):=
 ∀_τ:Fr,(xcond x54
 (opK pG E (bC .eql 3 57 x3 (vI 1)) w λj k=>R j k)
 (xcut (λl m=>c9C x3 (nth l 0) m R E) λj3=>(oN E (bC .eql 3 38 x38 (vI 6)) λa=>xC a
 (j3 [a])
 (oN E (bC .eql 3 38 x38 (vI 7)) λc=>xC c
 (j3 [c])
 (oN E (bC .eql 3 38 x38 (vI 8)) λe=>xC e
 (j3 [e])
 (oN E (bC .eql 3 38 x38 (vI 9)) λg=>xC g
 (j3 [g])
 (oN E (bC .eql 3 38 x38 (vI 10)) λn=>j3 [n]))))) w))
def c9E(x3 x38 x49 w)(R:RT)(E):=
 ∀_τ:Fr,(xcond x49
 (opK pG E (bC .eql 3 52 x3 (vI 0)) w λc d=>R c d)
 (xcut (λe f=>c9D x3 x38 (nth e 0) f R E) λj2=>(oN E (bC .eql 3 38 x38 (vI 4)) λa=>xC a
 (j2 [a])
 (oN E (bC .eql 3 38 x38 (vI 5)) λg=>j2 [g])) w))
def e9h(x0 w)(R:RT)(E):=
 opK pG E (yB 253 x0) w λb=>oN E (fA 253 b 0) λo=>oN E (fA 112 o 3) λq=>oN E (lA 52 q) λs=>oN E (yN 52 s) λg=>oN E (lA 253 b) λv=>oN E (yE 253 v) λz=>oN E (xCall (fC 145) [z]) λi=>oN E (xT i 0) λ_t14_17=>oN E (xT i 1) λad=>oN E (fA 253 b 0) λaf=>oN E (fA 112 af 0) λah=>oN E (lA 3 ah) λaj=>oN E (bC .neq 3 18 aj (vI 1)) λc=>oN E (gYs c (fA 253 b 0)) λam=>oN E (gYs c (fA 112 am 1)) λao=>oN E (gYs c (lA 2 ao)) λaq=>oN E (gYs c (bC .neq 2 23 aq (vI 0))) λau=>oN E (xPick c au (vB false)) λa=>oN E (gNo a (yT (gval (asB a) false ad))) λd=>oN E (gsem (asB (gval (asB a) false d)) true (fA 253 b 0)) λay=>oN E (gsem (asB (gval (asB a) false d)) true (fA 112 ay 2)) λba=>oN E (gsem (asB (gval (asB a) false d)) true (lA 9 ba)) λbc=>oN E (gsem (asB (gval (asB a) false d)) true (bC .neq 9 32 bc (eS))) λbe=>oN E (gNo a (xPick (gval (asB a) false d) be (vB false))) λbg=>oN E (xPick a (vB true) bg) λbi=>xC bi
 (R (vB false))
 (oN E (fA 253 b 0) λbj=>oN E (fA 112 bj 0) λbl=>oN E (lA 3 bl) λe=>oN E (bC .eql 3 38 e (vI 1)) λbo=>xC bo
 (oN E (fA 253 b 0) λbp=>oN E (fA 112 bp 1) λbr=>oN E (lA 2 br) λbt=>oN E (bC .geq 2 43 bt (vI 0)) λf=>oN E (gYs f (bC .eql 3 46 (gval (asB f) true g) (vI 0))) λbw=>oN E (xPick f bw (vB false)) λca=>R ca)
 (xK (λcc cd=>c9E g e (nth cc 0) cd R E) λj1=>oN E (bC .eql 3 38 e (vI 2)) λl=>xC l
 (j1 [l])
 (oN E (bC .eql 3 38 e (vI 3)) λce=>j1 [ce])))
def e9i:Hint:=(sQ (sQ (sQ (hS (sQ (hC (sQ hN) hN)) (hS (sQ (hB (sQ (hC (sQ hN) (hU [49] (sQ (hC hN hN)) (hC (sQ hN) (hU [54] (sQ (hC hN hN)) (hC (sQ hN) (hU [59] (sQ (hC hN (sQ (hC hN (sQ (hC hN (sQ (hC hN hN)))))))) (hC (sQ hN) hN)))))))))) (sQ hN))))))
theorem e0d{x0}(h:e9h x0 w R E):Cv pG 216 #[x0] w R E:=okG (e9i) func216 h
def e9j(x0 w)(R:RT)(E):=
 opK pG E (yB 253 x0) w λa=>oN E (fA 253 a 0) λc=>oN E (fA 112 c 3) λe=>oN E (lA 52 e) λg=>oN E (xCall (fC 214) [g,(fC 215)]) λj=>R j
def e9k:Hint:=(sQ (sQ hN))
theorem e0e{x0}(h:e9j x0 w R E):Cv pG 217 #[x0] w R E:=okG (e9k) func217 h
def c9F(x3 x50 w)(R:RT)(E):=
 ∀_τ:Fr,(xcond x50
 ((oN E (lA 302 x3) λa=>oN E (yI 302 #[(0,(vI 0)),(1,(vI 2))]) λc=>oN E (bN .eql 302 53 54 a c) λe=>R e) w)
 (R (vB false) w))
def c9G(x3 x38 x39 w)(R:RT)(E):=
 ∀_τ:Fr,(xcond x39
 ((oN E (lA 302 x3) λd=>oN E (yI 302 #[]) λf=>oN E (bN .eql 302 42 43 d f) λi=>R i) w)
 ((oN E (bC .eql 3 38 x38 (vI 4)) λk=>xC k
 (oN E (lA 302 x3) λl=>oN E (yI 302 #[(0,(vI 0)),(1,(vI 1))]) λn=>oN E (bN .eql 302 47 48 l n) λp=>R p)
 (xK (λr s=>c9F x3 (nth r 0) s R E) λj2=>oN E (bC .eql 3 38 x38 (vI 5)) λb=>xC b
 (j2 [b])
 (oN E (bC .eql 3 38 x38 (vI 6)) λt=>j2 [t]))) w))
def e9l(x0 w)(R:RT)(E):=
 opK pG E (yB 300 x0) w λa=>oN E (fA 300 a 0) λl=>oN E (fA 115 l 2) λn=>oN E (lA 52 n) λp=>oN E (yN 52 p) λr=>oN E (fA 300 a 0) λt=>oN E (fA 115 t 3) λv=>oN E (lA 53 v) λz=>oN E (yN 53 z) λab=>oN E (yI 302 #[(0,r),(1,ab)]) λad=>oN E (yA 302) λd=>oN E (sA 302 d ad) λ_=>oN E (fA 300 a 0) λah=>oN E (fA 115 ah 0) λaj=>oN E (lA 3 aj) λal=>oN E (bC .eql 3 15 al (vI 3)) λan=>xC an
 (oN E (fA 300 a 0) λao=>oN E (fA 115 ao 1) λaq=>oN E (lA 3 aq) λau=>oN E (bC .geq 3 19 au (vI 1)) λb=>oN E (gYs b (fA 300 a 0)) λax=>oN E (gYs b (fA 115 ax 1)) λaz=>oN E (gYs b (lA 3 az)) λbb=>oN E (gYs b (bC .leq 3 24 bb (vI 6))) λbd=>oN E (xPick b bd (vB false)) λc=>oN E (gYs c (lA 302 d)) λbg=>oN E (gYs c (yI 302 #[(0,(vI 2)),(1,(vI 0))])) λbi=>oN E (gYs c (bN .eql 302 28 29 bg bi)) λbk=>oN E (xPick c bk (vB false)) λbm=>R bm)
 (oN E (fA 300 a 0) λbo=>oN E (fA 115 bo 1) λbq=>oN E (lA 3 bq) λbs=>oN E (bC .neq 3 34 bs (vI 0)) λbu=>xC bu
 (R (vB false))
 (oN E (fA 300 a 0) λbv=>oN E (fA 115 bv 0) λbz=>oN E (lA 3 bz) λe=>xK (λcc cd=>c9G d e (nth cc 0) cd R E) λj1=>oN E (bC .eql 3 38 e (vI 1)) λi=>xC i
 (j1 [i])
 (oN E (bC .eql 3 38 e (vI 2)) λce=>j1 [ce])))
def e9m:Hint:=(sQ (sQ (hS (sQ (hC (sQ hN) hN)) (hS (sQ (hC (sQ hN) hN)) (hS (sQ (hB (hU [39] (sQ (hC hN hN)) (hC (sQ hN) (sQ (hC (sQ hN) (hU [50] (sQ (hC hN hN)) (hC (sQ hN) hN)))))))) (sQ hN))))))
theorem e0f{x0}(h:e9l x0 w R E):Cv pG 222 #[x0] w R E:=okG (e9m) func222 h
def e9n(x0 w)(R:RT)(E):=
 opK pG E (yB 300 x0) w λf j=>dX j λa=>qP pG (fA 300 f 0) λk=>qP pG (fA 115 k 2) λg=>qP pG (fA 300 f 0) λl=>qP pG (fA 115 l 3) λb=>qL pG a (blk g) (lA 52 g) λm=>qL pG a (blk b) (lA 53 b) λn=>oP E (xCall (fC 214) [m,(fC 215)]) a λo c=>keepX [(blk b)] a c (opK pG E (xCall (fC 212) [n,(fC 213)]) c λp d=>keepX [] c d (opK pG E (yS 197 2 #[(0,o),(1,p)]) d λq e=>keepX [] d e (opK pG E (xCall (fC 74) [q]) e λr i=>keepX [] e i (R r i))))
def e9o:Hint:=(sQ (hS (.reg [(0,8,2),(1,16,8),(2,32,16),(4,64,32),(0,128,2),(16,256,128),(32,512,256),(72,1024,512),(136,2048,1088),(384,4096,2048),(1023,4,4096)] [68,68,64,64,68,68,4,0,0,0,68] (eO 0 (eO 1 (eO 4 (eO 5 (lO 2 (lO 6 (sO 3 (sO 7 (sO 8 (sO 9 (eO 10 dO)))))))))))) hN))
theorem e0g{x0}(h:e9n x0 w R E):Cv pG 223 #[x0] w R E:=okG (e9o) func223 h
def c9H(x2 w)(R:RT)(_E:Pan):=
 ∀_τ:Fr,(R x2 w)
def e0h(x2 x4 w)(next2:NT)(j1:NT)(_R:RT)(E):=
 opK pG E (xV (Instr.next x4 true 0)) w λb=>oN E (xT b 0) λd=>xC d
 (oN E (bC .add 3 7 x2 (vI 1)) λe=>next2 [e])
 (j1 [x2])
def e9p(x0 w)(R:RT)(E):=
 xcut (λa b=>c9H (nth a 0) b R E) λj1=>(oN E (xV (Instr.range 9 x0)) λc=>xL [2] [(vI 0)] λe f next2=>e0h (e 2) c f next2 j1 R E) w
def e9q:Hint:=(sQ (hU [2] (sQ (hB (hL [2] (sQ (hS (hC hN hN) (hB hN)))))) (sQ hN)))
theorem e0i{x0}(h:e9p x0 w R E):Cv pG 178 #[x0] w R E:=okG (e9q) func178 h
end
def a6B(x0)(c:(List Int))(H)(K:KT Int):=
 ∀(g0:Nat),∀(a:Sl)(b:Frag),RowL 5 1 B7 a c b->Ct pG 52 [(pt g0)] H [bx g0 83 (q8 g0 x0 a),b] (λv H' Fo=>∃(r0:Int),v=(vi r0)/\Fo=[bx g0 83 (q8 g0 x0 a),b]/\K r0 H') noQE
def a1D(x0)(c:(List Int))(H)(K:KT Bool):=
 ∀(g0:Nat),∀(a:Sl)(b:Frag),RowL 5 1 B7 a c b->Ct pG 25 [(pt g0)] H [bx g0 83 (q8 g0 x0 a),b] (λv H' Fo=>∃(r0:Bool),v=(vB r0)/\Fo=[bx g0 83 (q8 g0 x0 a),b]/\K r0 H') noQE
def a8Z(x0)(f:(List Int))(H)(K:BA->g7->(List Int)->Hp->Prop):=
 ∀(g0:Nat),∀(a:Sl)(b:Frag),RowL 5 1 B7 a f b->Ct pG 26 [(pt g0)] H [bx g0 83 (q8 g0 x0 a),b] (λv H' Fo=>∃(r0:BA)(y0:g7)(c:(List Int))(d:Sl)(e:Frag),v=(wS r0)/\Fo=[bx g0 83 (q8 g0 y0 d),e]/\True/\K r0 y0 c H') noQE
def a1E(x0)(f:(List Int))(x1)(H)(K:g7->(List Int)->Hp->Prop):=
 ∀(g0:Nat),∀(a:Sl)(b:Frag),RowL 5 1 B7 a f b->Ct pG 24 [(pt g0),(yG (q9 x1))] H [bx g0 83 (q8 g0 x0 a),b] (λv H' Fo=>∃(y0:g7)(c:(List Int))(d:Sl)(e:Frag),v=(yU [])/\Fo=[bx g0 83 (q8 g0 y0 d),e]/\RowL 5 1 B7 d c e/\K y0 c H') noQE
def a3V(x0)(f:(List Int))(x1)(H)(K:g7->(List Int)->Hp->Prop):=
 ∀(g0:Nat),∀(a:Sl)(b:Frag),RowL 5 1 B7 a f b->Ct pG 22 [(pt g0),(vs x1)] H [bx g0 83 (q8 g0 x0 a),b] (λv H' Fo=>∃(y0:g7)(c:(List Int))(d:Sl)(e:Frag),v=(yU [])/\Fo=[bx g0 83 (q8 g0 y0 d),e]/\RowL 5 1 B7 d c e/\K y0 c H') noQE
def b7a(x0:Int)(H)(K:KT BA):=
 C1 23 [(vi x0)] H wS K
def b1k(x0)(H)(K:KT j8):=
 C1 76 [(yG (q6 x0))] H O2 K
def Q6(x0)(H)(K:KT Sl):=
 C1 75 [(vs x0),(fC 76)] H vs K
def b1l(x0)(H)(K:KT j8):=
 C1 78 [(yG (q9 x0))] H O2 K
def G7(x0)(H)(K:KT Sl):=
 C1 77 [(vs x0),(fC 78)] H vs K
def Z0(x1:Int)(H)(K:KT (List j8)):=
 Ct pG 110 [(nS),(vi x1)] H [] (λv H' Fo=>∃(r0:(List j8))(sr0:Sl)(Fr0:Frag),v=(vs sr0)/\Fo=[Fr0]/\RowL 149 1 C0 sr0 r0 Fr0/\K r0 H') noQE
def L3(x0)(H)(K:KT Sl):=
 C1 74 [(vs x0)] H vs K
def a3W(x0)(H)(K:BA->Bool->Hp->Prop):=
 Ct pG 145 [(O2 x0)] H [] (λv H' Fo=>∃(r0:BA)(r1:Bool),v=(yU [(wS r0),(vB r1)])/\Fo=[]/\K r0 r1 H') noQE
def R8(x0:Int)(x1:Int)(x2:Int)(H)(K:KT Bool):=
 ∀(g2:Nat),Ct pG 162 [(Value.int .i32 x0),(Value.int .i32 x1),(pt g2)] H [bx g2 21 [(Value.int .i32 x2)]] (λv H' Fo=>∃(r0:Bool),v=(vB r0)/\Fo=[bx g2 21 [(Value.int .i32 x2)]]/\K r0 H') noQE
def X8(x0:Int)(H)(K:KT Int):=
 C1 127 [(Value.int .i32 x0)] H vi K
def a5D(x0:Int)(H)(K:KT Bool):=
 C1 164 [(Value.int .i32 x0)] H vB K
def a7Z(x0:BA)(H)(K:KT Bool):=
 C1 173 [(wS x0)] H vB K
def a1M(x0:BA)(H)(K:KT Int):=
 C1 178 [(wS x0)] H vi K
def a6o(x0:BA)(H)(K:KT Bool):=
 C1 166 [(wS x0)] H vB K
def a6p(x0:BA)(H)(K:KT Bool):=
 C1 165 [(wS x0)] H vB K
def a6q(x0:BA)(H)(K:KT Bool):=
 C1 146 [(wS x0)] H vB K
def a3m(x0:(List BA))(x1:BA)(H)(K:KT Int):=
 ∀(sx0:Sl)(Fx0:Frag),RowL 9 1 v7 sx0 x0 Fx0->Ct pG 174 [(vs sx0),(wS x1)] H [Fx0] (λv H' Fo=>∃(r0:Int),v=(vi r0)/\Fo=[Fx0]/\K r0 H') noQE
def a0v(x0:(List BA))(x1:BA)(H)(K:KT Bool):=
 ∀(sx0:Sl)(Fx0:Frag),RowL 9 1 v7 sx0 x0 Fx0->Ct pG 147 [(vs sx0),(wS x1)] H [Fx0] (λv H' Fo=>∃(r0:Bool),v=(vB r0)/\Fo=[Fx0]/\K r0 H') noQE
def a4q(x0)(f:(List BA))(x1)(x2:Int)(H)(K:Bool->v6->(List BA)->Hp->Prop):=
 ∀(g0:Nat),∀(a:Sl)(b:Frag),RowL 9 1 v7 a f b->Ct pG 109 [(pt g0),(O2 x1),(vi x2)] H [bx g0 106 (a3j x0 a),b] (λv H' Fo=>∃(r0:Bool)(y0:v6)(c:(List BA))(d:Sl)(e:Frag),v=(vB r0)/\Fo=[bx g0 106 (a3j y0 d),e]/\RowL 9 1 v7 d c e/\K r0 y0 c H') noQE
def a1w(x0)(x1:Int)(x2)(f:(List BA))(H)(K:Bool->v6->(List BA)->Hp->Prop):=
 ∀(g2 aa g3:Nat),∀(a:Sl)(b:Frag),RowL 9 1 v7 a f b->Ct pG 108 [(vs x0),(vi x1),(pt g2),(pt g3)] H [bx g2 107 [(pt aa)],bx aa 106 (a3j x2 a),b,bx g3 194 [(Value.func (.func 108) #[] #[(pt g2),(pt g3)])]] (λv H' Fo=>∃(r0:Bool)(y0:v6)(c:(List BA))(d:Sl)(e:Frag),v=(vB r0)/\Fo=[bx g2 107 [(pt aa)],bx aa 106 (a3j y0 d),e,bx g3 194 [(Value.func (.func 108) #[] #[(pt g2),(pt g3)])]]/\RowL 9 1 v7 d c e/\K r0 y0 c H') noQE
def a7x(x0)(H)(K:KT v6):=
 Ct pG 73 [(vs x0)] H [] (λv H' Fo=>∃(r0:v6)(gr0:Nat),v=(pt gr0)/\Fo=[bx gr0 106 (b6Y r0)]/\K r0 H') noQE
def b0m(x0)(H)(K:KT v6):=
 Ct pG 42 [(yG (q7 x0))] H [] (λv H' Fo=>∃(r0:v6)(gr0:Nat),v=(pt gr0)/\Fo=[bx gr0 106 (b6Y r0)]/\K r0 H') noQE
def a3f(x0)(H)(K:KT Int):=
 C1 21 [(yG (q7 x0))] H vi K
def a7y(x0)(H)(K:BA->Int->Hp->Prop):=
 Ct pG 9 [(yG (q7 x0))] H [] (λv H' Fo=>∃(r0:BA)(r1:Int),v=(yU [(wS r0),(vi r1)])/\Fo=[]/\K r0 r1 H') noQE
def N4(x0:BA)(H)(K:o8->f8->Int->Hp->Prop):=
 Ct pG 27 [(wS x0),(fC 28),(fC 21)] H [] (λv H' Fo=>∃(r0:o8)(r1:f8)(r2:Int),v=(yU [(yG (q7 r0)),(yG (p9 r1)),(vi r2)])/\Fo=[]/\K r0 r1 r2 H') noQE
def a7z(x0:BA)(H)(K:o8->f8->Int->Hp->Prop):=
 Ct pG 10 [(wS x0)] H [] (λv H' Fo=>∃(r0:o8)(r1:f8)(r2:Int),v=(yU [(yG (q7 r0)),(yG (p9 r1)),(vi r2)])/\Fo=[]/\K r0 r1 r2 H') noQE
def a5Y(x0)(H)(K:s6->Int->Hp->Prop):=
 Ct pG 5 [(yG (q7 x0))] H [] (λv H' Fo=>∃(r0:s6)(r1:Int),v=(yU [(yG (r9 r0)),(vi r1)])/\Fo=[]/\K r0 r1 H') noQE
def a4K(x0)(x1)(H)(K:KT Bool):=
 C1 29 [(vs x0),(vs x1)] H vB K
def a4L(x0)(x1)(H)(K:KT Bool):=
 C1 30 [(vs x0),(vs x1)] H vB K
def a5I(x0)(x1)(H)(K:KT Bool):=
 C1 11 [(yG (r9 x0)),(yG (r9 x1))] H vB K
def a5m(x0:Int)(H)(K:KT Int):=
 C1 41 [(vi x0)] H vi K
def b0n(x0)(H)(K:KT Bool):=
 C1 19 [(vs x0)] H vB K
def a0S(x0:p8)(x1:Int)(H)(K:KT Bool):=
 C1 17 [(yG (r9 x0.C2)),(vi x1)] H vB K
def a7A(x0:Int)(H)(K:KT r7):=
 C1 35 [(vi x0)] H (λr=>(yG (b1j r))) K
def a1r(x0:p8)(x1:Int)(H)(K:KT Bool):=
 C1 37 [(yG (r9 x0.C2)),(vi x1)] H vB K
def a1N(x0:Bool)(x1:Bool)(x2:Bool)(H)(K:KT Bool):=
 C1 36 [(vB x0),(vB x1),(vB x2)] H vB K
def a5n(x0:p8)(x1:Int)(H)(K:KT Bool):=
 C1 38 [(yG (r9 x0.C2)),(vi x1)] H vB K
def a1F(x0:p8)(x1)(H)(K:KT Bool):=
 C1 39 [(yG (r9 x0.C2)),(yG (A0 x1))] H vB K
def a0b(H)(K:KT z6):=
 C1 40 [] H (λr=>(yG (A0 r))) K
def a5o(x0:p8)(x1)(H)(K:KT Bool):=
 C1 18 [(yG (r9 x0.C2)),(yG (p7 x1))] H vB K
def a1Q(x0)(H)(K:KT Int):=
 C1 7 [(yG (r9 x0))] H vi K
def a6r(x0)(H)(K:KT Sl):=
 C1 20 [(yG (r9 x0))] H vs K
def b0G(x0)(x1:Int)(H)(K:Sl->Int->Hp->Prop):=
 Ct pG 8 [(yG (r9 x0)),(vi x1)] H [] (λv H' Fo=>∃(r0:Sl)(r1:Int),v=(yU [(vs r0),(vi r1)])/\Fo=[]/\K r0 r1 H') noQE
def a4M(H)(K:KT Bool):=
 C1 4 [] H vB K
def a4N(x0:Int)(_:Sl)(x1_:(List Bool))(x2)(x3)(_:Sl)(x5_:(List Int))(H)(K:Sl->(List Bool)->Sl->(List Int)->Hp->Prop):=
 ∀(g1 g2 g3 g4 g5:Nat),∀(sx1_:Sl)(Fx1_:Frag)(sx5_:Sl)(Fx5_:Frag),RowL 4 1 a5S sx1_ x1_ Fx1_->RowL 3 1 K4 sx5_ x5_ Fx5_->Ct pG 33 [(vi x0),(pt g1),(pt g2),(pt g3),(pt g4),(pt g5)] H [bx g1 38 [(vs sx1_)],Fx1_,bx g2 74 [(vs x2)],bx g3 31 (r9 x3),bx g4 96 [(Value.func (.func 33) #[] #[(pt g1),(pt g2),(pt g3),(pt g4),(pt g5)])],bx g5 26 [(vs sx5_)],Fx5_] (λv H' Fo=>∃(y0:Sl)(y0_:(List Bool))(y1:Sl)(y1_:(List Int))(sy0_:Sl)(Fy0_:Frag)(sy1_:Sl)(Fy1_:Frag),v=(yU [])/\Fo=[bx g1 38 [(vs sy0_)],Fy0_,bx g2 74 [(vs x2)],bx g3 31 (r9 x3),bx g4 96 [(Value.func (.func 33) #[] #[(pt g1),(pt g2),(pt g3),(pt g4),(pt g5)])],bx g5 26 [(vs sy1_)],Fy1_]/\RowL 4 1 a5S sy0_ y0_ Fy0_/\RowL 3 1 K4 sy1_ y1_ Fy1_/\K y0 y0_ y1 y1_ H') noQE
def a5p(x0:(List Int))(H)(K:KT (List Int)):=
 ∀(sx0:Sl)(Fx0:Frag),RowL 3 1 K4 sx0 x0 Fx0->Ct pG 34 [(vs sx0)] H [Fx0] (λv H' Fo=>∃(y0:(List Int))(Fy0:Frag),v=(yU [])/\Fo=[Fy0]/\RowL 3 1 K4 sx0 y0 Fy0/\K y0 H') noQE
def a9a(x0)(H)(K:Sl->Int->Hp->Prop):=
 Ct pG 16 [(yG (r9 x0))] H [] (λv H' Fo=>∃(r0:Sl)(r1:Int),v=(yU [(vs r0),(vi r1)])/\Fo=[]/\K r0 r1 H') noQE
def a9b(x0)(H)(K:Sl->Int->Hp->Prop):=
 Ct pG 6 [(yG (r9 x0))] H [] (λv H' Fo=>∃(r0:Sl)(r1:Int),v=(yU [(vs r0),(vi r1)])/\Fo=[]/\K r0 r1 H') noQE
def a2F(x0)(x1)(H)(K:KT Bool):=
 C1 3 [(yG (q7 x0)),(vs x1)] H vB K
def b0H(x0)(x1:Int)(H)(K:Sl->Int->Hp->Prop):=
 Ct pG 31 [(yG (q7 x0)),(vi x1)] H [] (λv H' Fo=>∃(r0:Sl)(r1:Int),v=(yU [(vs r0),(vi r1)])/\Fo=[]/\K r0 r1 H') noQE
def b2V(x0)(H)(K:Sl->Int->Hp->Prop):=
 Ct pG 12 [(yG (q7 x0))] H [] (λv H' Fo=>∃(r0:Sl)(r1:Int),v=(yU [(vs r0),(vi r1)])/\Fo=[]/\K r0 r1 H') noQE
def b1m(x0)(H)(K:Sl->Int->Hp->Prop):=
 Ct pG 13 [(yG (q7 x0))] H [] (λv H' Fo=>∃(r0:Sl)(r1:Int),v=(yU [(vs r0),(vi r1)])/\Fo=[]/\K r0 r1 H') noQE
def M1(x0)(f:(List d8))(H)(K:Int->m0->(List d8)->Hp->Prop):=
 ∀(g0:Nat),∀(a:Sl)(b:Frag),RowL 43 10 p7 a f b->Ct pG 14 [(pt g0)] H [bx g0 63 (A8 x0 a),b] (λv H' Fo=>∃(r0:Int)(y0:m0)(c:(List d8))(d:Sl)(e:Frag),v=(vi r0)/\Fo=[bx g0 63 (A8 y0 d),e]/\RowL 43 10 p7 d c e/\K r0 y0 c H') noQE
def a1G(x0)(c:(List d8))(x1)(H)(K:z6->Bool->Hp->Prop):=
 ∀(g0:Nat),∀(a:Sl)(b:Frag),RowL 43 10 p7 a c b->Ct pG 104 [(pt g0),(yG (g9 x1))] H [bx g0 63 (A8 x0 a),b] (λv H' Fo=>∃(r0:z6)(r1:Bool),v=(yU [(yG (A0 r0)),(vB r1)])/\Fo=[bx g0 63 (A8 x0 a),b]/\K r0 r1 H') noQE
def J0(x0)(f:(List d8))(x1)(H)(K:m0->(List d8)->Hp->Prop):=
 ∀(g0:Nat),∀(a:Sl)(b:Frag),RowL 43 10 p7 a f b->Ct pG 70 [(pt g0),(yG (p7 x1))] H [bx g0 63 (A8 x0 a),b] (λv H' Fo=>∃(y0:m0)(c:(List d8))(d:Sl)(e:Frag),v=(yU [])/\Fo=[bx g0 63 (A8 y0 d),e]/\RowL 43 10 p7 d c e/\K y0 c H') noQE
def a8A(x0:Int)(H)(K:KT Int):=
 C1 143 [(vi x0)] H vi K
def T3(x0:Int)(x1:Int)(x2:Int)(H)(K:KT d8):=
 C1 68 [(vi x0),(vi x1),(vi x2)] H (λr=>(yG (p7 r))) K
def a4O(x0)(f:(List d8))(x1:Int)(H)(K:Int->m0->(List d8)->Hp->Prop):=
 ∀(g0:Nat),∀(a:Sl)(b:Frag),RowL 43 10 p7 a f b->Ct pG 144 [(pt g0),(vi x1)] H [bx g0 63 (A8 x0 a),b] (λv H' Fo=>∃(r0:Int)(y0:m0)(c:(List d8))(d:Sl)(e:Frag),v=(vi r0)/\Fo=[bx g0 63 (A8 y0 d),e]/\RowL 43 10 p7 d c e/\K r0 y0 c H') noQE
def Y4(x0)(f:(List d8))(x1)(x2:Int)(x3:Int)(H)(K:z6->Int->m0->(List d8)->Hp->Prop):=
 ∀(g0:Nat),∀(a:Sl)(b:Frag),RowL 43 10 p7 a f b->Ct pG 106 [(pt g0),(yG (g9 x1)),(vi x2),(vi x3)] H [bx g0 63 (A8 x0 a),b] (λv H' Fo=>∃(r0:z6)(r1:Int)(y0:m0)(c:(List d8))(d:Sl)(e:Frag),v=(yU [(yG (A0 r0)),(vi r1)])/\Fo=[bx g0 63 (A8 y0 d),e]/\RowL 43 10 p7 d c e/\K r0 r1 y0 c H') noQE
def a3X(x0)(c:(List d8))(x1)(x2:Int)(H)(K:KT Int):=
 ∀(g0:Nat),∀(a:Sl)(b:Frag),RowL 43 10 p7 a c b->Ct pG 107 [(pt g0),(yG (A0 x1)),(vi x2)] H [bx g0 63 (A8 x0 a),b] (λv H' Fo=>∃(r0:Int),v=(vi r0)/\Fo=[bx g0 63 (A8 x0 a),b]/\K r0 H') noQE
def a0T(x0)(f:(List d8))(x1)(x2:Int)(x3:Int)(H)(K:z6->z6->Int->m0->(List d8)->Hp->Prop):=
 ∀(g0:Nat),∀(a:Sl)(b:Frag),RowL 43 10 p7 a f b->Ct pG 69 [(pt g0),(vs x1),(vi x2),(vi x3)] H [bx g0 63 (A8 x0 a),b] (λv H' Fo=>∃(r0:z6)(r1:z6)(r2:Int)(y0:m0)(c:(List d8))(d:Sl)(e:Frag),v=(yU [(yG (A0 r0)),(yG (A0 r1)),(vi r2)])/\Fo=[bx g0 63 (A8 y0 d),e]/\RowL 43 10 p7 d c e/\K r0 r1 r2 y0 c H') noQE
def a1Y(x0)(f:(List d8))(x1)(x2:Int)(x3:Int)(x4:Int)(x5:Int)(H)(K:m0->(List d8)->Hp->Prop):=
 ∀(g0:Nat),∀(a:Sl)(b:Frag),RowL 43 10 p7 a f b->Ct pG 105 [(pt g0),(yG (g9 x1)),(vi x2),(vi x3),(vi x4),(vi x5)] H [bx g0 63 (A8 x0 a),b] (λv H' Fo=>∃(y0:m0)(c:(List d8))(d:Sl)(e:Frag),v=(yU [])/\Fo=[bx g0 63 (A8 y0 d),e]/\RowL 43 10 p7 d c e/\K y0 c H') noQE
def a3Y(x0)(f:(List d8))(x1:Int)(x2)(x3:Int)(x4:Int)(H)(K:m0->(List d8)->Hp->Prop):=
 ∀(g0:Nat),∀(a:Sl)(b:Frag),RowL 43 10 p7 a f b->Ct pG 67 [(pt g0),(vi x1),(yG (g9 x2)),(vi x3),(vi x4)] H [bx g0 63 (A8 x0 a),b] (λv H' Fo=>∃(y0:m0)(c:(List d8))(d:Sl)(e:Frag),v=(yU [])/\Fo=[bx g0 63 (A8 y0 d),e]/\RowL 43 10 p7 d c e/\K y0 c H') noQE
def Z1(x0)(f:(List d8))(x1)(x2:Int)(H)(K:Int->m0->(List d8)->Hp->Prop):=
 ∀(g0:Nat),∀(a:Sl)(b:Frag),RowL 43 10 p7 a f b->Ct pG 71 [(pt g0),(vs x1),(vi x2)] H [bx g0 63 (A8 x0 a),b] (λv H' Fo=>∃(r0:Int)(y0:m0)(c:(List d8))(d:Sl)(e:Frag),v=(vi r0)/\Fo=[bx g0 63 (A8 y0 d),e]/\RowL 43 10 p7 d c e/\K r0 y0 c H') noQE
def K9(x0)(f:(List d8))(x1)(x2:Int)(x3:Int)(x4:Int)(H)(K:m0->(List d8)->Hp->Prop):=
 ∀(g0:Nat),∀(a:Sl)(b:Frag),RowL 43 10 p7 a f b->Ct pG 72 [(pt g0),(yG (l7 x1)),(vi x2),(vi x3),(vi x4)] H [bx g0 63 (A8 x0 a),b] (λv H' Fo=>∃(y0:m0)(c:(List d8))(d:Sl)(e:Frag),v=(yU [])/\Fo=[bx g0 63 (A8 y0 d),e]/\RowL 43 10 p7 d c e/\K y0 c H') noQE
def a4P(x0)(f:(List d8))(x1)(x2:Int)(x3:Int)(H)(K:m0->(List d8)->Hp->Prop):=
 ∀(g0:Nat),∀(a:Sl)(b:Frag),RowL 43 10 p7 a f b->Ct pG 32 [(pt g0),(yG (q9 x1)),(vi x2),(vi x3)] H [bx g0 63 (A8 x0 a),b] (λv H' Fo=>∃(y0:m0)(c:(List d8))(d:Sl)(e:Frag),v=(yU [])/\Fo=[bx g0 63 (A8 y0 d),e]/\RowL 43 10 p7 d c e/\K y0 c H') noQE
def V6(x0)(f:(List d8))(x1)(x2:Int)(x3:Int)(H)(K:m0->(List d8)->Hp->Prop):=
 ∀(g0:Nat),∀(a:Sl)(b:Frag),RowL 43 10 p7 a f b->Ct pG 15 [(pt g0),(vs x1),(vi x2),(vi x3)] H [bx g0 63 (A8 x0 a),b] (λv H' Fo=>∃(y0:m0)(c:(List d8))(d:Sl)(e:Frag),v=(yU [])/\Fo=[bx g0 63 (A8 y0 d),e]/\RowL 43 10 p7 d c e/\K y0 c H') noQE
def G5(x0)(H)(K:KT d6):=
 ∀(g0:Nat),Ct pG 55 [(pt g0)] H [bx g0 125 (f9 x0)] (λv H' Fo=>∃(r0:d6),v=(yG (m8 r0))/\Fo=[bx g0 125 (f9 x0)]/\K r0 H') noQE
def B0(x0)(x1:BA)(H)(K:KT Bool):=
 ∀(g0:Nat),Ct pG 57 [(pt g0),(wS x1)] H [bx g0 125 (f9 x0)] (λv H' Fo=>∃(r0:Bool),v=(vB r0)/\Fo=[bx g0 125 (f9 x0)]/\K r0 H') noQE
def U2(x0)(H)(K:KT Bool):=
 ∀(g0:Nat),Ct pG 60 [(pt g0)] H [bx g0 125 (f9 x0)] (λv H' Fo=>∃(r0:Bool),v=(vB r0)/\Fo=[bx g0 125 (f9 x0)]/\K r0 H') noQE
def M2 [PanQ] (x0:c8) (H:Hp) (K:Hp->Prop):=
 ∀(g0:Nat),Ct pG 56 [(pt g0)] H [bx g0 125 (f9 x0)] (λv H' Fo=>v=(yU [])/\Fo=[bx g0 125 (f9 x0)]/\K H') panQE
def L1 [PanQ] (x0:c8) (x1:Int) (x2:Bool) (H:Hp) (K:Hp->Prop):=
 ∀(g0:Nat),Ct pG 59 [(pt g0),(vi x1),(vB x2)] H [bx g0 125 (f9 x0)] (λv H' Fo=>v=(yU [])/\Fo=[bx g0 125 (f9 x0)]/\K H') panQE
def B6(x0)(x1:BA)(H)(K:Bool->c8->Hp->Prop):=
 ∀(g0:Nat),Ct pG 96 [(pt g0),(wS x1)] H [bx g0 125 (f9 x0)] (λv H' Fo=>∃(r0:Bool)(y0:c8),v=(vB r0)/\Fo=[bx g0 125 (f9 y0)]/\K r0 y0 H') noQE
def K5 [PanQ] (x0:c8) (x1:BA) (H:Hp) (K:KT c8):=
 ∀(g0:Nat),Ct pG 94 [(pt g0),(wS x1)] H [bx g0 125 (f9 x0)] (λv H' Fo=>∃(y0:c8),v=(yU [])/\Fo=[bx g0 125 (f9 y0)]/\K y0 H') panQE
def V7 [PanQ] (x0:c8) (x1:Int) (H:Hp) (K:l9->c8->Hp->Prop):=
 ∀(g0:Nat),Ct pG 98 [(pt g0),(vi x1)] H [bx g0 125 (f9 x0)] (λv H' Fo=>∃(r0:l9)(y0:c8),v=(yG (g9 r0))/\Fo=[bx g0 125 (f9 y0)]/\K r0 y0 H') panQE
def V8 [PanQ] (x0:c8) (H:Hp) (K:d6->c8->Hp->Prop):=
 ∀(g0:Nat),Ct pG 95 [(pt g0)] H [bx g0 125 (f9 x0)] (λv H' Fo=>∃(r0:d6)(y0:c8),v=(yG (m8 r0))/\Fo=[bx g0 125 (f9 y0)]/\K r0 y0 H') panQE
def N1(x0)(H)(K:KT Bool):=
 ∀(g0:Nat),Ct pG 135 [(pt g0)] H [bx g0 125 (f9 x0)] (λv H' Fo=>∃(r0:Bool),v=(vB r0)/\Fo=[bx g0 125 (f9 x0)]/\K r0 H') noQE
def Z2 [PanQ] (x0:c8) (x1:Int) (x2:BA) (H:Hp) (K:l9->c8->Hp->Prop):=
 ∀(g0:Nat),Ct pG 97 [(pt g0),(vi x1),(wS x2)] H [bx g0 125 (f9 x0)] (λv H' Fo=>∃(r0:l9)(y0:c8),v=(yG (g9 r0))/\Fo=[bx g0 125 (f9 y0)]/\K r0 y0 H') panQE
def S4 [PanQ] (x0:c8) (x1:Int) (H:Hp) (K:p5->c8->Hp->Prop):=
 ∀(g0:Nat),Ct pG 99 [(pt g0),(vi x1)] H [bx g0 125 (f9 x0)] (λv H' Fo=>∃(r0:p5)(y0:c8),v=(yG (l7 r0))/\Fo=[bx g0 125 (f9 y0)]/\K r0 y0 H') panQE
def Z3 [PanQ] (x0:c8) (x1:Int) (H:Hp) (K:Sl->c8->Hp->Prop):=
 ∀(g0:Nat),Ct pG 100 [(pt g0),(vi x1)] H [bx g0 125 (f9 x0)] (λv H' Fo=>∃(r0:Sl)(y0:c8),v=(vs r0)/\Fo=[bx g0 125 (f9 y0)]/\K r0 y0 H') panQE
def a0l [PanQ] (x0:c8) (x1:Int) (H:Hp) (K:i6->c8->Hp->Prop):=
 ∀(g0:Nat),Ct pG 61 [(pt g0),(vi x1)] H [bx g0 125 (f9 x0)] (λv H' Fo=>∃(r0:i6)(y0:c8),v=(yG (q9 r0))/\Fo=[bx g0 125 (f9 y0)]/\K r0 y0 H') panQE
def a4r [PanQ] (x0:c8) (x1:Int) (H:Hp) (K:d6->c8->Hp->Prop):=
 ∀(g0:Nat),Ct pG 93 [(pt g0),(vi x1)] H [bx g0 125 (f9 x0)] (λv H' Fo=>∃(r0:d6)(y0:c8),v=(yG (m8 r0))/\Fo=[bx g0 125 (f9 y0)]/\K r0 y0 H') panQE
def a4s [PanQ] (x0:c8) (H:Hp) (K:j9->c8->Hp->Prop):=
 ∀(g0:Nat),Ct pG 58 [(pt g0)] H [bx g0 125 (f9 x0)] (λv H' Fo=>∃(r0:j9)(y0:c8),v=(yG (q6 r0))/\Fo=[bx g0 125 (f9 y0)]/\K r0 y0 H') panQE
def a4t [PanQ] (x0:c8) (H:Hp) (K:o8->c8->Hp->Prop):=
 ∀(g0:Nat),Ct pG 28 [(pt g0)] H [bx g0 125 (f9 x0)] (λv H' Fo=>∃(r0:o8)(y0:c8),v=(yG (q7 r0))/\Fo=[bx g0 125 (f9 y0)]/\K r0 y0 H') panQE
def a7f(x0)(f:(List Int))(H)(K:g7->(List Int)->Hp->Prop):=
 ∀(g0:Nat),∀(a:Sl)(b:Frag),RowL 5 1 B7 a f b->Ct pG 114 [(pt g0)] H [bx g0 83 (q8 g0 x0 a),b] (λv H' Fo=>∃(y0:g7)(c:(List Int))(d:Sl)(e:Frag),v=(yU [])/\Fo=[bx g0 83 (q8 g0 y0 d),e]/\RowL 5 1 B7 d c e/\K y0 c H') noQE
def a2G(x0)(f:(List Int))(x1:BA)(H)(K:Int->Value->g7->(List Int)->Hp->Prop):=
 ∀(g0:Nat),∀(a:Sl)(b:Frag),RowL 5 1 B7 a f b->Ct pG 80 [(pt g0),(wS x1)] H [bx g0 83 (q8 g0 x0 a),b] (λv H' Fo=>∃(r0:Int)(r1:Value)(y0:g7)(c:(List Int))(d:Sl)(e:Frag),v=(yU [(vi r0),r1])/\Fo=[bx g0 83 (q8 g0 y0 d),e]/\RowL 5 1 B7 d c e/\K r0 r1 y0 c H') noQE
def C5(x0)(f:(List Int))(x1)(H)(K:g7->(List Int)->Hp->Prop):=
 ∀(g0:Nat),∀(a:Sl)(b:Frag),RowL 5 1 B7 a f b->Ct pG 45 [(pt g0),(vs x1)] H [bx g0 83 (q8 g0 x0 a),b] (λv H' Fo=>∃(y0:g7)(c:(List Int))(d:Sl)(e:Frag),v=(yU [])/\Fo=[bx g0 83 (q8 g0 y0 d),e]/\RowL 5 1 B7 d c e/\K y0 c H') noQE
def a2l(x0:Int)(H)(K:KT Int):=
 C1 82 [(vi x0)] H vi K
def b1U(x0:Int)(x1:Int)(H)(K:KT BA):=
 C1 83 [(vi x0),(vi x1)] H wS K
def a1Z(x0)(f:(List Int))(x1)(x2:Int)(H)(K:g7->(List Int)->Hp->Prop):=
 ∀(g0:Nat),∀(a:Sl)(b:Frag),RowL 5 1 B7 a f b->Ct pG 84 [(pt g0),(yG (g9 x1)),(vi x2)] H [bx g0 83 (q8 g0 x0 a),b] (λv H' Fo=>∃(y0:g7)(c:(List Int))(d:Sl)(e:Frag),v=(yU [])/\Fo=[bx g0 83 (q8 g0 y0 d),e]/\RowL 5 1 B7 d c e/\K y0 c H') noQE
def a5J(x0:Int)(H)(K:KT BA):=
 C1 85 [(vi x0)] H wS K
def N0(x0)(f:(List Int))(x1)(H)(K:g7->(List Int)->Hp->Prop):=
 ∀(g0:Nat),∀(a:Sl)(b:Frag),RowL 5 1 B7 a f b->Ct pG 48 [(pt g0),(yG (g9 x1))] H [bx g0 83 (q8 g0 x0 a),b] (λv H' Fo=>∃(y0:g7)(c:(List Int))(d:Sl)(e:Frag),v=(yU [])/\Fo=[bx g0 83 (q8 g0 y0 d),e]/\RowL 5 1 B7 d c e/\K y0 c H') noQE
def b2i(x0)(f:(List Int))(x1:BA)(x2)(x3:BA)(H)(K:g7->(List Int)->Hp->Prop):=
 ∀(g0:Nat),∀(a:Sl)(b:Frag),RowL 5 1 B7 a f b->Ct pG 50 [(pt g0),(wS x1),(yG (l7 x2)),(wS x3)] H [bx g0 83 (q8 g0 x0 a),b] (λv H' Fo=>∃(y0:g7)(c:(List Int))(d:Sl)(e:Frag),v=(yU [])/\Fo=[bx g0 83 (q8 g0 y0 d),e]/\RowL 5 1 B7 d c e/\K y0 c H') noQE
def a1s(x0)(f:(List Int))(x1)(H)(K:g7->(List Int)->Hp->Prop):=
 ∀(g0:Nat),∀(a:Sl)(b:Frag),RowL 5 1 B7 a f b->Ct pG 51 [(pt g0),(vs x1)] H [bx g0 83 (q8 g0 x0 a),b] (λv H' Fo=>∃(y0:g7)(c:(List Int))(d:Sl)(e:Frag),v=(yU [])/\Fo=[bx g0 83 (q8 g0 y0 d),e]/\RowL 5 1 B7 d c e/\K y0 c H') noQE
def b1V(x0:BA)(H)(K:Sl->f8->Int->Hp->Prop):=
 Ct pG 53 [(wS x0)] H [] (λv H' Fo=>∃(r0:Sl)(r1:f8)(r2:Int),v=(yU [(vs r0),(yG (p9 r1)),(vi r2)])/\Fo=[]/\K r0 r1 r2 H') noQE
def b0u(x0)(H)(K:(Option Nat)->BA->Int->Hp->Prop):=
 Ct pG 101 [(vs x0)] H [] (λv H' Fo=>∃(r0:(Option Nat))(r1:BA)(r2:Int),v=(yU [(Value.map r0),(wS r1),(vi r2)])/\Fo=[]/\K r0 r1 r2 H') noQE
def a0F(_:u4)(f:(List m9))(x1)(H)(K:u4->(List m9)->Hp->Prop):=
 ∀(g0:Nat),∀(a:Sl)(b:Frag),RowL 186 2 G9 a f b->Ct pG 142 [(pt g0),(yG (g9 x1))] H [bx g0 184 [(vs a)],b] (λv H' Fo=>∃(y0:u4)(c:(List m9))(d:Sl)(e:Frag),v=(yU [])/\Fo=[bx g0 184 [(vs d)],e]/\RowL 186 2 G9 d c e/\K y0 c H') noQE
def a2b(_:u4)(f:(List m9))(x1)(H)(K:u4->(List m9)->Hp->Prop):=
 ∀(g0:Nat),∀(a:Sl)(b:Frag),RowL 186 2 G9 a f b->Ct pG 141 [(pt g0),(yG (l7 x1))] H [bx g0 184 [(vs a)],b] (λv H' Fo=>∃(y0:u4)(c:(List m9))(d:Sl)(e:Frag),v=(yU [])/\Fo=[bx g0 184 [(vs d)],e]/\RowL 186 2 G9 d c e/\K y0 c H') noQE
def a0m(_:u4)(f:(List m9))(x1)(H)(K:u4->(List m9)->Hp->Prop):=
 ∀(g0:Nat),∀(a:Sl)(b:Frag),RowL 186 2 G9 a f b->Ct pG 102 [(pt g0),(vs x1)] H [bx g0 184 [(vs a)],b] (λv H' Fo=>∃(y0:u4)(c:(List m9))(d:Sl)(e:Frag),v=(yU [])/\Fo=[bx g0 184 [(vs d)],e]/\RowL 186 2 G9 d c e/\K y0 c H') noQE
def b1W(x0)(H)(K:BA->Int->Hp->Prop):=
 Ct pG 62 [(yG (q7 x0))] H [] (λv H' Fo=>∃(r0:BA)(r1:Int),v=(yU [(wS r0),(vi r1)])/\Fo=[]/\K r0 r1 H') noQE
def b2W(x0)(H)(K:KT Int):=
 C1 66 [(yG (q6 x0))] H vi K
def c1A(x0:BA)(x1:Int)(H)(K:KT BA):=
 C1 79 [(wS x0),(vi x1)] H wS K
def a1H(x0)(f:(List Int))(x1)(x2:Int)(H)(K:g7->(List Int)->Hp->Prop):=
 ∀(g0:Nat),∀(a:Sl)(b:Frag),RowL 5 1 B7 a f b->Ct pG 122 [(pt g0),(yG (l7 x1)),(vi x2)] H [bx g0 83 (q8 g0 x0 a),b] (λv H' Fo=>∃(y0:g7)(c:(List Int))(d:Sl)(e:Frag),v=(yU [])/\Fo=[bx g0 83 (q8 g0 y0 d),e]/\RowL 5 1 B7 d c e/\K y0 c H') noQE
def a2m(x0:Int)(H)(K:KT Int):=
 C1 121 [(vi x0)] H vi K
def V9(x0)(f:(List Int))(x1)(H)(K:g7->(List Int)->Hp->Prop):=
 ∀(g0:Nat),∀(a:Sl)(b:Frag),RowL 5 1 B7 a f b->Ct pG 87 [(pt g0),(yG (l7 x1))] H [bx g0 83 (q8 g0 x0 a),b] (λv H' Fo=>∃(y0:g7)(c:(List Int))(d:Sl)(e:Frag),v=(yU [])/\Fo=[bx g0 83 (q8 g0 y0 d),e]/\RowL 5 1 B7 d c e/\K y0 c H') noQE
def a1x(x0:BA)(H)(K:Int->Int->Hp->Prop):=
 Ct pG 123 [(wS x0)] H [] (λv H' Fo=>∃(r0:Int)(r1:Int),v=(yU [(Value.int .i32 r0),(vi r1)])/\Fo=[]/\K r0 r1 H') noQE
def b1X(x0:BA)(H)(K:Int->Int->Hp->Prop):=
 Ct pG 88 [(wS x0)] H [] (λv H' Fo=>∃(r0:Int)(r1:Int),v=(yU [(vi r0),(vi r1)])/\Fo=[]/\K r0 r1 H') noQE
def b5g(x0:BA)(x1:Int)(H)(K:KT f8):=
 C1 89 [(wS x0),(vi x1)] H (λr=>(yG (p9 r))) K
def Y5(x0)(c:(List d6))(H)(K:KT BA):=
 ∀(g0:Nat),∀(a:Sl)(b:Frag),RowL 127 5 m8 a c b->Ct pG 129 [(pt g0)] H [bx g0 167 (B9 x0 a),b] (λv H' Fo=>∃(r0:BA),v=(wS r0)/\Fo=[bx g0 167 (B9 x0 a),b]/\K r0 H') noQE
def a5q(x0:BA)(x1:BA)(H)(K:KT Bool):=
 C1 150 [(wS x0),(wS x1)] H vB K
def a5E(x0:BA)(x1:BA)(H)(K:KT Bool):=
 C1 112 [(wS x0),(wS x1)] H vB K
def a3o(x0:Int)(H)(K:KT Bool):=
 C1 130 [(Value.int .i32 x0)] H vB K
def O7(x0)(f:(List d6))(H)(K:i8->(List d6)->Hp->Prop):=
 ∀(g0:Nat),∀(a:Sl)(b:Frag),RowL 127 5 m8 a f b->Ct pG 163 [(pt g0)] H [bx g0 167 (B9 x0 a),b] (λv H' Fo=>∃(y0:i8)(c:(List d6))(d:Sl)(e:Frag),v=(yU [])/\Fo=[bx g0 167 (B9 y0 d),e]/\RowL 127 5 m8 d c e/\K y0 c H') noQE
def M0(x0)(c:(List d6))(H)(K:Int->Bool->Hp->Prop):=
 ∀(g0:Nat),∀(a:Sl)(b:Frag),RowL 127 5 m8 a c b->Ct pG 91 [(pt g0)] H [bx g0 167 (B9 x0 a),b] (λv H' Fo=>∃(r0:Int)(r1:Bool),v=(yU [(Value.int .i32 r0),(vB r1)])/\Fo=[bx g0 167 (B9 x0 a),b]/\K r0 r1 H') noQE
def Q9(x0)(f:(List d6))(H)(K:BA->i8->(List d6)->Hp->Prop):=
 ∀(g0:Nat),∀(a:Sl)(b:Frag),RowL 127 5 m8 a f b->Ct pG 128 [(pt g0),(fC 130)] H [bx g0 167 (B9 x0 a),b] (λv H' Fo=>∃(r0:BA)(y0:i8)(c:(List d6))(d:Sl)(e:Frag),v=(wS r0)/\Fo=[bx g0 167 (B9 y0 d),e]/\RowL 127 5 m8 d c e/\K r0 y0 c H') noQE
def a3p(x0:Int)(H)(K:KT Bool):=
 C1 126 [(Value.int .i32 x0)] H vB K
def M7(x0)(f:(List d6))(H)(K:BA->i8->(List d6)->Hp->Prop):=
 ∀(g0:Nat),∀(a:Sl)(b:Frag),RowL 127 5 m8 a f b->Ct pG 128 [(pt g0),(fC 126)] H [bx g0 167 (B9 x0 a),b] (λv H' Fo=>∃(r0:BA)(y0:i8)(c:(List d6))(d:Sl)(e:Frag),v=(wS r0)/\Fo=[bx g0 167 (B9 y0 d),e]/\RowL 127 5 m8 d c e/\K r0 y0 c H') noQE
def a1I(x0)(f:(List d6))(H)(K:i8->(List d6)->Hp->Prop):=
 ∀(g0:Nat),∀(a:Sl)(b:Frag),RowL 127 5 m8 a f b->Ct pG 90 [(pt g0)] H [bx g0 167 (B9 x0 a),b] (λv H' Fo=>∃(y0:i8)(c:(List d6))(d:Sl)(e:Frag),v=(yU [])/\Fo=[bx g0 167 (B9 y0 d),e]/\RowL 127 5 m8 d c e/\K y0 c H') noQE
def b1Y(H)(K:KT f8):=
 C1 124 [] H (λr=>(yG (p9 r))) K
def V3(x0)(f:(List d6))(H)(K:BA->i8->(List d6)->Hp->Prop):=
 ∀(g0:Nat),∀(a:Sl)(b:Frag),RowL 127 5 m8 a f b->Ct pG 128 [(pt g0),(fC 164)] H [bx g0 167 (B9 x0 a),b] (λv H' Fo=>∃(r0:BA)(y0:i8)(c:(List d6))(d:Sl)(e:Frag),v=(wS r0)/\Fo=[bx g0 167 (B9 y0 d),e]/\RowL 127 5 m8 d c e/\K r0 y0 c H') noQE
def a9c(x0)(f:(List d6))(H)(K:d6->Int->i8->(List d6)->Hp->Prop):=
 ∀(g0:Nat),∀(a:Sl)(b:Frag),RowL 127 5 m8 a f b->Ct pG 131 [(pt g0)] H [bx g0 167 (B9 x0 a),b] (λv H' Fo=>∃(r0:d6)(r1:Int)(y0:i8)(c:(List d6))(d:Sl)(e:Frag),v=(yU [(yG (m8 r0)),(vi r1)])/\Fo=[bx g0 167 (B9 y0 d),e]/\RowL 127 5 m8 d c e/\K r0 r1 y0 c H') noQE
def a3q(x0:Int)(H)(K:KT Bool):=
 C1 167 [(Value.int .i32 x0)] H vB K
def R0(x0)(f:(List d6))(H)(K:BA->i8->(List d6)->Hp->Prop):=
 ∀(g0:Nat),∀(a:Sl)(b:Frag),RowL 127 5 m8 a f b->Ct pG 128 [(pt g0),(fC 167)] H [bx g0 167 (B9 x0 a),b] (λv H' Fo=>∃(r0:BA)(y0:i8)(c:(List d6))(d:Sl)(e:Frag),v=(wS r0)/\Fo=[bx g0 167 (B9 y0 d),e]/\RowL 127 5 m8 d c e/\K r0 y0 c H') noQE
def b2X(x0:BA)(x1:Int)(x2:Int)(H)(K:Int->Value->Hp->Prop):=
 Ct pG 168 [(wS x0),(vi x1),(vi x2)] H [] (λv H' Fo=>∃(r0:Int)(r1:Value),v=(yU [(vi r0),r1])/\Fo=[]/\K r0 r1 H') noQE
def a8a(x0)(f:(List d6))(H)(K:d6->Int->i8->(List d6)->Hp->Prop):=
 ∀(g0:Nat),∀(a:Sl)(b:Frag),RowL 127 5 m8 a f b->Ct pG 132 [(pt g0)] H [bx g0 167 (B9 x0 a),b] (λv H' Fo=>∃(r0:d6)(r1:Int)(y0:i8)(c:(List d6))(d:Sl)(e:Frag),v=(yU [(yG (m8 r0)),(vi r1)])/\Fo=[bx g0 167 (B9 y0 d),e]/\RowL 127 5 m8 d c e/\K r0 r1 y0 c H') noQE
def a9d(x0)(f:(List d6))(H)(K:d6->Int->i8->(List d6)->Hp->Prop):=
 ∀(g0:Nat),∀(a:Sl)(b:Frag),RowL 127 5 m8 a f b->Ct pG 133 [(pt g0)] H [bx g0 167 (B9 x0 a),b] (λv H' Fo=>∃(r0:d6)(r1:Int)(y0:i8)(c:(List d6))(d:Sl)(e:Frag),v=(yU [(yG (m8 r0)),(vi r1)])/\Fo=[bx g0 167 (B9 y0 d),e]/\RowL 127 5 m8 d c e/\K r0 r1 y0 c H') noQE
def b2Y(H)(K:d6->Int->Hp->Prop):=
 Ct pG 134 [] H [] (λv H' Fo=>∃(r0:d6)(r1:Int),v=(yU [(yG (m8 r0)),(vi r1)])/\Fo=[]/\K r0 r1 H') noQE
def a4u [PanQ] (x0:c8) (x1:Int) (H:Hp) (K:l9->c8->Hp->Prop):=
 ∀(g0:Nat),Ct pG 137 [(pt g0),(vi x1)] H [bx g0 125 (f9 x0)] (λv H' Fo=>∃(r0:l9)(y0:c8),v=(yG (g9 r0))/\Fo=[bx g0 125 (f9 y0)]/\K r0 y0 H') panQE
def a2o [PanQ] (x0:c8) (H:Hp) (K:Int->c8->Hp->Prop):=
 ∀(g0:Nat),Ct pG 172 [(pt g0)] H [bx g0 125 (f9 x0)] (λv H' Fo=>∃(r0:Int)(y0:c8),v=(vi r0)/\Fo=[bx g0 125 (f9 y0)]/\K r0 y0 H') panQE
def V2(x0)(H)(K:KT Bool):=
 ∀(g0:Nat),Ct pG 171 [(pt g0)] H [bx g0 125 (f9 x0)] (λv H' Fo=>∃(r0:Bool),v=(vB r0)/\Fo=[bx g0 125 (f9 x0)]/\K r0 H') noQE
def a0G [PanQ] (x0:c8) (x1:Int) (H:Hp) (K:p5->c8->Hp->Prop):=
 ∀(g0:Nat),Ct pG 140 [(pt g0),(vi x1)] H [bx g0 125 (f9 x0)] (λv H' Fo=>∃(r0:p5)(y0:c8),v=(yG (l7 r0))/\Fo=[bx g0 125 (f9 y0)]/\K r0 y0 H') panQE
def b2Z(x0)(x1:Int)(H)(K:KT f8):=
 C1 161 [(yG (p9 x0)),(Value.int .i32 x1)] H (λr=>(yG (p9 r))) K
def a3Z(x0)(x1)(H)(K:Int->c8->Hp->Prop):=
 ∀(g0:Nat),Ct pG 169 [(pt g0),(yG (a0y x1))] H [bx g0 125 (f9 x0)] (λv H' Fo=>∃(r0:Int)(y0:c8),v=(vi r0)/\Fo=[bx g0 125 (f9 y0)]/\K r0 y0 H') noQE
def W0 [PanQ] (x0:c8) (x1:Int) (H:Hp) (K:l9->c8->Hp->Prop):=
 ∀(g0:Nat),Ct pG 170 [(pt g0),(vi x1)] H [bx g0 125 (f9 x0)] (λv H' Fo=>∃(r0:l9)(y0:c8),v=(yG (g9 r0))/\Fo=[bx g0 125 (f9 y0)]/\K r0 y0 H') panQE
def b0g(x0:a1z)(H)(K:KT Bool):=
 C1 208 [(yG (q6 x0.a2W))] H vB K
def a9e(x0:a1z)(H)(K:KT Sl):=
 C1 209 [(yG (q6 x0.a2W))] H vs K
def a5K(x0:a0D)(H)(K:KT Bool):=
 C1 210 [(yG (q9 x0.t8))] H vB K
def b1n(x0)(H)(K:KT j8):=
 C1 213 [(yG (l7 x0))] H O2 K
def M4(x0)(H)(K:KT Sl):=
 C1 212 [(vs x0),(fC 213)] H vs K
def b1o(x0)(H)(K:KT j8):=
 C1 215 [(yG (g9 x0))] H O2 K
def G8(x0)(H)(K:KT Sl):=
 C1 214 [(vs x0),(fC 215)] H vs K
def a9f(x0:a0D)(H)(K:KT Sl):=
 C1 211 [(yG (q9 x0.t8))] H vs K
def a5L(x0:U6)(H)(K:KT Bool):=
 C1 216 [(yG (g9 x0.C8))] H vB K
def a9g(x0:U6)(H)(K:KT Sl):=
 C1 217 [(yG (g9 x0.C8))] H vs K
def a5M(x0:a0E)(H)(K:KT Bool):=
 C1 222 [(yG (l7 x0.C3))] H vB K
def a9h(x0:a0E)(H)(K:KT Sl):=
 C1 223 [(yG (l7 x0.C3))] H vs K
def a7B(x:j8)(H:Hp)(K:KT Bool):Prop:=match x with
 | .nil=>False
 | .T7 y=>b0g y H K
 | .Q8 y=>a5K y H K
 | .Q2 y=>a5L y H K
 | .U9 y=>a5M y H K
def a6C(x:j8)(H:Hp)(K:KT Sl):Prop:=match x with
 | .nil=>False
 | .T7 y=>a9e y H K
 | .Q8 y=>a9f y H K
 | .Q2 y=>a9g y H K
 | .U9 y=>a9h y H K
theorem b7b {E : Pan} {w0 w : World} {ps : Nat -> Prop} {H0 H : Hp} {Fr : List Frag} {K : RT} {Kc : Bool -> Hp -> Prop} {x : j8} (I : Inv w0 ps H0 H Fr w) (h : a7B x H Kc) (hq : ∀ (r0 : Bool) (H' : Hp) (w' : World), Inv w0 ps H0 H' Fr w' -> Hle H H' -> (∀ i, i < w.heap.size -> ¬ inF [] i -> w'.heap[i]? = w.heap[i]?) -> Kc r0 H' -> K (vB r0) w') : oP E (xInvoke (O2 x) "gnomon/tree.form" []) w K := by
 cases x with
 | nil=>exact h.elim
 | T7 y=>exact a4p (f:=208) (args:=[(yG (q6 y.a2W))].toArray) (by kernel_rfl) (a1y (Fi:=[]) I h (λv H' Fo w' I' l hk hq'=>by obtain ⟨r0,rfl,rfl,hK⟩:=hq';exact hq r0 H' w' I' l hk hK) (λ_ _ _ _ _ q=>q.elim))
 | Q8 y=>exact a4p (f:=210) (args:=[(yG (q9 y.t8))].toArray) (by kernel_rfl) (a1y (Fi:=[]) I h (λv H' Fo w' I' l hk hq'=>by obtain ⟨r0,rfl,rfl,hK⟩:=hq';exact hq r0 H' w' I' l hk hK) (λ_ _ _ _ _ q=>q.elim))
 | Q2 y=>exact a4p (f:=216) (args:=[(yG (g9 y.C8))].toArray) (by kernel_rfl) (a1y (Fi:=[]) I h (λv H' Fo w' I' l hk hq'=>by obtain ⟨r0,rfl,rfl,hK⟩:=hq';exact hq r0 H' w' I' l hk hK) (λ_ _ _ _ _ q=>q.elim))
 | U9 y=>exact a4p (f:=222) (args:=[(yG (l7 y.C3))].toArray) (by kernel_rfl) (a1y (Fi:=[]) I h (λv H' Fo w' I' l hk hq'=>by obtain ⟨r0,rfl,rfl,hK⟩:=hq';exact hq r0 H' w' I' l hk hK) (λ_ _ _ _ _ q=>q.elim))
theorem b6E {E : Pan} {w0 w : World} {ps : Nat -> Prop} {H0 H : Hp} {Fr : List Frag} {K : RT} {Kc : Sl -> Hp -> Prop} {x : j8} (I : Inv w0 ps H0 H Fr w) (h : a6C x H Kc) (hq : ∀ (r0 : Sl) (H' : Hp) (w' : World), Inv w0 ps H0 H' Fr w' -> Hle H H' -> (∀ i, i < w.heap.size -> ¬ inF [] i -> w'.heap[i]? = w.heap[i]?) -> Kc r0 H' -> K (vs r0) w') : oP E (xInvoke (O2 x) "gnomon/tree.parts" []) w K := by
 cases x with
 | nil=>exact h.elim
 | T7 y=>exact a4p (f:=209) (args:=[(yG (q6 y.a2W))].toArray) (by kernel_rfl) (a1y (Fi:=[]) I h (λv H' Fo w' I' l hk hq'=>by obtain ⟨r0,rfl,rfl,hK⟩:=hq';exact hq r0 H' w' I' l hk hK) (λ_ _ _ _ _ q=>q.elim))
 | Q8 y=>exact a4p (f:=211) (args:=[(yG (q9 y.t8))].toArray) (by kernel_rfl) (a1y (Fi:=[]) I h (λv H' Fo w' I' l hk hq'=>by obtain ⟨r0,rfl,rfl,hK⟩:=hq';exact hq r0 H' w' I' l hk hK) (λ_ _ _ _ _ q=>q.elim))
 | Q2 y=>exact a4p (f:=217) (args:=[(yG (g9 y.C8))].toArray) (by kernel_rfl) (a1y (Fi:=[]) I h (λv H' Fo w' I' l hk hq'=>by obtain ⟨r0,rfl,rfl,hK⟩:=hq';exact hq r0 H' w' I' l hk hK) (λ_ _ _ _ _ q=>q.elim))
 | U9 y=>exact a4p (f:=223) (args:=[(yG (l7 y.C3))].toArray) (by kernel_rfl) (a1y (Fi:=[]) I h (λv H' Fo w' I' l hk hq'=>by obtain ⟨r0,rfl,rfl,hK⟩:=hq';exact hq r0 H' w' I' l hk hK) (λ_ _ _ _ _ q=>q.elim))
end Go.Proofs.YthjlehnccgjpoaaGreatDoor
