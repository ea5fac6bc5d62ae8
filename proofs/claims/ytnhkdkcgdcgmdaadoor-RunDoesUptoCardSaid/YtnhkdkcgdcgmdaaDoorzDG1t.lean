/- The second reading of some of the program's functions, printed by gen2.py off the code; each is held against the code by the kernel. -/
import Derived.Test.YtnhkdkcgdcgmdaaDoorProg
import Derived.Test.YtnhkdkcgdcgmdaaDoorzDK0
import Derived.KernelRfl
import Derived.Test.YtnhkdkcgdcgmdaaDoorzDGz
namespace Go.Proofs.YtnhkdkcgdcgmdaaDoor
open Go.RowKit
set_option maxRecDepth 100000
def F3 (x0 x1 : Value) (w : World) (R : RT) (E : Pan) : Prop :=
 oP E (xV (Instr.box 24 x0)) w fun b6h w_2 =>
 oP E (xV (Instr.box 27 x1)) w_2 fun a2R w_4 =>
 oP E (xCall (fC 10) []) w_4 fun a3F w_6 =>
 oP E (xV (Op.unary .not a3F)) w_6 fun S2 w_8 =>
 xcond S2
 (R (vB false) w_8)
 (oP E (lA 24 b6h) w_8 fun c7J m4 =>
 oP E (xCall (fC 11) [c7J]) m4 fun d0J o0 =>
 oP E (eX d0J 0) o0 fun a7D m8 =>
 oP E (eX d0J 1) m8 fun a2O o8 =>
 oP E (xV (Instr.alloc 24 true (.tuple #[]))) o8 fun c0K p6 =>
 oP E (sA 24 c0K a7D) p6 fun _z_19 p7 =>
 oP E (lA 24 b6h) p7 fun e9L q9 =>
 oP E (xCall (fC 12) [e9L]) q9 fun b6R t8 =>
 oP E (eX b6R 0) t8 fun c1I z8 =>
 oP E (eX b6R 1) z8 fun c3n B9 =>
 oP E (xV (Instr.alloc 24 true (.tuple #[]))) B9 fun d7y D3 =>
 oP E (sA 24 d7y c1I) D3 fun _z_31 B4 =>
 oP E (lA 27 a2R) B4 fun e9M C6 =>
 oP E (xCall (fC 13) [e9M]) C6 fun d0K E5 =>
 oP E (eX d0K 0) E5 fun c3o D4 =>
 oP E (eX d0K 1) D4 fun b2K D6 =>
 oP E (xV (Instr.alloc 27 true (.tuple #[]))) D6 fun b7C G0 =>
 oP E (sA 27 b7C c3o) G0 fun _z_43 E7 =>
 oP E (lA 27 a2R) E7 fun e9N K7 =>
 oP E (xCall (fC 14) [e9N]) K7 fun d0L J0 =>
 oP E (eX d0L 0) J0 fun e9O F7 =>
 oP E (eX d0L 1) F7 fun c3p E2 =>
 oP E (xV (Instr.alloc 27 true (.tuple #[]))) E2 fun d0M L0 =>
 oP E (sA 27 d0M e9O) L0 fun _z_55 L4 =>
 oP E (xBin .neq 3 (.tmp 35) (.tmp 36) a2O c3n) L4 fun b7D L1 =>
 oP E (gsem (asB b7D) false (xBin .neq 3 (.tmp 39) (.tmp 40) (gval (asB b7D) false b2K) (gval (asB b7D) false c3p))) L1 fun e9P N8 =>
 oP E (xPick b7D (vB true) e9P) N8 fun e9Q L5 =>
 xcond e9Q
 (R (vB false) L5)
 (oP E (xBin .eql 3 (.tmp 43) (.const (vI 0)) c3n (vI 0)) L5 fun b3u M4 =>
 oP E (gsem (asB b3u) true (lA 24 c0K)) M4 fun e9R N9 =>
 oP E (gsem (asB b3u) true (lA 24 d7y)) N9 fun e9S O0 =>
 oP E (gsem (asB b3u) true (xCall (fC 15) [e9R, e9S])) O0 fun e9T L2 =>
 oP E (gsem (asB b3u) true (xV (Op.unary .not e9T))) L2 fun e9U O4 =>
 oP E (xPick b3u e9U (vB false)) O4 fun a1A O5 =>
 oP E (gsem (asB a1A) false (xBin .neq 3 (.tmp 52) (.const (vI 0)) (gval (asB a1A) false c3n) (vI 0))) O5 fun a4d Q7 =>
 oP E (gsem (asB (gval (asB a1A) false a4d)) true (fA 24 c0K 0)) Q7 fun c3q N0 =>
 oP E (gsem (asB (gval (asB a1A) false a4d)) true (lA 3 c3q)) N0 fun c3r R8 =>
 oP E (gsem (asB (gval (asB a1A) false a4d)) true (xBin .neq 3 (.tmp 56) (.const (vI 0)) c3r (vI 0))) R8 fun a8w P9 =>
 oP E (gsem (asB (gval (asB (gval (asB a1A) false a4d)) true a8w)) false (fA 24 c0K 3)) P9 fun c3s O6 =>
 oP E (gsem (asB (gval (asB (gval (asB a1A) false a4d)) true a8w)) false (lA 22 c3s)) O6 fun e9V R9 =>
 oP E (gsem (asB (gval (asB (gval (asB a1A) false a4d)) true a8w)) false (xBuiltin .len #[22] 3 [false] [e9V])) R9 fun e9W M5 =>
 oP E (gsem (asB (gval (asB (gval (asB a1A) false a4d)) true a8w)) false (xBin .gtr 3 (.tmp 61) (.const (vI 0)) e9W (vI 0))) M5 fun e9X X6 =>
 oP E (gsem (asB (gval (asB a1A) false a4d)) true (xPick (gval (asB (gval (asB a1A) false a4d)) true a8w) (vB true) e9X)) X6 fun e9Y a0Q =>
 oP E (gsem (asB a1A) false (xPick (gval (asB a1A) false a4d) e9Y (vB false))) a0Q fun e9Z a0y =>
 oP E (xPick a1A (vB true) e9Z) a0y fun f0a a0e =>
 xcond f0a
 (R (vB false) a0e)
 (oP E (xBin .eql 3 (.tmp 66) (.const (vI 0)) c3p (vI 0)) a0e fun b7E a0k =>
 oP E (gsem (asB b7E) true (lA 27 b7C)) a0k fun f0b T0 =>
 oP E (gsem (asB b7E) true (lA 27 d0M)) T0 fun e0I N2 =>
 oP E (gsem (asB b7E) true (xCall (fC 16) [f0b, e0I])) N2 fun e0J O1 =>
 oP E (xPick b7E e0J (vB false)) O1 fun O8 U1 =>
 oP E (gsem (asB O8) false (xBin .neq 3 (.tmp 74) (.const (vI 0)) (gval (asB O8) false c3p) (vI 0))) U1 fun b4C a1u =>
 oP E (gsem (asB (gval (asB O8) false b4C)) true (fA 27 b7C 0)) a1u fun e0K a2Y =>
 oP E (gsem (asB (gval (asB O8) false b4C)) true (lA 3 e0K)) a2Y fun e0L a1v =>
 oP E (gsem (asB (gval (asB O8) false b4C)) true (xBin .eql 3 (.tmp 78) (.const (vI 0)) e0L (vI 0))) a1v fun e0M Q8 =>
 oP E (gsem (asB O8) false (xPick (gval (asB O8) false b4C) e0M (vB false))) Q8 fun b0l U2 =>
 oP E (gsem (asB (gval (asB O8) false b0l)) true (fA 27 b7C 3)) U2 fun b9t a2p =>
 oP E (gsem (asB (gval (asB O8) false b0l)) true (lA 25 b9t)) a2p fun b9u Q0 =>
 oP E (gsem (asB (gval (asB O8) false b0l)) true (xBuiltin .len #[25] 3 [false] [b9u])) Q0 fun b9v a1H =>
 oP E (gsem (asB (gval (asB O8) false b0l)) true (xBin .eql 3 (.tmp 84) (.const (vI 0)) b9v (vI 0))) a1H fun e0N a4i =>
 oP E (gsem (asB O8) false (xPick (gval (asB O8) false b0l) e0N (vB false))) a4i fun b0m a5n =>
 oP E (gsem (asB (gval (asB O8) false b0m)) true (fA 27 b7C 2)) a5n fun e0O a4j =>
 oP E (gsem (asB (gval (asB O8) false b0m)) true (lA 22 e0O)) a4j fun e0P a4k =>
 oP E (gsem (asB (gval (asB O8) false b0m)) true (xBuiltin .len #[22] 3 [false] [e0P])) a4k fun e0Q a2r =>
 oP E (gsem (asB (gval (asB O8) false b0m)) true (xBin .eql 3 (.tmp 90) (.const (vI 0)) e0Q (vI 0))) a2r fun e0R a2s =>
 oP E (gsem (asB O8) false (xPick (gval (asB O8) false b0m) e0R (vB false))) a2s fun e0S a3A =>
 oP E (xPick O8 (vB true) e0S) a3A fun e0T a5l =>
 R e0T a5l)))
noncomputable def c3 : Code := Tryd.f3.body.getD .skip
def h3 : Hint := (sQ (.seq (sQ (.cond (sQ .none) .none)) (sQ (sQ (sQ (sQ (.seq (sQ (.cond (sQ .none) .none)) (.seq (sQ (.cond (sQ .none) .none)) (sQ .none)))))))))
def F9 (x0 : Value) (w : World) (R : RT) (E : Pan) : Prop :=
 oP E (xV (Instr.box 44 x0)) w fun s8 w_2 =>
 oP E (xCall (fC 10) []) w_2 fun c7V w_4 =>
 oP E (xV (Op.unary .not c7V)) w_4 fun c0L w_6 =>
 xcond c0L
 (R (vB false) w_6)
 (oP E (lA 44 s8) w_6 fun f8o w_8 =>
 oP E (xCall (fC 31) [f8o]) w_8 fun b4D m4 =>
 oP E (eX b4D 0) m4 fun a6u o0 =>
 oP E (eX b4D 1) o0 fun c3t m8 =>
 oP E (xV (Instr.alloc 44 true (.tuple #[]))) m8 fun b4E o8 =>
 oP E (sA 44 b4E a6u) o8 fun _z_17 p6 =>
 oP E (xBin .neq 29 (.tmp 26) (.const (vI 0)) c3t (vI 0)) p6 fun c3u p7 =>
 xcond c3u
 (R (vB true) p7)
 (oP E (lA 44 b4E) p7 fun f0c q9 =>
 oP E (xCall (fC 31) [f0c]) q9 fun d0N t8 =>
 oP E (eX d0N 0) t8 fun f0d z8 =>
 oP E (eX d0N 1) z8 fun f0e B9 =>
 oP E (xV (Instr.alloc 44 true (.tuple #[]))) B9 fun d7z D3 =>
 oP E (sA 44 d7z f0d) D3 fun _z_31 B4 =>
 oP E (lA 44 s8) B4 fun b2N C6 =>
 oP E (xCall (fC 32) [b2N]) C6 fun b0n E5 =>
 oP E (eX b0n 0) E5 fun b3v D4 =>
 oP E (eX b0n 1) D4 fun _t37_39 D6 =>
 oP E (lA 44 b4E) D6 fun f0f G0 =>
 oP E (xCall (fC 32) [f0f]) G0 fun b7F E7 =>
 oP E (eX b7F 0) E7 fun c3v K7 =>
 oP E (eX b7F 1) K7 fun _t42_47 J0 =>
 oP E (lA 44 s8) J0 fun f0g F7 =>
 oP E (xCall (fC 33) [f0g]) F7 fun d0O E2 =>
 oP E (eX d0O 0) E2 fun f0h L0 =>
 oP E (eX d0O 1) L0 fun _t47_55 L4 =>
 oP E (lA 44 b4E) L4 fun c3w L1 =>
 oP E (xCall (fC 33) [c3w]) L1 fun b7G N8 =>
 oP E (eX b7G 0) N8 fun c3x L5 =>
 oP E (eX b7G 1) L5 fun _t52_63 M4 =>
 oP E (lA 44 s8) M4 fun c3y N9 =>
 oP E (xCall (fC 34) [c3y]) N9 fun b7H O0 =>
 oP E (eX b7H 0) O0 fun _t56_69 L2 =>
 oP E (eX b7H 1) L2 fun f0i O4 =>
 oP E (lA 44 b4E) O4 fun f0j O5 =>
 oP E (xCall (fC 34) [f0j]) O5 fun d0P Q7 =>
 oP E (eX d0P 0) Q7 fun _t61_77 N0 =>
 oP E (eX d0P 1) N0 fun f0k R8 =>
 oP E (xBin .eql 29 (.tmp 63) (.const (vI 0)) f0e (vI 0)) R8 fun b7I P9 =>
 oP E (gsem (asB b7I) true (lA 44 b4E)) P9 fun f0l O6 =>
 oP E (gsem (asB b7I) true (lA 44 d7z)) O6 fun f0m R9 =>
 oP E (gsem (asB b7I) true (xCall (fC 35) [f0l, f0m])) R9 fun f0n M5 =>
 oP E (xPick b7I f0n (vB false)) M5 fun b7J X6 =>
 oP E (gsem (asB b7J) true (xBin .leq 3 (.tmp 71) (.tmp 72) (gval (asB b7J) true c3v) (gval (asB b7J) true b3v))) X6 fun f0o a0Q =>
 oP E (xPick b7J f0o (vB false)) a0Q fun b7K a0y =>
 oP E (gsem (asB b7K) true (xBin .leq 3 (.tmp 76) (.tmp 77) (gval (asB b7K) true c3x) (gval (asB b7K) true f0h))) a0y fun f0p a0e =>
 oP E (xPick b7K f0p (vB false)) a0e fun a8x a0k =>
 oP E (gsem (asB a8x) true (xBin .neq 29 (.tmp 81) (.const (vI 0)) (gval (asB a8x) true f0i) (vI 0))) a0k fun c3z T0 =>
 oP E (gsem (asB (gval (asB a8x) true c3z)) false (xBin .eql 29 (.tmp 84) (.const (vI 0)) (gval (asB (gval (asB a8x) true c3z)) false f0k) (vI 0))) T0 fun e0U N2 =>
 oP E (gsem (asB a8x) true (xPick (gval (asB a8x) true c3z) (vB true) e0U)) N2 fun e0V O1 =>
 oP E (xPick a8x e0V (vB false)) O1 fun e0W U1 =>
 R e0W U1))
noncomputable def c9 : Code := Tryd.f9.body.getD .skip
def F10 (w : World) (R : RT) (E : Pan) : Prop :=
 oP E (xCall (fC 36) [(vI 1)]) w fun b2A w_2 =>
 oP E (xCall (fC 36) [(vI 2)]) w_2 fun a7A w_4 =>
 oP E (xV (Instr.buildSlice 22 2 #[(0, b2A), (1, a7A)])) w_4 fun b9w w_6 =>
 oP E (xV (Instr.build 24 #[(0, (vI 6)), (3, b9w)])) w_6 fun d4v w_8 =>
 oP E (xV (Instr.build 24 #[(0, (vI 2)), (2, (Value.string ⟨#[120]⟩))])) w_8 fun f8p m4 =>
 oP E (xV (Instr.buildSlice 22 2 #[(0, d4v), (1, f8p)])) m4 fun a6n o0 =>
 oP E (xV (Instr.build 24 #[(0, (vI 8)), (3, a6n)])) o0 fun a6o m8 =>
 oP E (xCall (fC 11) [a6o]) m8 fun a7G o8 =>
 oP E (eX a7G 0) o8 fun b6T p6 =>
 oP E (eX a7G 1) p6 fun a7H p7 =>
 oP E (xV (Instr.alloc 24 true (.tuple #[]))) p7 fun b7L q9 =>
 oP E (sA 24 b7L b6T) q9 fun _z_23 t8 =>
 oP E (xCall (fC 36) [(vI 1)]) t8 fun c2n z8 =>
 oP E (xCall (fC 36) [(vI 2)]) z8 fun c2o B9 =>
 oP E (xV (Instr.buildSlice 22 2 #[(0, c2n), (1, c2o)])) B9 fun c2p D3 =>
 oP E (xV (Instr.build 27 #[(0, (vI 3)), (1, (vI 1)), (2, c2p)])) D3 fun c2q B4 =>
 oP E (xCall (fC 13) [c2q]) B4 fun b7d C6 =>
 oP E (eX b7d 0) C6 fun c2r E5 =>
 oP E (eX b7d 1) E5 fun c2s D4 =>
 oP E (xV (Instr.alloc 27 true (.tuple #[]))) D4 fun d7A D6 =>
 oP E (sA 27 d7A c2r) D6 fun _z_41 G0 =>
 oP E (xBin .eql 29 (.tmp 24) (.const (vI 0)) a7H (vI 0)) G0 fun b2B E7 =>
 oP E (gsem (asB b2B) true (xBin .eql 29 (.tmp 27) (.const (vI 0)) (gval (asB b2B) true c2s) (vI 0))) E7 fun f0q K7 =>
 oP E (xPick b2B f0q (vB false)) K7 fun b7M J0 =>
 oP E (gsem (asB b7M) true (fA 24 b7L 0)) J0 fun f0r F7 =>
 oP E (gsem (asB b7M) true (lA 3 f0r)) F7 fun f0s E2 =>
 oP E (gsem (asB b7M) true (xBin .eql 3 (.tmp 32) (.const (vI 8)) f0s (vI 8))) E2 fun f0t L0 =>
 oP E (xPick b7M f0t (vB false)) L0 fun b3w L4 =>
 oP E (gsem (asB b3w) true (fA 24 b7L 3)) L4 fun f0u L1 =>
 oP E (gsem (asB b3w) true (lA 22 f0u)) L1 fun f0v N8 =>
 oP E (gsem (asB b3w) true (xBuiltin .len #[22] 3 [false] [f0v])) N8 fun f0w L5 =>
 oP E (gsem (asB b3w) true (xBin .eql 3 (.tmp 38) (.const (vI 2)) f0w (vI 2))) L5 fun f0x M4 =>
 oP E (xPick b3w f0x (vB false)) M4 fun a8y N9 =>
 oP E (gsem (asB a8y) true (fA 24 b7L 3)) N9 fun f0y O0 =>
 oP E (gsem (asB a8y) true (lA 22 f0y)) O0 fun f0z L2 =>
 oP E (gsem (asB a8y) true (iA 22 f0z (vI 0))) L2 fun f0A O4 =>
 oP E (gsem (asB a8y) true (fA 24 f0A 0)) O4 fun f0B O5 =>
 oP E (gsem (asB a8y) true (lA 3 f0B)) O5 fun c2t Q7 =>
 oP E (gsem (asB a8y) true (xBin .eql 3 (.tmp 46) (.const (vI 1)) c2t (vI 1))) Q7 fun f0C N0 =>
 oP E (xPick a8y f0C (vB false)) N0 fun a8z R8 =>
 oP E (gsem (asB a8z) true (fA 24 b7L 3)) R8 fun f0D P9 =>
 oP E (gsem (asB a8z) true (lA 22 f0D)) P9 fun f0E O6 =>
 oP E (gsem (asB a8z) true (iA 22 f0E (vI 0))) O6 fun f0F R9 =>
 oP E (gsem (asB a8z) true (fA 24 f0F 1)) R9 fun c2d M5 =>
 oP E (gsem (asB a8z) true (lA 2 c2d)) M5 fun c2e X6 =>
 oP E (gsem (asB a8z) true (xBin .eql 2 (.tmp 54) (.const (vI 3)) c2e (vI 3))) X6 fun c2f a0Q =>
 oP E (xPick a8z c2f (vB false)) a0Q fun b7N a0y =>
 oP E (gsem (asB b7N) true (fA 27 d7A 0)) a0y fun f0G a0e =>
 oP E (gsem (asB b7N) true (lA 3 f0G)) a0e fun f0H a0k =>
 oP E (gsem (asB b7N) true (xBin .eql 3 (.tmp 59) (.const (vI 1)) f0H (vI 1))) a0k fun f0I T0 =>
 oP E (xPick b7N f0I (vB false)) T0 fun e0X N2 =>
 R e0X N2
noncomputable def c10 : Code := Tryd.f10.body.getD .skip
def F11 (x0 : Value) (w : World) (R : RT) (E : Pan) : Prop :=
 oP E (xV (Instr.box 24 x0)) w fun s8 w_2 =>
 oP E (xV (Instr.alloc 24 true (.tuple #[]))) w_2 fun c7W w_4 =>
 oP E (lA 24 s8) w_4 fun c1W w_6 =>
 oP E (xCall (fC 37) [c1W]) w_6 fun b8U w_8 =>
 oP E (xBin .neq 29 (.tmp 7) (.const (vI 0)) b8U (vI 0)) w_8 fun a6B m4 =>
 xcond a6B
 (oP E (xV (Instr.build 24 #[])) m4 fun a9c o0 =>
 oP E (sA 24 c7W a9c) o0 fun _z_13 m8 =>
 xcell Tryd.prog 24 c7W m8 fun d4z =>
 R (Value.tuple #[d4z, b8U]) m8)
 (oP E (lA 24 s8) m4 fun b2z a1Y =>
 oP E (xCall (fC 38) [b2z]) a1Y fun f0J a2T =>
 oP E (sA 24 c7W f0J) a2T fun _z_20 a1D =>
 xcell Tryd.prog 24 c7W a1D fun g2S =>
 R (Value.tuple #[g2S, (vI 0)]) a1D)
end Go.Proofs.YtnhkdkcgdcgmdaaDoor
