/- The second reading of some of the program's functions, printed by gen2.py off the code; each is held against the code by the kernel. -/
import Derived.Test.YtnhkdkcgdcgmdaaDoorProg
import Derived.Test.YtnhkdkcgdcgmdaaDoorzLK0
import Derived.KernelRfl
import Derived.Test.YtnhkdkcgdcgmdaaDoorzLGz
namespace Go.Proofs.YtnhkdkcgdcgmdaaDoor
open Go.RowKit
set_option maxRecDepth 100000
def F3 (x0 x1 : Value) (w : World) (R : RT) (E : Pan) : Prop :=
 oP E (xV (Instr.box 24 x0)) w fun b0o w_2 =>
 oP E (xV (Instr.box 27 x1)) w_2 fun a3h w_4 =>
 oP E (xCall (fC 10) []) w_4 fun a3U w_6 =>
 oP E (xV (Op.unary .not a3U)) w_6 fun S8 w_8 =>
 xcond S8
 (R (vB false) w_8)
 (oP E (lA 24 b0o) w_8 fun c8g m8 =>
 oP E (xCall (fC 11) [c8g]) m8 fun d1c o4 =>
 oP E (eX d1c 0) o4 fun a7U o2 =>
 oP E (eX d1c 1) o2 fun a3d p5 =>
 oP E (xV (Instr.alloc 24 true (.tuple #[]))) p5 fun c1f q7 =>
 oP E (sA 24 c1f a7U) q7 fun _z_19 q9 =>
 oP E (lA 24 b0o) q9 fun f0e t1 =>
 oP E (xCall (fC 12) [f0e]) t1 fun b7w u5 =>
 oP E (eX b7w 0) u5 fun c2c A7 =>
 oP E (eX b7w 1) A7 fun c3y C3 =>
 oP E (xV (Instr.alloc 24 true (.tuple #[]))) C3 fun d7S D8 =>
 oP E (sA 24 d7S c2c) D8 fun _z_31 B9 =>
 oP E (lA 27 a3h) B9 fun f0f D2 =>
 oP E (xCall (fC 13) [f0f]) D2 fun d1d F7 =>
 oP E (eX d1d 0) F7 fun c3z D9 =>
 oP E (eX d1d 1) D9 fun b3e E1 =>
 oP E (xV (Instr.alloc 27 true (.tuple #[]))) E1 fun b8d G6 =>
 oP E (sA 27 b8d c3z) G6 fun _z_43 G1 =>
 oP E (lA 27 a3h) G1 fun f0g L5 =>
 oP E (xCall (fC 14) [f0g]) L5 fun d1e K4 =>
 oP E (eX d1e 0) K4 fun f0h G5 =>
 oP E (eX d1e 1) G5 fun c3A E3 =>
 oP E (xV (Instr.alloc 27 true (.tuple #[]))) E3 fun d1f M3 =>
 oP E (sA 27 d1f f0h) M3 fun _z_55 M4 =>
 oP E (xBin .neq 3 (.tmp 35) (.tmp 36) a3d c3y) M4 fun b8e M1 =>
 oP E (gsem (asB b8e) false (xBin .neq 3 (.tmp 39) (.tmp 40) (gval (asB b8e) false b3e) (gval (asB b8e) false c3A))) M1 fun f0i O3 =>
 oP E (xPick b8e (vB true) f0i) O3 fun f0j M5 =>
 xcond f0j
 (R (vB false) M5)
 (oP E (xBin .eql 3 (.tmp 43) (.const (vI 0)) c3y (vI 0)) M5 fun b3M N0 =>
 oP E (gsem (asB b3M) true (lA 24 c1f)) N0 fun f0k O4 =>
 oP E (gsem (asB b3M) true (lA 24 d7S)) O4 fun f0l O5 =>
 oP E (gsem (asB b3M) true (xCall (fC 15) [f0k, f0l])) O5 fun f0m L6 =>
 oP E (gsem (asB b3M) true (xV (Op.unary .not f0m))) L6 fun f0n P1 =>
 oP E (xPick b3M f0n (vB false)) P1 fun a1K Q3 =>
 oP E (gsem (asB a1K) false (xBin .neq 3 (.tmp 52) (.const (vI 0)) (gval (asB a1K) false c3y) (vI 0))) Q3 fun a4t R8 =>
 oP E (gsem (asB (gval (asB a1K) false a4t)) true (fA 24 c1f 0)) R8 fun c3B N4 =>
 oP E (gsem (asB (gval (asB a1K) false a4t)) true (lA 3 c3B)) N4 fun c3C S4 =>
 oP E (gsem (asB (gval (asB a1K) false a4t)) true (xBin .neq 3 (.tmp 56) (.const (vI 0)) c3C (vI 0))) S4 fun a8R Q6 =>
 oP E (gsem (asB (gval (asB (gval (asB a1K) false a4t)) true a8R)) false (fA 24 c1f 3)) Q6 fun c3D P2 =>
 oP E (gsem (asB (gval (asB (gval (asB a1K) false a4t)) true a8R)) false (lA 22 c3D)) P2 fun f0o S5 =>
 oP E (gsem (asB (gval (asB (gval (asB a1K) false a4t)) true a8R)) false (xBuiltin .len #[22] 3 [false] [f0o])) S5 fun f0p N5 =>
 oP E (gsem (asB (gval (asB (gval (asB a1K) false a4t)) true a8R)) false (xBin .gtr 3 (.tmp 61) (.const (vI 0)) f0p (vI 0))) N5 fun f0q W5 =>
 oP E (gsem (asB (gval (asB a1K) false a4t)) true (xPick (gval (asB (gval (asB a1K) false a4t)) true a8R) (vB true) f0q)) W5 fun f0r a1g =>
 oP E (gsem (asB a1K) false (xPick (gval (asB a1K) false a4t) f0r (vB false))) a1g fun f0s a0K =>
 oP E (xPick a1K (vB true) f0s) a0K fun f0t a0q =>
 xcond f0t
 (R (vB false) a0q)
 (oP E (xBin .eql 3 (.tmp 66) (.const (vI 0)) c3A (vI 0)) a0q fun b8f a0L =>
 oP E (gsem (asB b8f) true (lA 27 b8d)) a0L fun f0u T5 =>
 oP E (gsem (asB b8f) true (lA 27 d1f)) T5 fun e1f N7 =>
 oP E (gsem (asB b8f) true (xCall (fC 16) [f0u, e1f])) N7 fun e1g O8 =>
 oP E (xPick b8f e1g (vB false)) O8 fun P3 U8 =>
 oP E (gsem (asB P3) false (xBin .neq 3 (.tmp 74) (.const (vI 0)) (gval (asB P3) false c3A) (vI 0))) U8 fun b4W a1E =>
 oP E (gsem (asB (gval (asB P3) false b4W)) true (fA 27 b8d 0)) a1E fun e1h a3q =>
 oP E (gsem (asB (gval (asB P3) false b4W)) true (lA 3 e1h)) a3q fun e1i a1F =>
 oP E (gsem (asB (gval (asB P3) false b4W)) true (xBin .eql 3 (.tmp 78) (.const (vI 0)) e1i (vI 0))) a1F fun e1j R9 =>
 oP E (gsem (asB P3) false (xPick (gval (asB P3) false b4W) e1j (vB false))) R9 fun b0K T6 =>
 oP E (gsem (asB (gval (asB P3) false b0K)) true (fA 27 b8d 3)) T6 fun b9L a2A =>
 oP E (gsem (asB (gval (asB P3) false b0K)) true (lA 25 b9L)) a2A fun b9M Q7 =>
 oP E (gsem (asB (gval (asB P3) false b0K)) true (xBuiltin .len #[25] 3 [false] [b9M])) Q7 fun b9N a1Q =>
 oP E (gsem (asB (gval (asB P3) false b0K)) true (xBin .eql 3 (.tmp 84) (.const (vI 0)) b9N (vI 0))) a1Q fun e1k a4y =>
 oP E (gsem (asB P3) false (xPick (gval (asB P3) false b0K) e1k (vB false))) a4y fun b0L a5z =>
 oP E (gsem (asB (gval (asB P3) false b0L)) true (fA 27 b8d 2)) a5z fun e1l a4z =>
 oP E (gsem (asB (gval (asB P3) false b0L)) true (lA 22 e1l)) a4z fun e1m a4A =>
 oP E (gsem (asB (gval (asB P3) false b0L)) true (xBuiltin .len #[22] 3 [false] [e1m])) a4A fun e1n a2D =>
 oP E (gsem (asB (gval (asB P3) false b0L)) true (xBin .eql 3 (.tmp 90) (.const (vI 0)) e1n (vI 0))) a2D fun e1o a2E =>
 oP E (gsem (asB P3) false (xPick (gval (asB P3) false b0L) e1o (vB false))) a2E fun e1p a3O =>
 oP E (xPick P3 (vB true) e1p) a3O fun e1q a5w =>
 R e1q a5w)))
noncomputable def c3 : Code := Tryd.f3.body.getD .skip
def h3 : Hint := (sQ (.seq (sQ (.cond (sQ .none) .none)) (sQ (sQ (sQ (sQ (.seq (sQ (.cond (sQ .none) .none)) (.seq (sQ (.cond (sQ .none) .none)) (sQ .none)))))))))
def F9 (x0 : Value) (w : World) (R : RT) (E : Pan) : Prop :=
 oP E (xV (Instr.box 44 x0)) w fun u1 w_2 =>
 oP E (xCall (fC 10) []) w_2 fun c8w w_4 =>
 oP E (xV (Op.unary .not c8w)) w_4 fun c1g w_6 =>
 xcond c1g
 (R (vB false) w_6)
 (oP E (lA 44 u1) w_6 fun f8K w_8 =>
 oP E (xCall (fC 31) [f8K]) w_8 fun b4X m8 =>
 oP E (eX b4X 0) m8 fun a6J o4 =>
 oP E (eX b4X 1) o4 fun c3E o2 =>
 oP E (xV (Instr.alloc 44 true (.tuple #[]))) o2 fun b4Y p5 =>
 oP E (sA 44 b4Y a6J) p5 fun _z_17 q7 =>
 oP E (xBin .neq 29 (.tmp 26) (.const (vI 0)) c3E (vI 0)) q7 fun c3F q9 =>
 xcond c3F
 (R (vB true) q9)
 (oP E (lA 44 b4Y) q9 fun f0v t1 =>
 oP E (xCall (fC 31) [f0v]) t1 fun d1g u5 =>
 oP E (eX d1g 0) u5 fun f0w A7 =>
 oP E (eX d1g 1) A7 fun f0x C3 =>
 oP E (xV (Instr.alloc 44 true (.tuple #[]))) C3 fun d7T D8 =>
 oP E (sA 44 d7T f0w) D8 fun _z_31 B9 =>
 oP E (lA 44 u1) B9 fun b3g D2 =>
 oP E (xCall (fC 32) [b3g]) D2 fun b0M F7 =>
 oP E (eX b0M 0) F7 fun b3N D9 =>
 oP E (eX b0M 1) D9 fun _t37_39 E1 =>
 oP E (lA 44 b4Y) E1 fun f0y G6 =>
 oP E (xCall (fC 32) [f0y]) G6 fun b8g G1 =>
 oP E (eX b8g 0) G1 fun c3G L5 =>
 oP E (eX b8g 1) L5 fun _t42_47 K4 =>
 oP E (lA 44 u1) K4 fun f0z G5 =>
 oP E (xCall (fC 33) [f0z]) G5 fun d1h E3 =>
 oP E (eX d1h 0) E3 fun f0A M3 =>
 oP E (eX d1h 1) M3 fun _t47_55 M4 =>
 oP E (lA 44 b4Y) M4 fun c3H M1 =>
 oP E (xCall (fC 33) [c3H]) M1 fun b8h O3 =>
 oP E (eX b8h 0) O3 fun c3I M5 =>
 oP E (eX b8h 1) M5 fun _t52_63 N0 =>
 oP E (lA 44 u1) N0 fun c3J O4 =>
 oP E (xCall (fC 34) [c3J]) O4 fun b8i O5 =>
 oP E (eX b8i 0) O5 fun _t56_69 L6 =>
 oP E (eX b8i 1) L6 fun f0B P1 =>
 oP E (lA 44 b4Y) P1 fun f0C Q3 =>
 oP E (xCall (fC 34) [f0C]) Q3 fun d1i R8 =>
 oP E (eX d1i 0) R8 fun _t61_77 N4 =>
 oP E (eX d1i 1) N4 fun f0D S4 =>
 oP E (xBin .eql 29 (.tmp 63) (.const (vI 0)) f0x (vI 0)) S4 fun b8j Q6 =>
 oP E (gsem (asB b8j) true (lA 44 b4Y)) Q6 fun f0E P2 =>
 oP E (gsem (asB b8j) true (lA 44 d7T)) P2 fun f0F S5 =>
 oP E (gsem (asB b8j) true (xCall (fC 35) [f0E, f0F])) S5 fun f0G N5 =>
 oP E (xPick b8j f0G (vB false)) N5 fun b8k W5 =>
 oP E (gsem (asB b8k) true (xBin .leq 3 (.tmp 71) (.tmp 72) (gval (asB b8k) true c3G) (gval (asB b8k) true b3N))) W5 fun f0H a1g =>
 oP E (xPick b8k f0H (vB false)) a1g fun b8l a0K =>
 oP E (gsem (asB b8l) true (xBin .leq 3 (.tmp 76) (.tmp 77) (gval (asB b8l) true c3I) (gval (asB b8l) true f0A))) a0K fun f0I a0q =>
 oP E (xPick b8l f0I (vB false)) a0q fun a8S a0L =>
 oP E (gsem (asB a8S) true (xBin .neq 29 (.tmp 81) (.const (vI 0)) (gval (asB a8S) true f0B) (vI 0))) a0L fun c3K T5 =>
 oP E (gsem (asB (gval (asB a8S) true c3K)) false (xBin .eql 29 (.tmp 84) (.const (vI 0)) (gval (asB (gval (asB a8S) true c3K)) false f0D) (vI 0))) T5 fun e1r N7 =>
 oP E (gsem (asB a8S) true (xPick (gval (asB a8S) true c3K) (vB true) e1r)) N7 fun e1s O8 =>
 oP E (xPick a8S e1s (vB false)) O8 fun e1t U8 =>
 R e1t U8))
noncomputable def c9 : Code := Tryd.f9.body.getD .skip
def h9 : Hint := (sQ (.seq (sQ (.cond (sQ .none) .none)) (sQ (.seq (sQ (.cond (sQ .none) .none)) (sQ (sQ (sQ (sQ (sQ (sQ (sQ (sQ .none))))))))))))
def F10 (w : World) (R : RT) (E : Pan) : Prop :=
 oP E (xCall (fC 36) [(vI 1)]) w fun b2U w_2 =>
 oP E (xCall (fC 36) [(vI 2)]) w_2 fun a7R w_4 =>
 oP E (xV (Instr.buildSlice 22 2 #[(0, b2U), (1, a7R)])) w_4 fun b9O w_6 =>
 oP E (xV (Instr.build 24 #[(0, (vI 6)), (3, b9O)])) w_6 fun d4O w_8 =>
 oP E (xV (Instr.build 24 #[(0, (vI 2)), (2, (Value.string ⟨#[120]⟩))])) w_8 fun f8L m8 =>
 oP E (xV (Instr.buildSlice 22 2 #[(0, d4O), (1, f8L)])) m8 fun a6C o4 =>
 oP E (xV (Instr.build 24 #[(0, (vI 8)), (3, a6C)])) o4 fun a6D o2 =>
 oP E (xCall (fC 11) [a6D]) o2 fun a7X p5 =>
 oP E (eX a7X 0) p5 fun b7y q7 =>
 oP E (eX a7X 1) q7 fun a7Y q9 =>
 oP E (xV (Instr.alloc 24 true (.tuple #[]))) q9 fun b8m t1 =>
 oP E (sA 24 b8m b7y) t1 fun _z_23 u5 =>
 oP E (xCall (fC 36) [(vI 1)]) u5 fun c2G A7 =>
 oP E (xCall (fC 36) [(vI 2)]) A7 fun c2H C3 =>
 oP E (xV (Instr.buildSlice 22 2 #[(0, c2G), (1, c2H)])) C3 fun c2I D8 =>
 oP E (xV (Instr.build 27 #[(0, (vI 3)), (1, (vI 1)), (2, c2I)])) D8 fun c2J B9 =>
 oP E (xCall (fC 13) [c2J]) B9 fun b7I D2 =>
 oP E (eX b7I 0) D2 fun c2K F7 =>
 oP E (eX b7I 1) F7 fun c2L D9 =>
 oP E (xV (Instr.alloc 27 true (.tuple #[]))) D9 fun d7U E1 =>
 oP E (sA 27 d7U c2K) E1 fun _z_41 G6 =>
 oP E (xBin .eql 29 (.tmp 24) (.const (vI 0)) a7Y (vI 0)) G6 fun b2V G1 =>
 oP E (gsem (asB b2V) true (xBin .eql 29 (.tmp 27) (.const (vI 0)) (gval (asB b2V) true c2L) (vI 0))) G1 fun f0J L5 =>
 oP E (xPick b2V f0J (vB false)) L5 fun b8n K4 =>
 oP E (gsem (asB b8n) true (fA 24 b8m 0)) K4 fun f0K G5 =>
 oP E (gsem (asB b8n) true (lA 3 f0K)) G5 fun f0L E3 =>
 oP E (gsem (asB b8n) true (xBin .eql 3 (.tmp 32) (.const (vI 8)) f0L (vI 8))) E3 fun f0M M3 =>
 oP E (xPick b8n f0M (vB false)) M3 fun b3O M4 =>
 oP E (gsem (asB b3O) true (fA 24 b8m 3)) M4 fun f0N M1 =>
 oP E (gsem (asB b3O) true (lA 22 f0N)) M1 fun f0O O3 =>
 oP E (gsem (asB b3O) true (xBuiltin .len #[22] 3 [false] [f0O])) O3 fun f0P M5 =>
 oP E (gsem (asB b3O) true (xBin .eql 3 (.tmp 38) (.const (vI 2)) f0P (vI 2))) M5 fun f0Q N0 =>
 oP E (xPick b3O f0Q (vB false)) N0 fun a8T O4 =>
 oP E (gsem (asB a8T) true (fA 24 b8m 3)) O4 fun f0R O5 =>
 oP E (gsem (asB a8T) true (lA 22 f0R)) O5 fun f0S L6 =>
 oP E (gsem (asB a8T) true (iA 22 f0S (vI 0))) L6 fun f0T P1 =>
 oP E (gsem (asB a8T) true (fA 24 f0T 0)) P1 fun f0U Q3 =>
 oP E (gsem (asB a8T) true (lA 3 f0U)) Q3 fun c2M R8 =>
 oP E (gsem (asB a8T) true (xBin .eql 3 (.tmp 46) (.const (vI 1)) c2M (vI 1))) R8 fun f0V N4 =>
 oP E (xPick a8T f0V (vB false)) N4 fun a8U S4 =>
 oP E (gsem (asB a8U) true (fA 24 b8m 3)) S4 fun f0W Q6 =>
 oP E (gsem (asB a8U) true (lA 22 f0W)) Q6 fun f0X P2 =>
 oP E (gsem (asB a8U) true (iA 22 f0X (vI 0))) P2 fun f0Y S5 =>
 oP E (gsem (asB a8U) true (fA 24 f0Y 1)) S5 fun c2x N5 =>
 oP E (gsem (asB a8U) true (lA 2 c2x)) N5 fun c2y W5 =>
 oP E (gsem (asB a8U) true (xBin .eql 2 (.tmp 54) (.const (vI 3)) c2y (vI 3))) W5 fun c2z a1g =>
 oP E (xPick a8U c2z (vB false)) a1g fun b8o a0K =>
 oP E (gsem (asB b8o) true (fA 27 d7U 0)) a0K fun f0Z a0q =>
 oP E (gsem (asB b8o) true (lA 3 f0Z)) a0q fun f1a a0L =>
 oP E (gsem (asB b8o) true (xBin .eql 3 (.tmp 59) (.const (vI 1)) f1a (vI 1))) a0L fun f1b T5 =>
 oP E (xPick b8o f1b (vB false)) T5 fun e1u N7 =>
 R e1u N7
noncomputable def c10 : Code := Tryd.f10.body.getD .skip
def h10 : Hint := (sQ (sQ (sQ (sQ .none))))
def F11 (x0 : Value) (w : World) (R : RT) (E : Pan) : Prop :=
 oP E (xV (Instr.box 24 x0)) w fun u1 w_2 =>
 oP E (xV (Instr.alloc 24 true (.tuple #[]))) w_2 fun c8x w_4 =>
 oP E (lA 24 u1) w_4 fun c2q w_6 =>
 oP E (xCall (fC 37) [c2q]) w_6 fun b9m w_8 =>
 oP E (xBin .neq 29 (.tmp 7) (.const (vI 0)) b9m (vI 0)) w_8 fun a6S m8 =>
 xcond a6S
 (oP E (xV (Instr.build 24 #[])) m8 fun a9z o4 =>
 oP E (sA 24 c8x a9z) o4 fun _z_13 o2 =>
 xcell Tryd.prog 24 c8x o2 fun d4R =>
 R (Value.tuple #[d4R, b9m]) o2)
 (oP E (lA 24 u1) m8 fun b2T a2k =>
 oP E (xCall (fC 38) [b2T]) a2k fun f1c a2z =>
 oP E (sA 24 c8x f1c) a2z fun _z_20 a1N =>
 xcell Tryd.prog 24 c8x a1N fun g3v =>
 R (Value.tuple #[g3v, (vI 0)]) a1N)
def h11 : Hint := (sQ (.seq (sQ (sQ (.cond (sQ .none) .none))) (sQ .none)))
end Go.Proofs.YtnhkdkcgdcgmdaaDoor
