/- The second reading of some of the program's functions, printed by gen2.py off the code; each is held against the code by the kernel. -/
import Derived.Test.YtnhkdkcgdcgmdaaGreatDoorProg
import Derived.Test.YtnhkdkcgdcgmdaaGreatDoorzRK0
import Derived.KernelRfl
import Derived.Test.YtnhkdkcgdcgmdaaGreatDoorzRGz
namespace Go.Proofs.YtnhkdkcgdcgmdaaGreatDoor
open Go.RowKit
set_option maxRecDepth 100000
variable {w : World} {R : RT} {E : Pan}
def h7z (x2 x3 x7 x10 : Value) (w : World) (R : RT) (E : Pan) : Prop :=
 ∀ _τ : Fr, (oP E (lA 25 x3) w fun g9R O3 =>
 oP E (xCall (fC 16) [g9R, x7, x2]) O3 fun e3R M8 =>
 oP E (eX e3R 0) M8 fun g9S Q4 =>
 oP E (eX e3R 1) Q4 fun _t95_61 P6 =>
 oP E (xV (Instr.alloc 42 true (.tuple #[]))) P6 fun e3S Q5 =>
 oP E (sA 42 e3S g9S) Q5 fun _z_65 S6 =>
 oP E (lA 42 e3S) S6 fun g9T Q8 =>
 oP E (lA 42 x10) Q8 fun g9U Q3 =>
 oP E (xCall (fC 18) [g9T, g9U]) Q3 fun g9V W6 =>
 R g9V W6)
def h7A (_x2 _x3 _x7 _x8 _x10 x13 : Value) (w : World) (next3 : NT) (_R : RT) (E : Pan) : Prop :=
 ∀ _τ : Fr, (oP E (xBin .add 3 (.tmp 70) (.const (vI 1)) x13 (vI 1)) w fun g9W U9 =>
 next3 [g9W] U9)
def h7B (_x2 _x3 _x7 x8 _x10 x13 x14 : Value) (w : World) (next5 : NT) (j4 : NT) (_R : RT) (E : Pan) : Prop :=
 oP E (fA 42 x8 5) w fun g9X V0 =>
 oP E (lA 40 g9X) V0 fun g9Y a2o =>
 oP E (iA 40 g9Y x13) a2o fun g9Z a4E =>
 oP E (lA 37 g9Z) a4E fun h0a a0h =>
 oP E (xBuiltin .len #[37] 3 [false] [h0a]) a0h fun h0b a6d =>
 oP E (xBin .lss 3 (.tmp 72) (.tmp 78) x14 h0b) a6d fun h0c a7m =>
 xcond h0c
 (oP E (fA 42 x8 5) a7m fun h0d a1e =>
 oP E (lA 40 h0d) a1e fun c7A a0i =>
 oP E (iA 40 c7A x13) a0i fun f5l a0J =>
 oP E (lA 37 f5l) a0J fun f5m a3H =>
 oP E (iA 37 f5m x14) a3H fun f5n a6B =>
 oP E (sA 2 f5n (vI 77)) a6B fun _z_109 a8X =>
 oP E (xBin .add 3 (.tmp 80) (.const (vI 1)) x14 (vI 1)) a8X fun c6w a7v =>
 next5 [c6w] a7v)
 (j4 [] a7m)
def h7C (x2 x3 x7 x8 x10 x13 : Value) (w : World) (next3 : NT) (j2 : NT) (R : RT) (E : Pan) : Prop :=
 oP E (fA 42 x8 5) w fun h0e a0v =>
 oP E (lA 40 h0e) a0v fun h0f W7 =>
 oP E (xBuiltin .len #[40] 3 [false] [h0f]) W7 fun h0g a0E =>
 oP E (xBin .lss 3 (.tmp 65) (.tmp 68) x13 h0g) a0E fun h0h V7 =>
 xcond h0h
 (xcut (fun _ a0g => h7A x2 x3 x7 x8 x10 x13 a0g next3 R E) fun j4 =>
 xloop [14] [(vI 0)] V7 fun τ_113 a1f next5 =>
 h7B x2 x3 x7 x8 x10 x13 (τ_113 14) a1f next5 j4 R E)
 (j2 [] V7)
def h7D (x2 x3 x7 x8 x10 : Value) (w : World) (R : RT) (E : Pan) : Prop :=
 ∀ _τ : Fr, (xcut (fun _ Y7 => h7z x2 x3 x7 x10 Y7 R E) fun j2 =>
 xloop [13] [(vI 0)] w fun τ_115 a3m next3 =>
 h7C x2 x3 x7 x8 x10 (τ_115 13) a3m next3 j2 R E)
def h7E (_x2 _x3 _x7 x8 _x10 x12 : Value) (w : World) (next6 : NT) (j1 : NT) (_R : RT) (E : Pan) : Prop :=
 oP E (fA 42 x8 4) w fun f5o a0K =>
 oP E (lA 37 f5o) a0K fun f5p a6C =>
 oP E (xBuiltin .len #[37] 3 [false] [f5p]) a6C fun f5q a8j =>
 oP E (xBin .lss 3 (.tmp 54) (.tmp 57) x12 f5q) a8j fun f5r a8Y =>
 xcond f5r
 (oP E (fA 42 x8 4) a8Y fun f5s b0e =>
 oP E (lA 37 f5s) b0e fun f5t a7x =>
 oP E (iA 37 f5t x12) a7x fun f5u a5f =>
 oP E (sA 2 f5u (vI 77)) a5f fun _z_133 a5g =>
 oP E (xBin .add 3 (.tmp 59) (.const (vI 1)) x12 (vI 1)) a5g fun f5v a8i =>
 next6 [f5v] a8i)
 (j1 [] a8Y)
def F5 (x0 x1 x2 : Value) (w : World) (R : RT) (E : Pan) : Prop :=
 oP E (xV (Instr.box 25 x0)) w fun M5 w_2 =>
 oP E (xCall (fC 14) []) w_2 fun c8G w_4 =>
 oP E (xV (Op.unary .not c8G)) w_4 fun c5n w_6 =>
 xcond c5n
 (R (vB false) w_6)
 (oP E (xCall (fC 15) [x1, x2]) w_6 fun c1v w_8 =>
 oP E (xV (Op.unary .not c1v)) w_8 fun h7F q7 =>
 xcond h7F
 (R (vB true) q7)
 (oP E (xBuiltin .append #[37, 37] 37 [true, false] [(nS), x1]) q7 fun b6W q9 =>
 oP E (lA 25 M5) q9 fun h0i p9 =>
 oP E (xCall (fC 16) [h0i, b6W, x2]) p9 fun e3T s6 =>
 oP E (eX e3T 0) s6 fun h0j u5 =>
 oP E (eX e3T 1) u5 fun h0k u9 =>
 oP E (xV (Instr.alloc 42 true (.tuple #[]))) u9 fun c9l y6 =>
 oP E (sA 42 c9l h0j) y6 fun _z_23 z6 =>
 oP E (lA 25 M5) z6 fun h0l A6 =>
 oP E (xCall (fC 17) [h0l, x1, x2]) A6 fun c0P D8 =>
 oP E (eX c0P 0) D8 fun h0m K1 =>
 oP E (eX c0P 1) K1 fun h0n B7 =>
 oP E (xV (Instr.alloc 42 true (.tuple #[]))) B7 fun b6X B3 =>
 oP E (sA 42 b6X h0m) B3 fun _z_35 J0 =>
 oP E (xBin .neq 3 (.tmp 39) (.tmp 40) h0k h0n) J0 fun b4j I0 =>
 oP E (gsem (asB b4j) false (lA 42 c9l)) I0 fun h0o G3 =>
 oP E (gsem (asB b4j) false (lA 42 b6X)) G3 fun h0p G6 =>
 oP E (gsem (asB b4j) false (xCall (fC 18) [h0o, h0p])) G6 fun h0q G4 =>
 oP E (gsem (asB b4j) false (xV (Op.unary .not h0q))) G4 fun h0r O4 =>
 oP E (xPick b4j (vB true) h0r) O4 fun c0Q N8 =>
 oP E (gsem (asB c0Q) false (xCall (fC 19) [(gval (asB c0Q) false b6W), (gval (asB c0Q) false x1)])) N8 fun h0t M9 =>
 oP E (gsem (asB c0Q) false (xV (Op.unary .not h0t))) M9 fun h0u K6 =>
 oP E (xPick c0Q (vB true) h0u) K6 fun h0v N7 =>
 xcond h0v
 (R (vB false) N7)
 (xcut (fun _ a7w => h7D x2 M5 b6W c9l b6X a7w R E) fun j1 =>
 xloop [12] [(vI 0)] N7 fun τ_137 b0d next6 =>
 h7E x2 M5 b6W c9l b6X (τ_137 12) b0d next6 j1 R E)))
noncomputable def c5 : Code := Tryz.f5.body.getD .skip
def h5 : Hint := (sQ (.seq (sQ (.cond (sQ .none) .none)) (.seq (sQ (.cond (sQ .none) .none)) (sQ (sQ (sQ (.seq (sQ (.cond (sQ .none) .none)) (.cut [] (sQ (.block (.loop [12] (.seq (sQ (.cond .none .none)) (.seq (.block .none) .none))))) (.cut [] (sQ (.block (.loop [13] (.seq (sQ (.cond .none .none)) (.cut [] (.block (sQ (.block (.loop [14] (.seq (sQ (.cond .none .none)) (.seq (.block .none) .none)))))) .none))))) (sQ (sQ .none)))))))))))
def F6 (x0 x1 x2 x3 : Value) (w : World) (R : RT) (E : Pan) : Prop :=
 oP E (xV (Instr.box 25 x0)) w fun b5y w_2 =>
 oP E (xCall (fC 8) []) w_2 fun h7G w_4 =>
 oP E (xV (Op.unary .not h7G)) w_4 fun c4U w_6 =>
 xcond c4U
 (R (vB false) w_6)
 (oP E (xBuiltin .len #[37] 3 [false] [x2]) w_6 fun e0L w_8 =>
 oP E (xBin .gtr 3 (.tmp 17) (.const (vI 2000)) e0L (vI 2000)) w_8 fun b8y q7 =>
 oP E (gsem (asB b8y) false (xBin .gtr 3 (.tmp 20) (.const (vI 2000)) (gval (asB b8y) false x3) (vI 2000))) q7 fun c6e q9 =>
 oP E (xPick b8y (vB true) c6e) q9 fun d4k p9 =>
 xcond d4k
 (R (vB true) p9)
 (oP E (lA 25 b5y) p9 fun d4l s6 =>
 oP E (xCall (fC 9) [d4l, x1]) s6 fun e3U u5 =>
 oP E (eX e3U 0) u5 fun d3T u9 =>
 oP E (eX e3U 1) u9 fun h0w y6 =>
 oP E (xV (Instr.alloc 25 true (.tuple #[]))) y6 fun f0O z6 =>
 oP E (sA 25 f0O d3T) z6 fun _z_25 A6 =>
 oP E (lA 25 b5y) A6 fun d4m D8 =>
 oP E (xCall (fC 16) [d4m, x2, x3]) D8 fun e3V K1 =>
 oP E (eX e3V 0) K1 fun h0x B7 =>
 oP E (eX e3V 1) B7 fun h0y B3 =>
 oP E (xV (Instr.alloc 42 true (.tuple #[]))) B3 fun e3W J0 =>
 oP E (sA 42 e3W h0x) J0 fun _z_37 I0 =>
 oP E (xBin .neq 27 (.tmp 36) (.const (vI 0)) h0w (vI 0)) I0 fun a8Q G3 =>
 oP E (gsem (asB a8Q) false (xBin .neq 27 (.tmp 39) (.const (vI 0)) (gval (asB a8Q) false h0y) (vI 0))) G3 fun h0z G6 =>
 oP E (xPick a8Q (vB true) h0z) G6 fun h0A G4 =>
 xcond h0A
 (R (vB true) G4)
 (oP E (lA 25 f0O) G4 fun h0B O4 =>
 oP E (xCall (fC 16) [h0B, x2, x3]) O4 fun e3X N8 =>
 oP E (eX e3X 0) N8 fun h0C M9 =>
 oP E (eX e3X 1) M9 fun h0D K6 =>
 oP E (xV (Instr.alloc 42 true (.tuple #[]))) K6 fun e3Y N7 =>
 oP E (sA 42 e3Y h0C) N7 fun _z_55 O3 =>
 oP E (xBin .eql 27 (.tmp 49) (.const (vI 0)) h0D (vI 0)) O3 fun c6f M8 =>
 oP E (gsem (asB c6f) true (lA 42 e3W)) M8 fun h0E Q4 =>
 oP E (gsem (asB c6f) true (lA 42 e3Y)) Q4 fun h0F P6 =>
 oP E (gsem (asB c6f) true (xCall (fC 18) [h0E, h0F])) P6 fun h0G Q5 =>
 oP E (xPick c6f h0G (vB false)) Q5 fun h0H S6 =>
 R h0H S6)))
noncomputable def c6 : Code := Tryz.f6.body.getD .skip
def h6 : Hint := (sQ (.seq (sQ (.cond (sQ .none) .none)) (.seq (sQ (.cond (sQ .none) .none)) (sQ (sQ (.seq (sQ (.cond (sQ .none) .none)) (sQ (sQ .none))))))))
def F7 (x0 x1 x2 : Value) (w : World) (R : RT) (E : Pan) : Prop :=
 oP E (xV (Instr.box 25 x0)) w fun M5 w_2 =>
 oP E (xCall (fC 8) []) w_2 fun c5S w_4 =>
 oP E (xV (Op.unary .not c5S)) w_4 fun a8o w_6 =>
 xcond a8o
 (R (vB false) w_6)
 (oP E (xBuiltin .len #[37] 3 [false] [x1]) w_6 fun c4S w_8 =>
 oP E (xBin .gtr 3 (.tmp 15) (.const (vI 2000)) c4S (vI 2000)) w_8 fun c4T q7 =>
 oP E (gsem (asB c4T) false (xBin .gtr 3 (.tmp 18) (.const (vI 2000)) (gval (asB c4T) false x2) (vI 2000))) q7 fun a8O q9 =>
 oP E (xPick c4T (vB true) a8O) q9 fun b0p p9 =>
 xcond b0p
 (R (vB true) p9)
 (oP E (lA 25 M5) p9 fun h0I s6 =>
 oP E (xCall (fC 12) [h0I]) s6 fun e3Z u5 =>
 oP E (eX e3Z 0) u5 fun d0n u9 =>
 oP E (eX e3Z 1) u9 fun b9t y6 =>
 oP E (xV (Instr.alloc 25 true (.tuple #[]))) y6 fun f0P z6 =>
 oP E (sA 25 f0P d0n) z6 fun _z_25 A6 =>
 oP E (lA 25 M5) A6 fun h0J D8 =>
 oP E (xCall (fC 16) [h0J, x1, x2]) D8 fun e4a K1 =>
 oP E (eX e4a 0) K1 fun h0K B7 =>
 oP E (eX e4a 1) B7 fun h0L B3 =>
 oP E (xV (Instr.alloc 42 true (.tuple #[]))) B3 fun c9m J0 =>
 oP E (sA 42 c9m h0K) J0 fun _z_37 I0 =>
 oP E (xBin .neq 27 (.tmp 33) (.const (vI 0)) b9t (vI 0)) I0 fun d4n G3 =>
 oP E (gsem (asB d4n) false (xBin .neq 27 (.tmp 36) (.const (vI 0)) (gval (asB d4n) false h0L) (vI 0))) G3 fun d0t G6 =>
 oP E (xPick d4n (vB true) d0t) G6 fun h0M G4 =>
 xcond h0M
 (R (vB true) G4)
 (oP E (lA 25 f0P) G4 fun h0N O4 =>
 oP E (xCall (fC 16) [h0N, x1, x2]) O4 fun c6g N8 =>
 oP E (eX c6g 0) N8 fun h0O M9 =>
 oP E (eX c6g 1) M9 fun h0P K6 =>
 oP E (xV (Instr.alloc 42 true (.tuple #[]))) K6 fun d4o N7 =>
 oP E (sA 42 d4o h0O) N7 fun _z_55 O3 =>
 oP E (xBin .neq 27 (.tmp 46) (.const (vI 0)) h0P (vI 0)) O3 fun h0Q M8 =>
 xcond h0Q
 (R (vB false) M8)
 (oP E (fA 42 c9m 0) M8 fun h0R Q4 =>
 oP E (lA 3 h0R) Q4 fun h0S P6 =>
 oP E (xBin .eql 3 (.tmp 49) (.const (vI 1)) h0S (vI 1)) P6 fun d3M Q5 =>
 xcond d3M
 (R (vB true) Q5)
 (oP E (lA 42 c9m) Q5 fun d3N S6 =>
 oP E (lA 42 d4o) S6 fun d3O Q8 =>
 oP E (xCall (fC 20) [d3N, d3O]) Q8 fun b7a Q3 =>
 oP E (gsem (asB b7a) true (fA 42 d4o 2)) Q3 fun h0T W6 =>
 oP E (gsem (asB b7a) true (lA 3 h0T)) W6 fun h0U Y7 =>
 oP E (gsem (asB b7a) true (fA 42 c9m 2)) Y7 fun h0V a0v =>
 oP E (gsem (asB b7a) true (lA 3 h0V)) a0v fun d0h W7 =>
 oP E (gsem (asB b7a) true (xBin .leq 3 (.tmp 56) (.tmp 58) h0U d0h)) W7 fun d0i a0E =>
 oP E (xPick b7a d0i (vB false)) a0E fun b0b V7 =>
 R b0b V7)))))
noncomputable def c7 : Code := Tryz.f7.body.getD .skip
def h7 : Hint := (sQ (.seq (sQ (.cond (sQ .none) .none)) (.seq (sQ (.cond (sQ .none) .none)) (sQ (sQ (.seq (sQ (.cond (sQ .none) .none)) (sQ (.seq (sQ (.cond (sQ .none) .none)) (.seq (sQ (.cond (sQ .none) .none)) (sQ .none))))))))))
theorem h7H (x0 x1 x2 : Value) (w : World) (R : RT) (E : Pan) : F7 x0 x1 x2 w R E = callX Tryz.prog [.tmp 6] c7 h7 [x0, x1, x2] w R E := by kernel_rfl
theorem h7I {x0 x1 x2 : Value} (h : F7 x0 x1 x2 w R E) : Cv Tryz.prog 7 #[x0, x1, x2] w R E := by
 refine i6 (args := [x0, x1, x2]) (c := c7) (h := h7) (rs := [.tmp 6]) Tryz.func7 (by kernel_rfl) (by kernel_rfl) (nB (by kernel_rfl)) (by kernel_rfl) (by kernel_rfl) (by kernel_rfl) ?_
 rw [← h7H]
 exact h
def d4p (x6 x14 : Value) (w : World) (R : RT) (E : Pan) : Prop :=
 ∀ _τ : Fr, (oP E (lA 42 x14) w fun f5w W6 =>
 oP E (sA 42 x6 f5w) W6 fun _z_73 Y7 =>
 xcell Tryz.prog 42 x6 Y7 fun i1A =>
 R (Value.tuple #[i1A, (vI 0)]) Y7)
def e4b (_x6 _x10 _x14 _x89 _x90 x91 : Value) (w : World) (next3 : NT) (_R : RT) (E : Pan) : Prop :=
 ∀ _τ : Fr, (oP E (xBin .add 3 (.tmp 91) (.const (vI 1)) x91 (vI 1)) w fun f5x d8Q =>
 next3 [f5x] d8Q)
def d4q (x6 x10 x14 x89 x90 x91 : Value) (w : World) (next3 : NT) (j2 : NT) (R : RT) (E : Pan) : Prop :=
 oP E (xBin .lss 3 (.tmp 91) (.tmp 90) x91 x90) w fun h0W d8P =>
 xcond h0W
 (xcut (fun _ c0t => e4b x6 x10 x14 x89 x90 x91 c0t next3 R E) fun j4 =>
 oP E (iA 22 x89 x91) d8P fun h0X b0s =>
 oP E (lA 71 h0X) b0s fun h0Y c3u =>
 oP E (xV (Instr.alloc 71 true (.tuple #[]))) c3u fun c6h b0t =>
 oP E (sA 71 c6h h0Y) b0t fun _z_96 a7t =>
 oP E (fA 71 c6h 1) a7t fun h0Z b8h =>
 oP E (lA 3 h0Z) b8h fun f5y b8i =>
 oP E (xBin .gtr 3 (.tmp 96) (.const (vI 0)) f5y (vI 0)) b8i fun f5z a9c =>
 xcond f5z
 (dX a9c fun a0J =>
 qP Tryz.prog (fA 42 x14 5) fun c7B =>
 qP Tryz.prog (xNil x10) fun e8t =>
 qP Tryz.prog (fA 80 e8t 5) fun d4r =>
 qP Tryz.prog (fA 71 c6h 0) fun d4s =>
 qL Tryz.prog a0J (blk c7B) (lA 40 c7B) fun f5A =>
 qL Tryz.prog a0J (blk d4r) (lA 78 d4r) fun d4t =>
 qL Tryz.prog a0J (blk d4s) (lA 9 d4s) fun e8u =>
 qL Tryz.prog a0J (blk d4t) (xV (Instr.lookup 78 d4t e8u false)) fun e8v =>
 oP E (xV (Instr.buildSlice 40 1 #[(0, e8v)])) a0J fun e8w a1f =>
 keepX [(blk c7B)] a0J a1f (opK Tryz.prog E (xBuiltin .append #[40, 40] 40 [false, false] [f5A, e8w]) a1f fun e8x a3m =>
 keepX [] a1f a3m (qP Tryz.prog (fA 42 x14 5) fun e8y =>
 oP E (sA 40 e8y e8x) a3m fun _z_118 c5k =>
 keepX [] a3m c5k (j4 [] c5k))))
 (dX a9c fun a0K =>
 qP Tryz.prog (fA 42 x14 4) fun c3X =>
 qP Tryz.prog (xNil x10) fun e8z =>
 qP Tryz.prog (fA 80 e8z 4) fun d4u =>
 qP Tryz.prog (fA 71 c6h 0) fun d4v =>
 qL Tryz.prog a0K (blk c3X) (lA 37 c3X) fun e8A =>
 qL Tryz.prog a0K (blk d4u) (lA 77 d4u) fun d4w =>
 qL Tryz.prog a0K (blk d4v) (lA 9 d4v) fun e8B =>
 qL Tryz.prog a0K (blk d4w) (xV (Instr.lookup 77 d4w e8B false)) fun e8C =>
 qP Tryz.prog (xNil e8C) fun d4x =>
 qL Tryz.prog a0K (blk d4x) (lA 2 d4x) fun e8D =>
 oP E (xV (Instr.buildSlice 37 1 #[(0, e8D)])) a0K fun e8E a5f =>
 keepX [(blk c3X)] a0K a5f (opK Tryz.prog E (xBuiltin .append #[37, 37] 37 [false, false] [e8A, e8E]) a5f fun e8F a5g =>
 keepX [] a5f a5g (qP Tryz.prog (fA 42 x14 4) fun e8G =>
 oP E (sA 37 e8G e8F) a5g fun _z_136 f0Q =>
 keepX [] a5g f0Q (j4 [] f0Q)))))
 (j2 [] d8P)
def e4c (x3 x6 x10 : Value) (w : World) (R : RT) (E : Pan) : Prop :=
 ∀ _τ : Fr, (oP E (fA 25 x3 1) w fun h1a O4 =>
 oP E (lA 23 h1a) O4 fun h1b N8 =>
 oP E (xCall (fC 34) [x10, h1b]) N8 fun h1c M9 =>
 oP E (xV (Instr.alloc 83 true (.tuple #[]))) M9 fun d4y K6 =>
 oP E (sA 83 d4y h1c) K6 fun _z_53 N7 =>
 dX N7 fun b0U =>
 qP Tryz.prog (fA 83 d4y 0) fun d4z =>
 qP Tryz.prog (fA 83 d4y 1) fun d4A =>
 qP Tryz.prog (xNil x10) fun h1d =>
 qP Tryz.prog (fA 80 h1d 1) fun d4B =>
 qP Tryz.prog (xNil x10) fun h1e =>
 qP Tryz.prog (fA 80 h1e 3) fun d4C =>
 qL Tryz.prog b0U (blk d4z) (lA 3 d4z) fun h1f =>
 qL Tryz.prog b0U (blk d4A) (lA 3 d4A) fun h1g =>
 qL Tryz.prog b0U (blk d4B) (lA 3 d4B) fun h1h =>
 qL Tryz.prog b0U (blk d4C) (lA 39 d4C) fun h1i =>
 qP Tryz.prog (xV (Instr.build 42 #[(0, h1f), (1, h1g), (2, h1h), (3, h1i)])) fun h1j =>
 oP E (xV (Instr.alloc 42 true (.tuple #[]))) b0U fun d4D Q8 =>
 keepX [(blk d4C), (blk d4B), (blk d4A), (blk d4z)] b0U Q8 (opK Tryz.prog E (sA 42 d4D h1j) Q8 fun _z_69 Q3 =>
 keepX [] Q8 Q3 (xcut (fun _ b0r => d4p x6 d4D b0r R E) fun j2 =>
 oP E (fA 25 x3 0) Q3 fun d4E a7O =>
 oP E (lA 22 d4E) a7O fun c0R c7d =>
 oP E (xBuiltin .len #[22] 3 [false] [c0R]) c7d fun d4F c7e =>
 xloop [91] [(vI 0)] c7e fun τ_138 e0M next3 =>
 d4q x6 x10 d4D c0R d4F (τ_138 91) e0M next3 j2 R E)))
def e4d (_x3 _x6 _x10 _x45 _x46 x47 : Value) (w : World) (next5 : NT) (_R : RT) (E : Pan) : Prop :=
 ∀ _τ : Fr, (oP E (xBin .add 3 (.tmp 47) (.const (vI 1)) x47 (vI 1)) w fun f5B h7J =>
 next5 [f5B] h7J)
def e4e (x3 x6 x10 x45 x46 x47 : Value) (w : World) (next5 : NT) (j1 : NT) (R : RT) (E : Pan) : Prop :=
 oP E (xBin .lss 3 (.tmp 47) (.tmp 46) x47 x46) w fun f5C f0R =>
 xcond f5C
 (xcut (fun _ h7K => e4d x3 x6 x10 x45 x46 x47 h7K next5 R E) fun j6 =>
 oP E (iA 22 x45 x47) f0R fun f5D h7L =>
 oP E (lA 71 f5D) h7L fun f5E h7M =>
 oP E (xV (Instr.alloc 71 true (.tuple #[]))) h7M fun b7b h7N =>
 oP E (sA 71 b7b f5E) h7N fun _z_160 c5l =>
 oP E (fA 71 b7b 1) c5l fun f5F h7O =>
 oP E (lA 3 f5F) h7O fun f5G h7P =>
 oP E (xBin .gtr 3 (.tmp 52) (.const (vI 0)) f5G (vI 0)) h7P fun f5H f0S =>
 xcond f5H
 (dX f0S fun b8K =>
 qP Tryz.prog (xNil x10) fun f5I =>
 qP Tryz.prog (fA 80 f5I 5) fun c7C =>
 qP Tryz.prog (fA 71 b7b 0) fun c7D =>
 qP Tryz.prog (fA 71 b7b 1) fun d6t =>
 qL Tryz.prog b8K (blk c7C) (lA 78 c7C) fun f5J =>
 qL Tryz.prog b8K (blk c7D) (lA 9 c7D) fun f5K =>
 qL Tryz.prog b8K (blk d6t) (lA 3 d6t) fun d6u =>
 oP E (xV (Instr.makeSlice 37 d6u d6u)) b8K fun f5L e0N =>
 keepX [(blk c7D), (blk c7C)] b8K e0N (opK Tryz.prog E (xU (Instr.mapUpdate 78 f5J f5K f5L)) e0N fun _z_178 f0T =>
 keepX [] e0N f0T (j6 [] f0T)))
 (dX f0S fun c9n =>
 qP Tryz.prog (xNil x10) fun f5M =>
 qP Tryz.prog (fA 80 f5M 4) fun c7E =>
 qP Tryz.prog (fA 71 b7b 0) fun c7F =>
 qL Tryz.prog c9n (blk c7E) (lA 77 c7E) fun f5N =>
 qL Tryz.prog c9n (blk c7F) (lA 9 c7F) fun f5O =>
 oP E (xV (Instr.alloc 2 true (.tuple #[]))) c9n fun f5P c8Y =>
 keepX [(blk c7F), (blk c7E)] c9n c8Y (opK Tryz.prog E (xU (Instr.mapUpdate 77 f5N f5O f5P)) c8Y fun _z_188 f0U =>
 keepX [] c8Y f0U (j6 [] f0U))))
 (j1 [] f0R)
def F16 (x0 x1 x2 : Value) (w : World) (R : RT) (E : Pan) : Prop :=
 oP E (xV (Instr.box 25 x0)) w fun M5 w_2 =>
 oP E (xV (Instr.alloc 42 true (.tuple #[]))) w_2 fun a7n w_4 =>
 oP E (lA 25 M5) w_4 fun c5n w_6 =>
 oP E (xCall (fC 33) [c5n]) w_6 fun c8K w_8 =>
 oP E (eX c8K 0) w_8 fun _t20_9 q7 =>
 oP E (eX c8K 1) q7 fun c6e q9 =>
 oP E (xBin .neq 27 (.tmp 22) (.const (vI 0)) c6e (vI 0)) q9 fun h1k p9 =>
 xcond h1k
 (oP E (xV (Instr.build 42 #[])) p9 fun d4l s6 =>
 oP E (sA 42 a7n d4l) s6 fun _z_17 u5 =>
 xcell Tryz.prog 42 a7n u5 fun e7C =>
 R (Value.tuple #[e7C, c6e]) u5)
 (oP E (xBin .lss 3 (.tmp 26) (.const (vI 0)) x2 (vI 0)) p9 fun d4G a0f =>
 oP E (gsem (asB d4G) false (xBin .gtr 3 (.tmp 29) (.const (vI 65536)) (gval (asB d4G) false x2) (vI 65536))) a0f fun h1l a0R =>
 oP E (xPick d4G (vB true) h1l) a0R fun c6i a7l =>
 oP E (gsem (asB c6i) false (xBuiltin .len #[37] 3 [false] [(gval (asB c6i) false x1)])) a7l fun h1m Z6 =>
 oP E (gsem (asB c6i) false (xBin .gtr 3 (.tmp 34) (.const (vI 65536)) h1m (vI 65536))) Z6 fun h1n a6o =>
 oP E (xPick c6i (vB true) h1n) a6o fun h1o a7u =>
 xcond h1o
 (oP E (xV (Instr.build 42 #[])) a7u fun h1p a8G =>
 oP E (sA 42 a7n h1p) a8G fun _z_34 a6O =>
 xcell Tryz.prog 42 a7n a6O fun i1B =>
 R (Value.tuple #[i1B, (vI 80)]) a6O)
 (oP E (xV (Instr.makeMap 77 none)) a7u fun h1q I0 =>
 oP E (xV (Instr.makeMap 78 none)) I0 fun h1r G3 =>
 oP E (xV (Instr.build 80 #[(0, x2), (2, x1), (4, h1q), (5, h1r)])) G3 fun h1s G6 =>
 oP E (xV (Instr.box 80 h1s)) G6 fun e4f G4 =>
 xcut (fun _ f0f => e4c M5 a7n e4f f0f R E) fun j1 =>
 oP E (fA 25 M5 0) G4 fun f5Q h7Q =>
 oP E (lA 22 f5Q) h7Q fun d6v h7R =>
 oP E (xBuiltin .len #[22] 3 [false] [d6v]) h7R fun f5R h7S =>
 xloop [47] [(vI 0)] h7S fun τ_190 h7T next5 =>
 e4e M5 a7n e4f d6v f5R (τ_190 47) h7T next5 j1 R E))
noncomputable def c16 : Code := Tryz.f16.body.getD .skip
def h16 : Hint := (sQ (.seq (sQ (sQ (.cond (sQ .none) .none))) (.seq (sQ (.cond (sQ .none) .none)) (sQ (.cut [] (sQ (.block (.loop [47] (sQ (.seq (.cond .none .none) (.cut [] (.block (sQ (sQ (.cond (.reg [(0, 18014398509481984, 1024), (1, 36028797018963968, 18014398509481984), (2, 72057594037927936, 36028797018963968), (4, 144115188075855872, 72057594037927936), (0, 288230376151711744, 4096), (16, 576460752303423488, 288230376151711744), (0, 1152921504606846976, 4096), (64, 2305843009213693952, 1152921504606846976), (128, 4611686018427387904, 2305843009213693952), (511, 0, 5332261958806667264)] [168, 168, 168, 160, 168, 136, 168, 40, 40, 0] (.early 0 (.early 1 (.early 2 (.early 4 (.early 6 (.load 3 (.load 5 (.load 7 (.step 8 (.step 9 .done))))))))))) (.reg [(0, 9223372036854775808, 1024), (1, 18446744073709551616, 9223372036854775808), (2, 36893488147419103232, 18446744073709551616), (4, 73786976294838206464, 36893488147419103232), (0, 147573952589676412928, 4096), (16, 295147905179352825856, 147573952589676412928), (0, 590295810358705651712, 0), (127, 0, 959230691832896684032)] [40, 40, 40, 32, 40, 8, 40, 0] (.early 0 (.early 1 (.early 2 (.early 4 (.load 3 (.load 5 (.step 6 (.step 7 .done))))))))))))) .none)))))) (sQ (.seq (.reg [(0, 37778931862957161709568, 8192), (1, 75557863725914323419136, 37778931862957161709568), (0, 151115727451828646838272, 8192), (4, 302231454903657293676544, 151115727451828646838272), (0, 604462909807314587353088, 1024), (16, 1208925819614629174706176, 604462909807314587353088), (32, 2417851639229258349412352, 1208925819614629174706176), (64, 4835703278458516698824704, 2417851639229258349412352), (0, 9671406556917033397649408, 1024), (256, 19342813113834066795298816, 9671406556917033397649408), (512, 38685626227668133590597632, 19342813113834066795298816), (1024, 77371252455336267181195264, 38685626227668133590597632), (2186, 154742504910672534362390528, 82584745052424355497115648), (0, 16384, 0), (16383, 0, 154742504910672534362406912)] [2186, 2184, 2186, 2178, 2186, 2186, 2186, 2058, 2186, 2186, 2186, 138, 2186, 2186, 0] (.early 0 (.early 2 (.early 4 (.early 5 (.early 6 (.early 8 (.early 9 (.early 10 (.load 1 (.load 3 (.load 7 (.load 11 (.early 12 (.step 13 (.step 14 .done)))))))))))))))) (.cut [] (sQ (.block (.loop [91] (sQ (.seq (.cond .none .none) (.cut [] (.block (sQ (sQ (.cond (.reg [(0, 316912650057057350374175801344, 16384), (1, 633825300114114700748351602688, 316912650057057350374175801344), (0, 1267650600228229401496703205376, 1024), (4, 2535301200456458802993406410752, 1267650600228229401496703205376), (8, 5070602400912917605986812821504, 2535301200456458802993406410752), (16, 10141204801825835211973625643008, 5070602400912917605986812821504), (0, 20282409603651670423947251286016, 65536), (64, 40564819207303340847894502572032, 20282409603651670423947251286016), (160, 81129638414606681695789005144064, 50706024009129176059868128215040), (256, 162259276829213363391578010288128, 81129638414606681695789005144064), (514, 324518553658426726783156020576256, 162893102129327478092326361890816), (2047, 649037107316853453566312041152512, 16384), (4095, 0, 973555660975280180349468061728768)] [418, 416, 418, 418, 418, 386, 418, 290, 162, 2, 0, 418, 0] (.early 0 (.early 2 (.early 3 (.early 4 (.early 6 (.load 1 (.load 5 (.load 7 (.load 8 (.step 9 (.step 10 (.early 11 (.step 12 .done)))))))))))))) (.reg [(0, 1298074214633706907132624082305024, 16384), (1, 2596148429267413814265248164610048, 1298074214633706907132624082305024), (0, 5192296858534827628530496329220096, 1024), (4, 10384593717069655257060992658440192, 5192296858534827628530496329220096), (8, 20769187434139310514121985316880384, 10384593717069655257060992658440192), (16, 41538374868278621028243970633760768, 20769187434139310514121985316880384), (0, 83076749736557242056487941267521536, 65536), (64, 166153499473114484112975882535043072, 83076749736557242056487941267521536), (160, 332306998946228968225951765070086144, 207691874341393105141219853168803840), (256, 664613997892457936451903530140172288, 332306998946228968225951765070086144), (512, 1329227995784915872903807060280344576, 664613997892457936451903530140172288), (1024, 2658455991569831745807614120560689152, 1329227995784915872903807060280344576), (2050, 5316911983139663491615228241121378304, 2661052139999099159621879368725299200), (8191, 10633823966279326983230456482242756608, 16384), (16383, 0, 15950735949418990474845684723364134912)] [1442, 1440, 1442, 1442, 1442, 1410, 1442, 1314, 1186, 1442, 418, 2, 0, 1442, 0] (.early 0 (.early 2 (.early 3 (.early 4 (.early 6 (.load 1 (.load 5 (.load 7 (.load 8 (.early 9 (.load 10 (.step 11 (.step 12 (.early 13 (.step 14 .done)))))))))))))))))))) .none)))))) (sQ .none)))))))))
theorem h1t (x0 x1 x2 : Value) (w : World) (R : RT) (E : Pan) : F16 x0 x1 x2 w R E = callX Tryz.prog [.cell 6 42, .tmp 7] c16 h16 [x0, x1, x2] w R E := by kernel_rfl
theorem h1u {x0 x1 x2 : Value} (h : F16 x0 x1 x2 w R E) : Cv Tryz.prog 16 #[x0, x1, x2] w R E := by
 refine i6 (args := [x0, x1, x2]) (c := c16) (h := h16) (rs := [.cell 6 42, .tmp 7]) Tryz.func16 (by kernel_rfl) (by kernel_rfl) (nB (by kernel_rfl)) (by kernel_rfl) (by kernel_rfl) (by kernel_rfl) ?_
 rw [← h1t]
 exact h
def d4H (w : World) (R : RT) (_E : Pan) : Prop :=
 ∀ _τ : Fr, (R (vB true) w)
def e4g (x2 x3 x6 : Value) (w : World) (next3 : NT) (j2 : NT) (R : RT) (E : Pan) : Prop :=
 oP E (fA 42 x2 5) w fun h1v V0 =>
 oP E (lA 40 h1v) V0 fun h1w a2o =>
 oP E (xBuiltin .len #[40] 3 [false] [h1w]) a2o fun h1x a4E =>
 oP E (xBin .lss 3 (.tmp 70) (.tmp 73) x6 h1x) a4E fun h1y a0h =>
 xcond h1y
 (dX a0h fun b0t =>
 qP Tryz.prog (fA 42 x2 5) fun e4h =>
 qP Tryz.prog (fA 42 x3 5) fun e4i =>
 qL Tryz.prog b0t (blk e4h) (lA 40 e4h) fun h1z =>
 qP Tryz.prog (iA 40 h1z x6) fun e4j =>
 qL Tryz.prog b0t (blk e4j) (lA 37 e4j) fun f5S =>
 qL Tryz.prog b0t (blk e4i) (lA 40 e4i) fun c7A =>
 qP Tryz.prog (iA 40 c7A x6) fun d6w =>
 qL Tryz.prog b0t (blk d6w) (lA 37 d6w) fun f5T =>
 oP E (xCall (fC 19) [f5S, f5T]) b0t fun f5U b5f =>
 keepX [] b0t b5f (qP Tryz.prog (xV (Op.unary .not f5U)) fun f5V =>
 xcond f5V
 (R (vB false) b5f)
 (oP E (xBin .add 3 (.tmp 75) (.const (vI 1)) x6 (vI 1)) b5f fun f5W a6B =>
 next3 [f5W] a6B)))
 (j2 [] a0h)
def d4I (x2 x3 : Value) (w : World) (R : RT) (E : Pan) : Prop :=
 ∀ _τ : Fr, (xcut (fun _ a0g => d4H a0g R E) fun j2 =>
 xloop [6] [(vI 0)] w fun τ_109 a8X next3 =>
 e4g x2 x3 (τ_109 6) a8X next3 j2 R E)
def e4k (x2 x3 x5 : Value) (w : World) (next4 : NT) (j1 : NT) (R : RT) (E : Pan) : Prop :=
 oP E (fA 42 x2 3) w fun f5X a1f =>
 oP E (lA 39 f5X) a1f fun f5Y a3m =>
 oP E (xBuiltin .len #[39] 3 [false] [f5Y]) a3m fun f5Z a7w =>
 oP E (xBin .lss 3 (.tmp 52) (.tmp 55) x5 f5Z) a7w fun f6a a0K =>
 xcond f6a
 (dX a0K fun b8z =>
 qP Tryz.prog (fA 42 x2 3) fun d6x =>
 qP Tryz.prog (fA 42 x3 3) fun d6y =>
 qL Tryz.prog b8z (blk d6x) (lA 39 d6x) fun f6b =>
 qP Tryz.prog (iA 39 f6b x5) fun d6z =>
 qL Tryz.prog b8z (blk d6z) (lA 95 d6z) fun f6c =>
 qL Tryz.prog b8z (blk d6y) (lA 39 d6y) fun f6d =>
 qP Tryz.prog (iA 39 f6d x5) fun d6A =>
 qL Tryz.prog b8z (blk d6A) (lA 95 d6A) fun f6e =>
 qP Tryz.prog (xBin .neq 95 (.tmp 63) (.tmp 68) f6c f6e) fun f6f =>
 xcond f6f
 (R (vB false) b8z)
 (oP E (xBin .add 3 (.tmp 57) (.const (vI 1)) x5 (vI 1)) b8z fun f6g a5f =>
 next4 [f6g] a5f))
 (j1 [] a0K)
def F18 (x0 x1 : Value) (w : World) (R : RT) (E : Pan) : Prop :=
 oP E (xV (Instr.box 42 x0)) w fun T1 w_2 =>
 oP E (xV (Instr.box 42 x1)) w_2 fun Y5 w_4 =>
 oP E (fA 42 T1 0) w_4 fun a5v w_6 =>
 oP E (lA 3 a5v) w_6 fun a4F w_8 =>
 oP E (fA 42 Y5 0) w_8 fun b2i q7 =>
 oP E (lA 3 b2i) q7 fun a8I q9 =>
 oP E (xBin .neq 3 (.tmp 8) (.tmp 10) a4F a8I) q9 fun a4d p9 =>
 oP E (gsem (asB a4d) false (fA 42 T1 1)) p9 fun a6e s6 =>
 oP E (gsem (asB a4d) false (lA 3 a6e)) s6 fun a7G u5 =>
 oP E (gsem (asB a4d) false (fA 42 Y5 1)) u5 fun a0D u9 =>
 oP E (gsem (asB a4d) false (lA 3 a0D)) u9 fun a0Y y6 =>
 oP E (gsem (asB a4d) false (xBin .neq 3 (.tmp 14) (.tmp 16) a7G a0Y)) y6 fun a7C z6 =>
 oP E (xPick a4d (vB true) a7C) z6 fun a1M A6 =>
 oP E (gsem (asB a1M) false (fA 42 T1 2)) A6 fun h1A D8 =>
 oP E (gsem (asB a1M) false (lA 3 h1A)) D8 fun d0w K1 =>
 oP E (gsem (asB a1M) false (fA 42 Y5 2)) K1 fun d0x B7 =>
 oP E (gsem (asB a1M) false (lA 3 d0x)) B7 fun b9C B3 =>
 oP E (gsem (asB a1M) false (xBin .neq 3 (.tmp 21) (.tmp 23) d0w b9C)) B3 fun b3s J0 =>
 oP E (xPick a1M (vB true) b3s) J0 fun a0s I0 =>
 oP E (gsem (asB a0s) false (fA 42 T1 3)) I0 fun h1B G3 =>
 oP E (gsem (asB a0s) false (lA 39 h1B)) G3 fun h1C G6 =>
 oP E (gsem (asB a0s) false (xBuiltin .len #[39] 3 [false] [h1C])) G6 fun d2e G4 =>
 oP E (gsem (asB a0s) false (fA 42 Y5 3)) G4 fun d2f O4 =>
 oP E (gsem (asB a0s) false (lA 39 d2f)) O4 fun d2g N8 =>
 oP E (gsem (asB a0s) false (xBuiltin .len #[39] 3 [false] [d2g])) N8 fun d2h M9 =>
 oP E (gsem (asB a0s) false (xBin .neq 3 (.tmp 29) (.tmp 32) d2e d2h)) M9 fun b9x K6 =>
 oP E (xPick a0s (vB true) b9x) K6 fun b0q N7 =>
 oP E (gsem (asB b0q) false (fA 42 T1 4)) N7 fun h1D O3 =>
 oP E (gsem (asB b0q) false (lA 37 h1D)) O3 fun h1E M8 =>
 oP E (gsem (asB b0q) false (fA 42 Y5 4)) M8 fun h1F Q4 =>
 oP E (gsem (asB b0q) false (lA 37 h1F)) Q4 fun d2C P6 =>
 oP E (gsem (asB b0q) false (xCall (fC 19) [h1E, d2C])) P6 fun d2D Q5 =>
 oP E (gsem (asB b0q) false (xV (Op.unary .not d2D))) Q5 fun d2E S6 =>
 oP E (xPick b0q (vB true) d2E) S6 fun a8P Q8 =>
 oP E (gsem (asB a8P) false (fA 42 T1 5)) Q8 fun h1G Q3 =>
 oP E (gsem (asB a8P) false (lA 40 h1G)) Q3 fun h1H W6 =>
 oP E (gsem (asB a8P) false (xBuiltin .len #[40] 3 [false] [h1H])) W6 fun h1I Y7 =>
 oP E (gsem (asB a8P) false (fA 42 Y5 5)) Y7 fun d2x a0v =>
 oP E (gsem (asB a8P) false (lA 40 d2x)) a0v fun b1P W7 =>
 oP E (gsem (asB a8P) false (xBuiltin .len #[40] 3 [false] [b1P])) W7 fun d2y a0E =>
 oP E (gsem (asB a8P) false (xBin .neq 3 (.tmp 46) (.tmp 49) h1I d2y)) a0E fun c0p V7 =>
 oP E (xPick a8P (vB true) c0p) V7 fun d2j U9 =>
 xcond d2j
 (R (vB false) U9)
 (xcut (fun _ a7v => d4I T1 Y5 a7v R E) fun j1 =>
 xloop [5] [(vI 0)] U9 fun τ_133 a5g next4 =>
 e4k T1 Y5 (τ_133 5) a5g next4 j1 R E)
noncomputable def c18 : Code := Tryz.f18.body.getD .skip
def h18 : Hint := (sQ (.seq (sQ (.cond (sQ .none) .none)) (.cut [] (sQ (.block (.loop [5] (.seq (sQ (.cond .none .none)) (.seq (.block (.seq (.reg [(0, 576460752303423488, 4), (1, 1152921504606846976, 576460752303423488), (0, 2305843009213693952, 32), (6, 4611686018427387904, 3458764513820540928), (8, 9223372036854775808, 4611686018427387904), (0, 18446744073709551616, 8), (32, 36893488147419103232, 18446744073709551616), (0, 73786976294838206464, 32), (192, 147573952589676412928, 110680464442257309696), (256, 295147905179352825856, 147573952589676412928), (528, 590295810358705651712, 304371277216207601664)] [594, 592, 594, 594, 578, 594, 530, 594, 594, 82, 594] (.early 0 (.early 2 (.early 5 (.early 7 (.load 1 (.early 3 (.load 4 (.load 6 (.early 8 (.load 9 (.early 10 .done)))))))))))) (.cond (sQ .none) .none))) .none))))) (.cut [] (sQ (.block (.loop [6] (.seq (sQ (.cond .none .none)) (.seq (.block (.seq (.reg [(0, 151115727451828646838272, 4), (1, 302231454903657293676544, 151115727451828646838272), (0, 604462909807314587353088, 64), (6, 1208925819614629174706176, 906694364710971881029632), (8, 2417851639229258349412352, 1208925819614629174706176), (0, 4835703278458516698824704, 8), (32, 9671406556917033397649408, 4835703278458516698824704), (0, 19342813113834066795298816, 64), (192, 38685626227668133590597632, 29014219670751100192948224), (256, 77371252455336267181195264, 38685626227668133590597632), (528, 154742504910672534362390528, 79789104094565525530607616), (1024, 309485009821345068724781056, 154742504910672534362390528)] [594, 592, 594, 594, 578, 594, 530, 594, 594, 82, 0, 594] (.early 0 (.early 2 (.early 5 (.early 7 (.load 1 (.early 3 (.load 4 (.load 6 (.early 8 (.load 9 (.step 10 (.early 11 .done))))))))))))) (.cond (sQ .none) .none))) .none))))) (sQ .none)))))
theorem h1J (x0 x1 : Value) (w : World) (R : RT) (E : Pan) : F18 x0 x1 w R E = callX Tryz.prog [.tmp 4] c18 h18 [x0, x1] w R E := by kernel_rfl
theorem h1K {x0 x1 : Value} (h : F18 x0 x1 w R E) : Cv Tryz.prog 18 #[x0, x1] w R E := by
 refine i6 (args := [x0, x1]) (c := c18) (h := h18) (rs := [.tmp 4]) Tryz.func18 (by kernel_rfl) (by kernel_rfl) (nB (by kernel_rfl)) (by kernel_rfl) (by kernel_rfl) (by kernel_rfl) ?_
 rw [← h1J]
 exact h
def d4J (w : World) (R : RT) (_E : Pan) : Prop :=
 ∀ _τ : Fr, (R (vB true) w)
def e4l (x0 x1 x5 : Value) (w : World) (next2 : NT) (j1 : NT) (R : RT) (E : Pan) : Prop :=
 oP E (xBuiltin .len #[37] 3 [false] [x0]) w fun a3l q7 =>
 oP E (xBin .lss 3 (.tmp 11) (.tmp 13) x5 a3l) q7 fun d3I q9 =>
 xcond d3I
 (dX q9 fun a0e =>
 qP Tryz.prog (iA 37 x0 x5) fun e4m =>
 qP Tryz.prog (iA 37 x1 x5) fun c6j =>
 qL Tryz.prog a0e (blk e4m) (lA 2 e4m) fun h1L =>
 qL Tryz.prog a0e (blk c6j) (lA 2 c6j) fun d4K =>
 qP Tryz.prog (xBin .neq 2 (.tmp 20) (.tmp 24) h1L d4K) fun h1M =>
 xcond h1M
 (R (vB false) a0e)
 (oP E (xBin .add 3 (.tmp 15) (.const (vI 1)) x5 (vI 1)) a0e fun h1N u9 =>
 next2 [h1N] u9))
 (j1 [] q9)
def F19 (x0 x1 : Value) (w : World) (R : RT) (E : Pan) : Prop :=
 oP E (xBuiltin .len #[37] 3 [false] [x0]) w fun a5u w_2 =>
 oP E (xBuiltin .len #[37] 3 [false] [x1]) w_2 fun a0Q w_4 =>
 oP E (xBin .neq 3 (.tmp 7) (.tmp 9) a5u a0Q) w_4 fun a2r w_6 =>
 xcond a2r
 (R (vB false) w_6)
 (xcut (fun _ w_8 => d4J w_8 R E) fun j1 =>
 xloop [5] [(vI 0)] w_6 fun τ_21 y6 next2 =>
 e4l x0 x1 (τ_21 5) y6 next2 j1 R E)
noncomputable def c19 : Code := Tryz.f19.body.getD .skip
def h19 : Hint := (sQ (.seq (sQ (.cond (sQ .none) .none)) (.cut [] (sQ (.block (.loop [5] (.seq (sQ (.cond .none .none)) (.seq (.block (.seq (.reg [(0, 131072, 1), (0, 262144, 32), (3, 524288, 393216), (4, 1048576, 524288), (0, 2097152, 2), (0, 4194304, 32), (48, 8388608, 6291456), (64, 16777216, 8388608), (136, 33554432, 17825792)] [136, 136, 136, 128, 136, 136, 136, 8, 136] (.early 0 (.early 1 (.early 2 (.early 4 (.early 5 (.early 6 (.load 3 (.load 7 (.early 8 .done)))))))))) (.cond (sQ .none) .none))) .none))))) (sQ .none))))
theorem h1O (x0 x1 : Value) (w : World) (R : RT) (E : Pan) : F19 x0 x1 w R E = callX Tryz.prog [.tmp 4] c19 h19 [x0, x1] w R E := by kernel_rfl
theorem h1P {x0 x1 : Value} (h : F19 x0 x1 w R E) : Cv Tryz.prog 19 #[x0, x1] w R E := by
 refine i6 (args := [x0, x1]) (c := c19) (h := h19) (rs := [.tmp 4]) Tryz.func19 (by kernel_rfl) (by kernel_rfl) (nB (by kernel_rfl)) (by kernel_rfl) (by kernel_rfl) (by kernel_rfl) ?_
 rw [← h1O]
 exact h
def F20 (x0 x1 : Value) (w : World) (R : RT) (E : Pan) : Prop :=
 oP E (xV (Instr.box 42 x0)) w fun T1 w_2 =>
 oP E (xV (Instr.box 42 x1)) w_2 fun Y5 w_4 =>
 oP E (fA 42 T1 2) w_4 fun b3x w_6 =>
 oP E (sA 3 b3x (vI 0)) w_6 fun _z_7 w_8 =>
 oP E (fA 42 Y5 2) w_8 fun a9i q7 =>
 oP E (sA 3 a9i (vI 0)) q7 fun _z_11 q9 =>
 oP E (lA 42 T1) q9 fun h7U p9 =>
 oP E (lA 42 Y5) p9 fun h7V s6 =>
 oP E (xCall (fC 18) [h7U, h7V]) s6 fun h7W u5 =>
 R h7W u5
noncomputable def c20 : Code := Tryz.f20.body.getD .skip
def h20 : Hint := (sQ (sQ (sQ (sQ .none))))
theorem h1Q (x0 x1 : Value) (w : World) (R : RT) (E : Pan) : F20 x0 x1 w R E = callX Tryz.prog [.tmp 4] c20 h20 [x0, x1] w R E := by kernel_rfl
theorem h1R {x0 x1 : Value} (h : F20 x0 x1 w R E) : Cv Tryz.prog 20 #[x0, x1] w R E := by
 refine i6 (args := [x0, x1]) (c := c20) (h := h20) (rs := [.tmp 4]) Tryz.func20 (by kernel_rfl) (by kernel_rfl) (nB (by kernel_rfl)) (by kernel_rfl) (by kernel_rfl) (by kernel_rfl) ?_
 rw [← h1Q]
 exact h
def e4n (x0 x6 x7 x8 : Value) (w : World) (next1 : NT) (R : RT) (E : Pan) : Prop :=
 oP E (xBin .lss 3 (.tmp 8) (.tmp 7) x8 x7) w fun a0Q w_4 =>
 xcond a0Q
 (oP E (iA 23 x6 x8) w_4 fun a2r w_6 =>
 oP E (lA 73 a2r) w_6 fun b0c w_8 =>
 oP E (xV (Instr.alloc 73 true (.tuple #[]))) w_8 fun d9X q7 =>
 oP E (sA 73 d9X b0c) q7 fun _z_11 q9 =>
 oP E (lA 73 d9X) q9 fun c0o p9 =>
 oP E (xCall (fC 103) [x0, c0o]) p9 fun _t14_15 s6 =>
 oP E (xBin .add 3 (.tmp 8) (.const (vI 1)) x8 (vI 1)) s6 fun d2B u5 =>
 next1 [d2B] u5)
 (R (Value.tuple #[]) w_4)
def F60 (x0 x1 : Value) (w : World) (R : RT) (E : Pan) : Prop :=
 oP E (xBuiltin .len #[23] 3 [false] [x1]) w fun a5u w_2 =>
 xloop [8] [(vI 0)] w_2 fun τ_19 u9 next1 =>
 e4n x0 x1 a5u (τ_19 8) u9 next1 R E
noncomputable def c60 : Code := Tryz.f60.body.getD .skip
def h60 : Hint := (sQ (.block (.loop [8] (sQ (.seq (.cond .none .none) (.seq (.block (sQ .none)) .none))))))
theorem h1S (x0 x1 : Value) (w : World) (R : RT) (E : Pan) : F60 x0 x1 w R E = callX Tryz.prog [] c60 h60 [x0, x1] w R E := by kernel_rfl
theorem h1T {x0 x1 : Value} (h : F60 x0 x1 w R E) : Cv Tryz.prog 60 #[x0, x1] w R E := by
 refine i6 (args := [x0, x1]) (c := c60) (h := h60) (rs := []) Tryz.func60 (by kernel_rfl) (by kernel_rfl) (nB (by kernel_rfl)) (by kernel_rfl) (by kernel_rfl) (by kernel_rfl) ?_
 rw [← h1S]
 exact h
def c7G (x0 x3 x4 : Value) (w : World) (R : RT) (E : Pan) : Prop :=
 ∀ _τ : Fr, (dX w fun a0R =>
 qP Tryz.prog (xNil x0) fun h1U =>
 qP Tryz.prog (fA 80 h1U 4) fun e4o =>
 qP Tryz.prog (fA 73 x3 1) fun e4p =>
 qL Tryz.prog a0R (blk e4o) (lA 77 e4o) fun c0P =>
 qL Tryz.prog a0R (blk e4p) (lA 9 e4p) fun h1V =>
 qL Tryz.prog a0R (blk c0P) (xV (Instr.lookup 77 c0P h1V false)) fun h1W =>
 qP Tryz.prog (xNil h1W) fun h1X =>
 oP E (sA 2 h1X x4) a0R fun _z_31 B7 =>
 keepX [] a0R B7 (R (Value.tuple #[]) B7))
def d6B (x0 x3 : Value) (w : World) (next2 : NT) (R : RT) (E : Pan) : Prop :=
 oP E (fA 73 x3 3) w fun f6h a3H =>
 oP E (lA 57 f6h) a3H fun f6i a6B =>
 oP E (iA 57 f6i (vI 0)) a6B fun f6j a8X =>
 oP E (lA 59 f6j) a8X fun f6k a7v =>
 oP E (xCall (fC 135) [x0, f6k]) a7v fun f6l a1f =>
 xcond f6l
 (oP E (fA 73 x3 4) a1f fun f6m a3m =>
 oP E (lA 23 f6m) a3m fun f6n a7w =>
 oP E (xCall (fC 60) [x0, f6n]) a7w fun _t90_119 a0K =>
 next2 [] a0K)
 (R (Value.tuple #[]) a1f)
def e8H (x0 x1 : Value) (w : World) (R : RT) (E : Pan) : Prop :=
 oP E (xV (Instr.box 73 x1)) w fun M5 w_2 =>
 oP E (fA 73 M5 0) w_2 fun a0Q w_4 =>
 oP E (lA 3 a0Q) w_4 fun a2r w_6 =>
 oP E (xBin .eql 3 (.tmp 10) (.const (vI 1)) a2r (vI 1)) w_6 fun a3o w_8 =>
 xcond a3o
 (oP E (fA 73 M5 2) w_8 fun c4P q7 =>
 oP E (lA 51 c4P) q7 fun d1S q9 =>
 oP E (iA 51 d1S (vI 0)) q9 fun d0k p9 =>
 oP E (lA 53 d0k) p9 fun d0l s6 =>
 oP E (xCall (fC 131) [x0, d0l]) s6 fun b6r u5 =>
 oP E (eX b6r 0) u5 fun d4L u9 =>
 oP E (eX b6r 1) u9 fun d4M y6 =>
 xcut (fun d1D B3 => c7G x0 M5 (nth d1D 0) B3 R E) fun j1 =>
 xcond d4M
 (oP E (xCall (fC 132) [x0]) y6 fun _t26_35 J0 =>
 j1 [d4L] J0)
 (oP E (fA 73 M5 2) y6 fun b1U I0 =>
 oP E (lA 51 b1U) I0 fun d0p G3 =>
 oP E (iA 51 d0p (vI 0)) G3 fun d0y G6 =>
 oP E (lA 53 d0y) G6 fun d0z G4 =>
 oP E (xCall (fC 133) [x0, d0z]) G4 fun d0A O4 =>
 j1 [d0A] O4))
 (oP E (xBin .eql 3 (.tmp 10) (.const (vI 2)) a2r (vI 2)) w_8 fun c6g N8 =>
 xcond c6g
 (oP E (fA 73 M5 2) N8 fun h1Y M9 =>
 oP E (lA 51 h1Y) M9 fun h1Z K6 =>
 oP E (iA 51 h1Z (vI 0)) K6 fun h2a N7 =>
 oP E (lA 53 h2a) N7 fun h2b O3 =>
 oP E (xCall (fC 133) [x0, h2b]) O3 fun h2c M8 =>
 oP E (fA 73 M5 2) M8 fun h2d Q4 =>
 oP E (lA 51 h2d) Q4 fun h2e P6 =>
 oP E (iA 51 h2e (vI 1)) P6 fun h2f Q5 =>
 oP E (lA 53 h2f) Q5 fun h2g S6 =>
 oP E (xCall (fC 133) [x0, h2g]) S6 fun h2h Q8 =>
 oP E (fA 73 M5 1) Q8 fun h2i Q3 =>
 oP E (lA 9 h2i) Q3 fun h2j W6 =>
 oP E (xCall (fC 134) [x0, h2j, h2c]) W6 fun h2k Y7 =>
 oP E (xNil h2k) Y7 fun h2l a0v =>
 oP E (sA 2 h2l h2h) a0v fun _z_77 W7 =>
 R (Value.tuple #[]) W7)
 (oP E (xBin .eql 3 (.tmp 10) (.const (vI 3)) a2r (vI 3)) N8 fun h2m a0E =>
 xcond h2m
 (oP E (fA 73 M5 3) a0E fun c0S V7 =>
 oP E (lA 57 c0S) V7 fun c0T U9 =>
 oP E (iA 57 c0T (vI 0)) U9 fun c0U a0g =>
 oP E (lA 59 c0U) a0g fun c0V V0 =>
 oP E (xCall (fC 135) [x0, c0V]) V0 fun h2n a2o =>
 xcond h2n
 (oP E (fA 73 M5 4) a2o fun h2o a4E =>
 oP E (lA 23 h2o) a4E fun h2p a0h =>
 oP E (xCall (fC 60) [x0, h2p]) a0h fun _t74_95 a6d =>
 R (Value.tuple #[]) a6d)
 (oP E (fA 73 M5 5) a2o fun h2q a7m =>
 oP E (lA 23 h2q) a7m fun h2r a1e =>
 oP E (xCall (fC 60) [x0, h2r]) a1e fun _t78_101 a0i =>
 R (Value.tuple #[]) a0i))
 (oP E (xBin .eql 3 (.tmp 10) (.const (vI 4)) a2r (vI 4)) a0E fun f6o a0J =>
 xcond f6o
 (xloop [] [] a0J fun _ a6C next2 =>
 d6B x0 M5 a6C next2 R E)
 (oP E (xBin .eql 3 (.tmp 10) (.const (vI 6)) a2r (vI 6)) a0J fun f6p a8j =>
 xcond f6p
 (oP E (fA 73 M5 3) a8j fun f6q a8Y =>
 oP E (lA 57 f6q) a8Y fun f6r b0e =>
 oP E (iA 57 f6r (vI 0)) b0e fun f6s a7x =>
 oP E (lA 59 f6s) a7x fun f6t a5f =>
 oP E (xCall (fC 135) [x0, f6t]) a5f fun f6u a5g =>
 oP E (xV (Op.unary .not f6u)) a5g fun f6v a8i =>
 xcond f6v
 (oP E (xCall (fC 136) [x0, (vI 2), (vI 0)]) a8i fun _t101_137 b0d =>
 R (Value.tuple #[]) b0d)
 (R (Value.tuple #[]) a8i))
 (oP E (xBin .eql 3 (.tmp 10) (.const (vI 5)) a2r (vI 5)) a8j fun e8I b1A =>
 xcond e8I
 (oP E (fA 73 M5 3) b1A fun e8J b2C =>
 oP E (lA 57 e8J) b2C fun e8K b2D =>
 oP E (iA 57 e8K (vI 0)) b2D fun e8L b1B =>
 oP E (lA 59 e8L) b1B fun e8M b7z =>
 oP E (xCall (fC 135) [x0, e8M]) b7z fun d4N c4E =>
 oP E (xCall (fC 132) [x0]) c4E fun _t111_151 c4F =>
 oP E (xNil x0) c4F fun e8N c4I =>
 oP E (fA 80 e8N 3) c4I fun e8O c1j =>
 oP E (lA 39 e8O) c1j fun e8P b7A =>
 oP E (xV (Instr.build 95 #[(2, d4N)])) b7A fun e8Q h7X =>
 oP E (xV (Instr.buildSlice 39 1 #[(0, e8Q)])) h7X fun e8R h7Y =>
 oP E (xBuiltin .append #[39, 39] 39 [false, false] [e8P, e8R]) h7Y fun e8S h7Z =>
 oP E (xNil x0) h7Z fun e8T h8a =>
 oP E (fA 80 e8T 3) h8a fun e8U b8K =>
 oP E (sA 39 e8U e8S) b8K fun _z_169 h8b =>
 oP E (xV (Op.unary .not d4N)) h8b fun e8V d9n =>
 xcond e8V
 (oP E (xCall (fC 137) [x0, (vI 4)]) d9n fun _t126_173 h8c =>
 R (Value.tuple #[]) h8c)
 (R (Value.tuple #[]) d9n))
 (oP E (xCall (fC 132) [x0]) b1A fun _t12_175 h8d =>
 R (Value.tuple #[]) h8d))))))
noncomputable def h2s : Code := Tryz.f103.body.getD .skip
def h2t : Hint := (sQ (sQ (.block (sQ (.cond (sQ (.cut [4] (sQ (.cond .none .none)) (.reg [(0, 8589934592, 1), (1, 17179869184, 8589934592), (2, 34359738368, 17179869184), (4, 68719476736, 34359738368), (0, 137438953472, 8), (16, 274877906944, 137438953472), (40, 549755813888, 343597383680), (0, 1099511627776, 16), (255, 2199023255552, 549755813888), (511, 0, 3298534883328)] [104, 104, 104, 96, 104, 72, 40, 104, 104, 0] (.early 0 (.early 1 (.early 2 (.early 4 (.early 7 (.load 3 (.load 5 (.load 6 (.early 8 (.step 9 .done))))))))))))) (sQ (.cond (sQ (sQ .none)) (sQ (.cond (sQ (.cond .none .none)) (sQ (.cond (.block (.loop [] (.seq (sQ (.cond .none .none)) (.block .none)))) (sQ (.cond (sQ (.cond .none .none)) (sQ (.cond (sQ (sQ (sQ (sQ (.cond .none .none))))) .none)))))))))))))))
theorem f6w (x0 x1 : Value) (w : World) (R : RT) (E : Pan) : e8H x0 x1 w R E = callX Tryz.prog [] h2s h2t [x0, x1] w R E := by kernel_rfl
theorem f6x {x0 x1 : Value} (h : e8H x0 x1 w R E) : Cv Tryz.prog 103 #[x0, x1] w R E := by
 refine i6 (args := [x0, x1]) (c := h2s) (h := h2t) (rs := []) Tryz.func103 (by kernel_rfl) (by kernel_rfl) (nB (by kernel_rfl)) (by kernel_rfl) (by kernel_rfl) (by kernel_rfl) ?_
 rw [← f6w]
 exact h
def e8W (x0 x1 : Value) (w : World) (R : RT) (E : Pan) : Prop :=
 oP E (xV (Instr.box 53 x1)) w fun M5 w_2 =>
 oP E (fA 53 M5 0) w_2 fun a7n w_4 =>
 oP E (lA 3 a7n) w_4 fun a5v w_6 =>
 oP E (xBin .eql 3 (.tmp 7) (.const (vI 2)) a5v (vI 2)) w_6 fun a4F w_8 =>
 xcond a4F
 (dX w_8 fun w_9 =>
 qP Tryz.prog (xNil x0) fun c0s =>
 qP Tryz.prog (fA 80 c0s 4) fun a7h =>
 qP Tryz.prog (fA 53 M5 2) fun e4q =>
 qL Tryz.prog w_9 (blk a7h) (lA 77 a7h) fun b1M =>
 qL Tryz.prog w_9 (blk e4q) (lA 9 e4q) fun h2u =>
 qL Tryz.prog w_9 (blk b1M) (xV (Instr.lookup 77 b1M h2u false)) fun d4O =>
 qP Tryz.prog (xNil d4O) fun b6K =>
 qL Tryz.prog w_9 (blk b6K) (lA 2 b6K) fun a1N =>
 R (Value.tuple #[a1N, (vB true)]) w_9)
 (oP E (lA 53 M5) w_8 fun h2v Y6 =>
 oP E (xCall (fC 158) [h2v]) Y6 fun e4r a0f =>
 oP E (eX e4r 0) a0f fun h2w a0R =>
 oP E (eX e4r 1) a0R fun h2x a7l =>
 R (Value.tuple #[h2w, h2x]) a7l)
noncomputable def h2y : Code := Tryz.f131.body.getD .skip
def h2z : Hint := (sQ (.seq (sQ (.cond (.seq (.reg [(0, 512, 1), (1, 1024, 512), (2, 2048, 1024), (4, 4096, 2048), (0, 8192, 8), (16, 16384, 8192), (40, 32768, 20480), (64, 65536, 32768), (128, 131072, 65536), (511, 16, 131072), (1023, 32, 0)] [360, 360, 360, 352, 360, 328, 296, 360, 104, 360, 360] (.early 0 (.early 1 (.early 2 (.early 4 (.load 3 (.load 5 (.load 6 (.early 7 (.load 8 (.early 9 (.early 10 .done)))))))))))) .none) .none)) (sQ .none)))
theorem f6y (x0 x1 : Value) (w : World) (R : RT) (E : Pan) : e8W x0 x1 w R E = callX Tryz.prog [.tmp 4, .tmp 5] h2y h2z [x0, x1] w R E := by kernel_rfl
theorem f6z {x0 x1 : Value} (h : e8W x0 x1 w R E) : Cv Tryz.prog 131 #[x0, x1] w R E := by
 refine i6 (args := [x0, x1]) (c := h2y) (h := h2z) (rs := [.tmp 4, .tmp 5]) Tryz.func131 (by kernel_rfl) (by kernel_rfl) (nB (by kernel_rfl)) (by kernel_rfl) (by kernel_rfl) (by kernel_rfl) ?_
 rw [← f6y]
 exact h
def d6C (x0 : Value) (w : World) (R : RT) (E : Pan) : Prop :=
 ∀ _τ : Fr, (oP E (xNil x0) w fun c1f w_2 =>
 oP E (fA 80 c1f 0) w_2 fun a4h w_4 =>
 oP E (lA 3 a4h) w_4 fun a9Z w_6 =>
 oP E (xBin .sub 3 (.tmp 12) (.const (vI 1)) a9Z (vI 1)) w_6 fun b0a w_8 =>
 oP E (xNil x0) w_8 fun a5I q7 =>
 oP E (fA 80 a5I 0) q7 fun a7E q9 =>
 oP E (sA 3 a7E b0a) q9 fun _z_13 p9 =>
 oP E (xNil x0) p9 fun a6c s6 =>
 oP E (fA 80 a6c 1) s6 fun b9r u5 =>
 oP E (lA 3 b9r) u5 fun d0e u9 =>
 oP E (xBin .add 3 (.tmp 19) (.const (vI 1)) d0e (vI 1)) u9 fun b6s y6 =>
 oP E (xNil x0) y6 fun c0m z6 =>
 oP E (fA 80 c0m 1) z6 fun b1L A6 =>
 oP E (sA 3 b1L b6s) A6 fun _z_27 D8 =>
 R (Value.tuple #[]) D8)
def e8X (x0 : Value) (w : World) (R : RT) (E : Pan) : Prop :=
 xcut (fun _ K1 => d6C x0 K1 R E) fun j1 =>
 oP E (xNil x0) w fun h8e B7 =>
 oP E (fA 80 h8e 0) B7 fun h8f B3 =>
 oP E (lA 3 h8f) B3 fun h8g J0 =>
 oP E (xBin .eql 3 (.tmp 5) (.const (vI 0)) h8g (vI 0)) J0 fun h8h I0 =>
 xcond h8h
 (oP E (xCall (fC 136) [x0, (vI 1), (vI 0)]) I0 fun _t8_39 G3 =>
 j1 [] G3)
 (j1 [] I0)
noncomputable def h2A : Code := Tryz.f132.body.getD .skip
def h2B : Hint := (.cut [] (sQ (.cond .none .none)) (sQ .none))
theorem f6A (x0 : Value) (w : World) (R : RT) (E : Pan) : e8X x0 w R E = callX Tryz.prog [] h2A h2B [x0] w R E := by kernel_rfl
theorem f6B {x0 : Value} (h : e8X x0 w R E) : Cv Tryz.prog 132 #[x0] w R E := by
 refine i6 (args := [x0]) (c := h2A) (h := h2B) (rs := []) Tryz.func132 (by kernel_rfl) (by kernel_rfl) (nB (by kernel_rfl)) (by kernel_rfl) (by kernel_rfl) (by kernel_rfl) ?_
 rw [← f6A]
 exact h
def c7H (x0 x3 x7 : Value) (w : World) (R : RT) (E : Pan) : Prop :=
 ∀ _τ : Fr, (oP E (fA 53 x3 0) w fun h2C q9 =>
 oP E (lA 3 h2C) q9 fun c4r p9 =>
 oP E (xBin .eql 3 (.tmp 33) (.const (vI 3)) c4r (vI 3)) p9 fun h2D s6 =>
 xcond h2D
 (oP E (xCall (fC 159) [x0]) s6 fun h2E u5 =>
 R h2E u5)
 (oP E (xBin .eql 3 (.tmp 33) (.const (vI 4)) c4r (vI 4)) s6 fun h2F u9 =>
 xcond h2F
 (dX u9 fun a0f =>
 qP Tryz.prog (fA 53 x3 2) fun e4s =>
 qP Tryz.prog (iA 37 x7 (vI 0)) fun e4t =>
 qL Tryz.prog a0f (blk e4s) (lA 9 e4s) fun h2G =>
 qL Tryz.prog a0f (blk e4t) (lA 2 e4t) fun h2H =>
 oP E (xCall (fC 134) [x0, h2G, h2H]) a0f fun h2I Z6 =>
 keepX [] a0f Z6 (qP Tryz.prog (xNil h2I) fun e4u =>
 qL Tryz.prog Z6 (blk e4u) (lA 2 e4u) fun h2J =>
 R h2J Z6))
 (oP E (xCall (fC 132) [x0]) u9 fun _t50_30 a7u =>
 oP E (fA 53 x3 0) a7u fun h2K a8G =>
 oP E (lA 3 h2K) a8G fun c0W a6O =>
 oP E (xBin .eql 3 (.tmp 52) (.const (vI 5)) c0W (vI 5)) a6O fun h2L b0n =>
 xcond h2L
 (oP E (iA 37 x7 (vI 0)) b0n fun h2M b9Q =>
 oP E (lA 2 h2M) b9Q fun h2N b7y =>
 oP E (xCall (fC 112) [h2N]) b7y fun e4v b3w =>
 oP E (eX e4v 0) b3w fun h2O b2g =>
 oP E (eX e4v 1) b2g fun h2P b9w =>
 oP E (xCall (fC 160) [x0, h2O, h2P]) b9w fun h2Q b0L =>
 R h2Q b0L)
 (oP E (xBin .eql 3 (.tmp 52) (.const (vI 6)) c0W (vI 6)) b0n fun h2R b5T =>
 xcond h2R
 (dX b5T fun K6 =>
 qP Tryz.prog (iA 37 x7 (vI 0)) fun e4w =>
 qP Tryz.prog (iA 37 x7 (vI 1)) fun e4x =>
 qL Tryz.prog K6 (blk e4w) (lA 2 e4w) fun h2S =>
 qL Tryz.prog K6 (blk e4x) (lA 2 e4x) fun h2T =>
 oP E (xCall (fC 113) [h2S, h2T]) K6 fun e4y M8 =>
 keepX [] K6 M8 (qP Tryz.prog (eX e4y 0) fun h2U =>
 qP Tryz.prog (eX e4y 1) fun h2V =>
 oP E (xCall (fC 160) [x0, h2U, h2V]) M8 fun h2W P6 =>
 keepX [] M8 P6 (R h2W P6)))
 (oP E (xBin .eql 3 (.tmp 52) (.const (vI 7)) c0W (vI 7)) b5T fun h2X Q5 =>
 xcond h2X
 (dX Q5 fun b5B =>
 qP Tryz.prog (iA 37 x7 (vI 0)) fun e4z =>
 qP Tryz.prog (iA 37 x7 (vI 1)) fun e4A =>
 qL Tryz.prog b5B (blk e4z) (lA 2 e4z) fun h2Y =>
 qL Tryz.prog b5B (blk e4A) (lA 2 e4A) fun h2Z =>
 oP E (xCall (fC 114) [h2Y, h2Z]) b5B fun e4B b1i =>
 keepX [] b5B b1i (qP Tryz.prog (eX e4B 0) fun h3a =>
 qP Tryz.prog (eX e4B 1) fun h3b =>
 oP E (xCall (fC 160) [x0, h3a, h3b]) b1i fun h3c c7c =>
 keepX [] b1i c7c (R h3c c7c)))
 (oP E (xBin .eql 3 (.tmp 52) (.const (vI 8)) c0W (vI 8)) Q5 fun h3d b0r =>
 xcond h3d
 (dX b0r fun W7 =>
 qP Tryz.prog (iA 37 x7 (vI 0)) fun e4C =>
 qP Tryz.prog (iA 37 x7 (vI 1)) fun e4D =>
 qL Tryz.prog W7 (blk e4C) (lA 2 e4C) fun h3e =>
 qL Tryz.prog W7 (blk e4D) (lA 2 e4D) fun h3f =>
 oP E (xCall (fC 115) [h3e, h3f]) W7 fun e4E U9 =>
 keepX [] W7 U9 (qP Tryz.prog (eX e4E 0) fun h3g =>
 qP Tryz.prog (eX e4E 1) fun f6C =>
 oP E (xCall (fC 160) [x0, h3g, f6C]) U9 fun f6D V0 =>
 keepX [] U9 V0 (R f6D V0)))
 (oP E (xBin .eql 3 (.tmp 52) (.const (vI 9)) c0W (vI 9)) b0r fun f6E a2o =>
 xcond f6E
 (dX a2o fun b0s =>
 qP Tryz.prog (iA 37 x7 (vI 0)) fun d6D =>
 qP Tryz.prog (iA 37 x7 (vI 1)) fun d6E =>
 qL Tryz.prog b0s (blk d6D) (lA 2 d6D) fun f6F =>
 qL Tryz.prog b0s (blk d6E) (lA 2 d6E) fun f6G =>
 oP E (xCall (fC 116) [f6F, f6G]) b0s fun d6F a7t =>
 keepX [] b0s a7t (qP Tryz.prog (eX d6F 0) fun f6H =>
 qP Tryz.prog (eX d6F 1) fun f6I =>
 oP E (xCall (fC 160) [x0, f6H, f6I]) a7t fun e8Y b8i =>
 keepX [] a7t b8i (R e8Y b8i)))
 (dX a2o fun a0i =>
 qP Tryz.prog (iA 37 x7 (vI 0)) fun d4P =>
 qP Tryz.prog (iA 37 x7 (vI 1)) fun d4Q =>
 qL Tryz.prog a0i (blk d4P) (lA 2 d4P) fun e8Z =>
 qL Tryz.prog a0i (blk d4Q) (lA 2 d4Q) fun e9a =>
 oP E (xCall (fC 117) [e8Z, e9a]) a0i fun d4R a6B =>
 keepX [] a0i a6B (qP Tryz.prog (eX d4R 0) fun e9b =>
 qP Tryz.prog (eX d4R 1) fun e9c =>
 oP E (xCall (fC 160) [x0, e9b, e9c]) a6B fun e9d a7v =>
 keepX [] a6B a7v (R e9d a7v))))))))))
def d6G (x0 _x3 x7 x19 x20 x21 : Value) (w : World) (next2 : NT) (j1 : NT) (_R : RT) (E : Pan) : Prop :=
 oP E (xBin .lss 3 (.tmp 21) (.tmp 20) x21 x20) w fun f6J a6C =>
 xcond f6J
 (oP E (iA 51 x19 x21) a6C fun f6K a8j =>
 oP E (lA 53 f6K) a8j fun f6L a8Y =>
 oP E (xV (Instr.alloc 53 true (.tuple #[]))) a8Y fun e4F b0e =>
 oP E (sA 53 e4F f6L) b0e fun _z_129 a7x =>
 oP E (lA 53 e4F) a7x fun f6M a5f =>
 oP E (xCall (fC 133) [x0, f6M]) a5f fun f6N a5g =>
 oP E (xV (Instr.buildSlice 37 1 #[(0, f6N)])) a5g fun f6O a8i =>
 oP E (xBuiltin .append #[37, 37] 37 [false, false] [x7, f6O]) a8i fun f6P b0d =>
 oP E (xBin .add 3 (.tmp 21) (.const (vI 1)) x21 (vI 1)) b0d fun f6Q b1A =>
 next2 [f6P, f6Q] b1A)
 (j1 [x7] a6C)
def e9e (x0 x1 : Value) (w : World) (R : RT) (E : Pan) : Prop :=
 oP E (xV (Instr.box 53 x1)) w fun M5 w_2 =>
 oP E (lA 53 M5) w_2 fun c5S w_4 =>
 oP E (xCall (fC 131) [x0, c5S]) w_4 fun a8o w_6 =>
 oP E (eX a8o 0) w_6 fun a3o w_8 =>
 oP E (eX a8o 1) w_8 fun b4Y q7 =>
 xcond b4Y
 (R a3o q7)
 (xcut (fun h8i a1f => c7H x0 M5 (nth h8i 0) a1f R E) fun j1 =>
 oP E (fA 53 M5 3) q7 fun f6R a3m =>
 oP E (lA 51 f6R) a3m fun d6H a7w =>
 oP E (xBuiltin .len #[51] 3 [false] [d6H]) a7w fun f6S a0K =>
 xloop [7, 21] [(nS), (vI 0)] a0K fun τ_141 b2C next2 =>
 d6G x0 M5 (τ_141 7) d6H f6S (τ_141 21) b2C next2 j1 R E)
noncomputable def h3h : Code := Tryz.f133.body.getD .skip
def h3i : Hint := (sQ (.seq (sQ (sQ (.cond (sQ .none) .none))) (sQ (.cut [7] (sQ (.block (.loop [7, 21] (sQ (.seq (.cond .none .none) (.seq (.block (sQ .none)) .none)))))) (.seq (sQ (.block (sQ (.cond (sQ .none) (sQ (.cond (.seq (.reg [(0, 1099511627776, 1), (0, 2199023255552, 8), (2, 4398046511104, 2199023255552), (0, 8796093022208, 128), (8, 17592186044416, 8796093022208), (16, 35184372088832, 17592186044416), (37, 70368744177664, 40681930227712), (64, 140737488355328, 70368744177664), (128, 281474976710656, 140737488355328), (511, 16, 281474976710656)] [292, 292, 288, 292, 292, 260, 0, 292, 36, 292] (.early 0 (.early 1 (.early 3 (.early 4 (.load 2 (.load 5 (.step 6 (.early 7 (.load 8 (.early 9 .done))))))))))) .none) .none)))))) (sQ (.seq (sQ (.block (sQ (.cond (sQ .none) (sQ (.cond (.seq (.reg [(0, 36893488147419103232, 1), (0, 73786976294838206464, 128), (2, 147573952589676412928, 73786976294838206464), (4, 295147905179352825856, 147573952589676412928), (0, 590295810358705651712, 128), (16, 1180591620717411303424, 590295810358705651712), (32, 2361183241434822606848, 1180591620717411303424), (72, 4722366482869645213696, 2656331146614175432704), (128, 9444732965739290427392, 4722366482869645213696), (128, 18889465931478580854784, 4722366482869645213696), (897, 37778931862957161709568, 28371092385365290385408), (2047, 16, 37778931862957161709568)] [72, 72, 72, 64, 72, 72, 8, 0, 72, 72, 0, 72] (.early 0 (.early 1 (.early 2 (.early 4 (.early 5 (.load 3 (.load 6 (.step 7 (.early 8 (.early 9 (.step 10 (.early 11 .done))))))))))))) .none) (sQ (.cond (.seq (.reg [(0, 302231454903657293676544, 1), (0, 604462909807314587353088, 128), (2, 1208925819614629174706176, 604462909807314587353088), (4, 2417851639229258349412352, 1208925819614629174706176), (0, 4835703278458516698824704, 128), (16, 9671406556917033397649408, 4835703278458516698824704), (32, 19342813113834066795298816, 9671406556917033397649408), (72, 38685626227668133590597632, 21760664753063325144711168), (128, 77371252455336267181195264, 38685626227668133590597632), (128, 154742504910672534362390528, 38685626227668133590597632), (897, 309485009821345068724781056, 232415988820912458837262336), (2047, 16, 309485009821345068724781056)] [72, 72, 72, 64, 72, 72, 8, 0, 72, 72, 0, 72] (.early 0 (.early 1 (.early 2 (.early 4 (.early 5 (.load 3 (.load 6 (.step 7 (.early 8 (.early 9 (.step 10 (.early 11 .done))))))))))))) .none) (sQ (.cond (.seq (.reg [(0, 2475880078570760549798248448, 1), (0, 4951760157141521099596496896, 128), (2, 9903520314283042199192993792, 4951760157141521099596496896), (4, 19807040628566084398385987584, 9903520314283042199192993792), (0, 39614081257132168796771975168, 128), (16, 79228162514264337593543950336, 39614081257132168796771975168), (32, 158456325028528675187087900672, 79228162514264337593543950336), (72, 316912650057057350374175801344, 178263365657094759585473888256), (128, 633825300114114700748351602688, 316912650057057350374175801344), (128, 1267650600228229401496703205376, 316912650057057350374175801344), (897, 2535301200456458802993406410752, 1903951780420914862794853056512), (2047, 16, 2535301200456458802993406410752)] [72, 72, 72, 64, 72, 72, 8, 0, 72, 72, 0, 72] (.early 0 (.early 1 (.early 2 (.early 4 (.early 5 (.load 3 (.load 6 (.step 7 (.early 8 (.early 9 (.step 10 (.early 11 .done))))))))))))) .none) (sQ (.cond (.seq (.reg [(0, 20282409603651670423947251286016, 1), (0, 40564819207303340847894502572032, 128), (2, 81129638414606681695789005144064, 40564819207303340847894502572032), (4, 162259276829213363391578010288128, 81129638414606681695789005144064), (0, 324518553658426726783156020576256, 128), (16, 649037107316853453566312041152512, 324518553658426726783156020576256), (32, 1298074214633706907132624082305024, 649037107316853453566312041152512), (72, 2596148429267413814265248164610048, 1460333491462920270524202092593152), (128, 5192296858534827628530496329220096, 2596148429267413814265248164610048), (128, 10384593717069655257060992658440192, 2596148429267413814265248164610048), (897, 20769187434139310514121985316880384, 15597172985208134556015436238946304), (2047, 16, 20769187434139310514121985316880384)] [72, 72, 72, 64, 72, 72, 8, 0, 72, 72, 0, 72] (.early 0 (.early 1 (.early 2 (.early 4 (.early 5 (.load 3 (.load 6 (.step 7 (.early 8 (.early 9 (.step 10 (.early 11 .done))))))))))))) .none) .none)))))))))))) (.seq (.reg [(0, 41538374868278621028243970633760768, 1), (0, 83076749736557242056487941267521536, 128), (2, 166153499473114484112975882535043072, 83076749736557242056487941267521536), (4, 332306998946228968225951765070086144, 166153499473114484112975882535043072), (0, 664613997892457936451903530140172288, 128), (16, 1329227995784915872903807060280344576, 664613997892457936451903530140172288), (32, 2658455991569831745807614120560689152, 1329227995784915872903807060280344576), (72, 5316911983139663491615228241121378304, 2990762990516060714033565885630775296), (128, 10633823966279326983230456482242756608, 5316911983139663491615228241121378304), (128, 21267647932558653966460912964485513216, 5316911983139663491615228241121378304), (897, 42535295865117307932921825928971026432, 31943010273706259570719613417362030592), (2047, 16, 42535295865117307932921825928971026432)] [72, 72, 72, 64, 72, 72, 8, 0, 72, 72, 0, 72] (.early 0 (.early 1 (.early 2 (.early 4 (.early 5 (.load 3 (.load 6 (.step 7 (.early 8 (.early 9 (.step 10 (.early 11 .done))))))))))))) .none))))))))
theorem f6T (x0 x1 : Value) (w : World) (R : RT) (E : Pan) : e9e x0 x1 w R E = callX Tryz.prog [.tmp 4] h3h h3i [x0, x1] w R E := by kernel_rfl
theorem f6U {x0 x1 : Value} (h : e9e x0 x1 w R E) : Cv Tryz.prog 133 #[x0, x1] w R E := by
 refine i6 (args := [x0, x1]) (c := h3h) (h := h3i) (rs := [.tmp 4]) Tryz.func133 (by kernel_rfl) (by kernel_rfl) (nB (by kernel_rfl)) (by kernel_rfl) (by kernel_rfl) (by kernel_rfl) ?_
 rw [← f6T]
 exact h
def d6I (x2 x7 : Value) (w : World) (R : RT) (E : Pan) : Prop :=
 ∀ _τ : Fr, (oP E (iA 37 x7 x2) w fun h3j q9 =>
 R h3j q9)
def e9f (x0 x1 x2 : Value) (w : World) (R : RT) (E : Pan) : Prop :=
 oP E (xCall (fC 132) [x0]) w fun _t9_1 w_2 =>
 oP E (xNil x0) w_2 fun a4h w_4 =>
 oP E (fA 80 a4h 5) w_4 fun a9Z w_6 =>
 oP E (lA 78 a9Z) w_6 fun b0a w_8 =>
 oP E (xV (Instr.lookup 78 b0a x1 false)) w_8 fun b4Y q7 =>
 xcut (fun _ p9 => d6I x2 b4Y p9 R E) fun j1 =>
 oP E (xBin .lss 2 (.tmp 16) (.const (vI 0)) x2 (vI 0)) q7 fun a6c s6 =>
 oP E (gsem (asB a6c) false (xBuiltin .len #[37] 3 [false] [(gval (asB a6c) false b4Y)])) s6 fun b6r u5 =>
 oP E (gsem (asB a6c) false (xBin .geq 2 (.tmp 19) (.tmp 21) (gval (asB a6c) false x2) b6r)) u5 fun d4L u9 =>
 oP E (xPick a6c (vB true) d4L) u9 fun d4M y6 =>
 xcond d4M
 (oP E (xCall (fC 137) [x0, (vI 3)]) y6 fun _t25_23 z6 =>
 j1 [] z6)
 (j1 [] y6)
noncomputable def h3k : Code := Tryz.f134.body.getD .skip
def h3l : Hint := (sQ (sQ (sQ (.cut [] (sQ (.cond .none .none)) (sQ .none)))))
theorem f6V (x0 x1 x2 : Value) (w : World) (R : RT) (E : Pan) : e9f x0 x1 x2 w R E = callX Tryz.prog [.tmp 6] h3k h3l [x0, x1, x2] w R E := by kernel_rfl
theorem f6W {x0 x1 x2 : Value} (h : e9f x0 x1 x2 w R E) : Cv Tryz.prog 134 #[x0, x1, x2] w R E := by
 refine i6 (args := [x0, x1, x2]) (c := h3k) (h := h3l) (rs := [.tmp 6]) Tryz.func134 (by kernel_rfl) (by kernel_rfl) (nB (by kernel_rfl)) (by kernel_rfl) (by kernel_rfl) (by kernel_rfl) ?_
 rw [← f6V]
 exact h
def e9g (x0 x1 : Value) (w : World) (R : RT) (E : Pan) : Prop :=
 oP E (xV (Instr.box 59 x1)) w fun M5 w_2 =>
 oP E (fA 59 M5 0) w_2 fun a9j w_4 =>
 oP E (lA 3 a9j) w_4 fun b5S w_6 =>
 oP E (xBin .eql 3 (.tmp 8) (.const (vI 4)) b5S (vI 4)) w_6 fun b1E w_8 =>
 xcond b1E
 (oP E (fA 59 M5 3) w_8 fun b1C q7 =>
 oP E (lA 57 b1C) q7 fun d2o q9 =>
 oP E (iA 57 d2o (vI 0)) q9 fun h3m p9 =>
 oP E (lA 59 h3m) p9 fun d4O s6 =>
 oP E (xCall (fC 135) [x0, d4O]) s6 fun h3n u5 =>
 oP E (xV (Op.unary .not h3n)) u5 fun h3o u9 =>
 R h3o u9)
 (oP E (xBin .eql 3 (.tmp 8) (.const (vI 5)) b5S (vI 5)) w_8 fun a1P y6 =>
 xcond a1P
 (oP E (fA 59 M5 3) y6 fun c0m z6 =>
 oP E (lA 57 c0m) z6 fun b1L A6 =>
 oP E (iA 57 b1L (vI 0)) A6 fun b3Z D8 =>
 oP E (lA 59 b3Z) D8 fun c0q K1 =>
 oP E (xCall (fC 135) [x0, c0q]) K1 fun a7T B7 =>
 oP E (gsem (asB a7T) true (fA 59 M5 3)) B7 fun d0f B3 =>
 oP E (gsem (asB a7T) true (lA 57 d0f)) B3 fun h3p J0 =>
 oP E (gsem (asB a7T) true (iA 57 h3p (vI 1))) J0 fun h3q I0 =>
 oP E (gsem (asB a7T) true (lA 59 h3q)) I0 fun h3r G3 =>
 oP E (gsem (asB a7T) true (xCall (fC 135) [(gval (asB a7T) true x0), h3r])) G3 fun h3s G6 =>
 oP E (xPick a7T h3s (vB false)) G6 fun d2c G4 =>
 R d2c G4)
 (oP E (xBin .eql 3 (.tmp 8) (.const (vI 6)) b5S (vI 6)) y6 fun h3t O4 =>
 xcond h3t
 (oP E (fA 59 M5 3) O4 fun d0g N8 =>
 oP E (lA 57 d0g) N8 fun h3u M9 =>
 oP E (iA 57 h3u (vI 0)) M9 fun h3v K6 =>
 oP E (lA 59 h3v) K6 fun h3w N7 =>
 oP E (xCall (fC 135) [x0, h3w]) N7 fun b4B O3 =>
 oP E (gsem (asB b4B) false (fA 59 M5 3)) O3 fun h3x M8 =>
 oP E (gsem (asB b4B) false (lA 57 h3x)) M8 fun d3H Q4 =>
 oP E (gsem (asB b4B) false (iA 57 d3H (vI 1))) Q4 fun h3y P6 =>
 oP E (gsem (asB b4B) false (lA 59 h3y)) P6 fun h3z Q5 =>
 oP E (gsem (asB b4B) false (xCall (fC 135) [(gval (asB b4B) false x0), h3z])) Q5 fun h3A S6 =>
 oP E (xPick b4B (vB true) h3A) S6 fun h3B Q8 =>
 R h3B Q8)
 (oP E (xBin .eql 3 (.tmp 8) (.const (vI 3)) b5S (vI 3)) O4 fun h3C Q3 =>
 xcond h3C
 (oP E (fA 59 M5 2) Q3 fun h3D W6 =>
 oP E (lA 51 h3D) W6 fun d3P Y7 =>
 oP E (iA 51 d3P (vI 0)) Y7 fun h3E a0v =>
 oP E (lA 53 h3E) a0v fun d3Q W7 =>
 oP E (xCall (fC 133) [x0, d3Q]) W7 fun h3F a0E =>
 oP E (fA 59 M5 2) a0E fun h3G V7 =>
 oP E (lA 51 h3G) V7 fun h3H U9 =>
 oP E (iA 51 h3H (vI 1)) U9 fun h3I a0g =>
 oP E (lA 53 h3I) a0g fun h3J V0 =>
 oP E (xCall (fC 133) [x0, h3J]) V0 fun h3K a2o =>
 oP E (xCall (fC 132) [x0]) a2o fun _t65_91 a4E =>
 oP E (fA 59 M5 1) a4E fun h3L a0h =>
 oP E (lA 3 h3L) a0h fun h3M a6d =>
 oP E (xCall (fC 73) [h3M, h3F, h3K]) a6d fun d0j a7m =>
 R d0j a7m)
 (oP E (xCall (fC 132) [x0]) Q3 fun _t72_99 a1e =>
 oP E (fA 59 M5 0) a1e fun c6u a0i =>
 oP E (lA 3 c6u) a0i fun c6v a0J =>
 oP E (xBin .eql 3 (.tmp 74) (.const (vI 1)) c6v (vI 1)) a0J fun f6X a3H =>
 R f6X a3H))))
noncomputable def h3N : Code := Tryz.f135.body.getD .skip
def h3O : Hint := (sQ (.seq (sQ (.block (sQ (.cond (sQ .none) (sQ (.cond (sQ .none) (sQ (.cond (sQ .none) (sQ (.cond (sQ (sQ (sQ (sQ .none)))) .none)))))))))) (sQ (sQ .none))))
theorem f6Y (x0 x1 : Value) (w : World) (R : RT) (E : Pan) : e9g x0 x1 w R E = callX Tryz.prog [.tmp 4] h3N h3O [x0, x1] w R E := by kernel_rfl
theorem f6Z {x0 x1 : Value} (h : e9g x0 x1 w R E) : Cv Tryz.prog 135 #[x0, x1] w R E := by
 refine i6 (args := [x0, x1]) (c := h3N) (h := h3O) (rs := [.tmp 4]) Tryz.func135 (by kernel_rfl) (by kernel_rfl) (nB (by kernel_rfl)) (by kernel_rfl) (by kernel_rfl) (by kernel_rfl) ?_
 rw [← f6Y]
 exact h
def e9h (_x0 x1 x2 : Value) (w : World) (R : RT) (E : Pan) : Prop :=
 oP E (xV (Instr.build 83 #[(0, x1), (1, x2)])) w fun b9u w_2 =>
 oP E (xV (Instr.makeInterface 83 b9u)) w_2 fun a0Q w_4 =>
 oP E (xV (Instr.panic a0Q)) w_4 fun _z_5 w_6 =>
 R (Value.tuple #[]) w_6
noncomputable def h3P : Code := Tryz.f136.body.getD .skip
def h3Q : Hint := .none
theorem f7a (x0 x1 x2 : Value) (w : World) (R : RT) (E : Pan) : e9h x0 x1 x2 w R E = callX Tryz.prog [] h3P h3Q [x0, x1, x2] w R E := by kernel_rfl
theorem f7b {x0 x1 x2 : Value} (h : e9h x0 x1 x2 w R E) : Cv Tryz.prog 136 #[x0, x1, x2] w R E := by
 refine i6 (args := [x0, x1, x2]) (c := h3P) (h := h3Q) (rs := []) Tryz.func136 (by kernel_rfl) (by kernel_rfl) (nB (by kernel_rfl)) (by kernel_rfl) (by kernel_rfl) (by kernel_rfl) ?_
 rw [← f7a]
 exact h
def e9i (x0 x1 : Value) (w : World) (R : RT) (E : Pan) : Prop :=
 oP E (xBin .neq 3 (.tmp 4) (.const (vI 0)) x1 (vI 0)) w fun c2B w_2 =>
 xcond c2B
 (oP E (xCall (fC 136) [x0, (vI 3), x1]) w_2 fun _t8_3 w_4 =>
 R (Value.tuple #[]) w_4)
 (R (Value.tuple #[]) w_2)
noncomputable def h3R : Code := Tryz.f137.body.getD .skip
def h3S : Hint := (sQ (.cond .none .none))
theorem f7c (x0 x1 : Value) (w : World) (R : RT) (E : Pan) : e9i x0 x1 w R E = callX Tryz.prog [] h3R h3S [x0, x1] w R E := by kernel_rfl
theorem f7d {x0 x1 : Value} (h : e9i x0 x1 w R E) : Cv Tryz.prog 137 #[x0, x1] w R E := by
 refine i6 (args := [x0, x1]) (c := h3R) (h := h3S) (rs := []) Tryz.func137 (by kernel_rfl) (by kernel_rfl) (nB (by kernel_rfl)) (by kernel_rfl) (by kernel_rfl) (by kernel_rfl) ?_
 rw [← f7c]
 exact h
def e0O (x0 : Value) (w : World) (R : RT) (E : Pan) : Prop :=
 oP E (xV (Instr.box 53 x0)) w fun r5 w_2 =>
 oP E (fA 53 r5 0) w_2 fun b2h w_4 =>
 oP E (lA 3 b2h) w_4 fun a8B w_6 =>
 oP E (xBin .eql 3 (.tmp 6) (.const (vI 1)) a8B (vI 1)) w_6 fun a5s w_8 =>
 xcond a5s
 (oP E (fA 53 r5 1) w_8 fun a5t q7 =>
 oP E (lA 2 a5t) q7 fun a5J q9 =>
 R (Value.tuple #[a5J, (vB true)]) q9)
 (oP E (fA 53 r5 0) w_8 fun a4d p9 =>
 oP E (lA 3 a4d) p9 fun a9Y s6 =>
 oP E (xBin .eql 3 (.tmp 12) (.const (vI 5)) a9Y (vI 5)) s6 fun T9 u5 =>
 oP E (gsem (asB T9) true (fA 53 r5 3)) u5 fun a0D u9 =>
 oP E (gsem (asB T9) true (lA 51 a0D)) u9 fun a0Y y6 =>
 oP E (gsem (asB T9) true (iA 51 a0Y (vI 0))) y6 fun a7C z6 =>
 oP E (gsem (asB T9) true (fA 53 a7C 0)) z6 fun a1M A6 =>
 oP E (gsem (asB T9) true (lA 3 a1M)) A6 fun a7D D8 =>
 oP E (gsem (asB T9) true (xBin .eql 3 (.tmp 19) (.const (vI 1)) a7D (vI 1))) D8 fun b9l K1 =>
 oP E (xPick T9 b9l (vB false)) K1 fun a8J B7 =>
 xcond a8J
 (oP E (fA 53 r5 3) B7 fun a6a B3 =>
 oP E (lA 51 a6a) B3 fun d2O J0 =>
 oP E (iA 51 d2O (vI 0)) J0 fun d2P I0 =>
 oP E (fA 53 d2P 1) I0 fun d2Q G3 =>
 oP E (lA 2 d2Q) G3 fun d2R G6 =>
 oP E (xV (Op.unary .neg d2R)) G6 fun d2S G4 =>
 R (Value.tuple #[d2S, (vB true)]) G4)
 (R (Value.tuple #[(vI 0), (vB false)]) B7))
noncomputable def h3T : Code := Tryz.f158.body.getD .skip
def h3U : Hint := (sQ (.seq (.block (sQ (.cond (sQ .none) (sQ (.cond (sQ .none) .none))))) (sQ .none)))
theorem f7e (x0 : Value) (w : World) (R : RT) (E : Pan) : e0O x0 w R E = callX Tryz.prog [.tmp 2, .tmp 3] h3T h3U [x0] w R E := by kernel_rfl
theorem f7f {x0 : Value} (h : e0O x0 w R E) : Cv Tryz.prog 158 #[x0] w R E := by
 refine i6 (args := [x0]) (c := h3T) (h := h3U) (rs := [.tmp 2, .tmp 3]) Tryz.func158 (by kernel_rfl) (by kernel_rfl) (nB (by kernel_rfl)) (by kernel_rfl) (by kernel_rfl) (by kernel_rfl) ?_
 rw [← f7e]
 exact h
def d6J (x0 : Value) (w : World) (R : RT) (E : Pan) : Prop :=
 ∀ _τ : Fr, (oP E (xCall (fC 132) [x0]) w fun _t13_1 w_2 =>
 oP E (xNil x0) w_2 fun h8j w_4 =>
 oP E (fA 80 h8j 2) w_4 fun h8k w_6 =>
 oP E (lA 37 h8k) w_6 fun e0L w_8 =>
 oP E (iA 37 e0L (vI 0)) w_8 fun b8y q7 =>
 oP E (lA 2 b8y) q7 fun a8O q9 =>
 oP E (xNil x0) q9 fun d4k p9 =>
 oP E (fA 80 d4k 2) p9 fun c6j s6 =>
 oP E (lA 37 c6j) s6 fun d4K u5 =>
 oP E (xV (Instr.sliceAt 37 d4K (some (vI 1)) none none)) u5 fun h3V u9 =>
 oP E (xNil x0) u9 fun h3W y6 =>
 oP E (fA 80 h3W 2) y6 fun h3X z6 =>
 oP E (sA 37 h3X h3V) z6 fun _z_25 A6 =>
 oP E (xNil x0) A6 fun d4m D8 =>
 oP E (fA 80 d4m 3) D8 fun h3Y K1 =>
 oP E (lA 39 h3Y) K1 fun h3Z B7 =>
 oP E (xV (Instr.build 95 #[(0, (vB true)), (1, a8O)])) B7 fun d0u B3 =>
 oP E (xV (Instr.buildSlice 39 1 #[(0, d0u)])) B3 fun d3F J0 =>
 oP E (xBuiltin .append #[39, 39] 39 [false, false] [h3Z, d3F]) J0 fun d3G I0 =>
 oP E (xNil x0) I0 fun a8Q G3 =>
 oP E (fA 80 a8Q 3) G3 fun b6J G6 =>
 oP E (sA 39 b6J d3G) G6 fun _z_43 G4 =>
 R a8O G4)
def e9j (x0 : Value) (w : World) (R : RT) (E : Pan) : Prop :=
 xcut (fun _ O4 => d6J x0 O4 R E) fun j1 =>
 oP E (xNil x0) w fun h8l N8 =>
 oP E (fA 80 h8l 2) N8 fun h8m M9 =>
 oP E (lA 37 h8m) M9 fun c8L K6 =>
 oP E (xBuiltin .len #[37] 3 [false] [c8L]) K6 fun c8M N7 =>
 oP E (xBin .eql 3 (.tmp 8) (.const (vI 0)) c8M (vI 0)) N7 fun h8n O3 =>
 xcond h8n
 (oP E (xCall (fC 136) [x0, (vI 2), (vI 0)]) O3 fun _t11_57 M8 =>
 j1 [] M8)
 (j1 [] O3)
noncomputable def h4a : Code := Tryz.f159.body.getD .skip
def h4b : Hint := (sQ (.cut [] (sQ (.cond .none .none)) (sQ (sQ (sQ (sQ (sQ .none)))))))
theorem f7g (x0 : Value) (w : World) (R : RT) (E : Pan) : e9j x0 w R E = callX Tryz.prog [.tmp 2] h4a h4b [x0] w R E := by kernel_rfl
theorem f7h {x0 : Value} (h : e9j x0 w R E) : Cv Tryz.prog 159 #[x0] w R E := by
 refine i6 (args := [x0]) (c := h4a) (h := h4b) (rs := [.tmp 2]) Tryz.func159 (by kernel_rfl) (by kernel_rfl) (nB (by kernel_rfl)) (by kernel_rfl) (by kernel_rfl) (by kernel_rfl) ?_
 rw [← f7g]
 exact h
def e9k (x0 x1 x2 : Value) (w : World) (R : RT) (E : Pan) : Prop :=
 oP E (xCall (fC 137) [x0, x2]) w fun _t9_1 w_2 =>
 R x1 w_2
noncomputable def h4c : Code := Tryz.f160.body.getD .skip
def h4d : Hint := (sQ (sQ (sQ .none)))
theorem f7i (x0 x1 x2 : Value) (w : World) (R : RT) (E : Pan) : e9k x0 x1 x2 w R E = callX Tryz.prog [.tmp 6] h4c h4d [x0, x1, x2] w R E := by kernel_rfl
theorem f7j {x0 x1 x2 : Value} (h : e9k x0 x1 x2 w R E) : Cv Tryz.prog 160 #[x0, x1, x2] w R E := by
 refine i6 (args := [x0, x1, x2]) (c := h4c) (h := h4d) (rs := [.tmp 6]) Tryz.func160 (by kernel_rfl) (by kernel_rfl) (nB (by kernel_rfl)) (by kernel_rfl) (by kernel_rfl) (by kernel_rfl) ?_
 rw [← f7i]
 exact h
end Go.Proofs.YtnhkdkcgdcgmdaaGreatDoor
