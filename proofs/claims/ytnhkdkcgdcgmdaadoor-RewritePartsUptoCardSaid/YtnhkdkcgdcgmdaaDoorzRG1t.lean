/- The second reading of some of the program's functions, printed by gen2.py off the code; each is held against the code by the kernel. -/
import Derived.Test.YtnhkdkcgdcgmdaaDoorProg
import Derived.Test.YtnhkdkcgdcgmdaaDoorzRK0
import Derived.KernelRfl
namespace Go.Proofs.YtnhkdkcgdcgmdaaDoor
open Go.RowKit
set_option maxRecDepth 100000
def F3 (x0 x1 : Value) (w : World) (R : Value → World → Prop) (E : Pan) : Prop :=
 opK Tryd.prog E (xV (Instr.box 24 x0)) w fun M4 w_2 =>
 opK Tryd.prog E (xV (Instr.box 27 x1)) w_2 fun Z0 w_4 =>
 opK Tryd.prog E (xCall (Value.func (.func 10) #[] #[]) []) w_4 fun a9g w_6 =>
 opK Tryd.prog E (xV (Op.unary .not a9g)) w_6 fun Y1 w_8 =>
 xcond Y1
 (R (Value.bool false) w_8)
 (opK Tryd.prog E (xV (Instr.loadAt 24 M4)) w_8 fun a1g l0 =>
 opK Tryd.prog E (xCall (Value.func (.func 11) #[] #[]) [a1g]) l0 fun b5J m6 =>
 opK Tryd.prog E (xV (Instr.extract b5J 0)) m6 fun a4U l8 =>
 opK Tryd.prog E (xV (Instr.extract b5J 1)) l8 fun a4d o5 =>
 opK Tryd.prog E (xV (Instr.alloc 24 true (.tuple #[]))) o5 fun c6T p5 =>
 opK Tryd.prog E (xU (Instr.storeAt 24 c6T a4U)) p5 fun _z_19 o7 =>
 opK Tryd.prog E (xV (Instr.loadAt 24 M4)) o7 fun c8m r9 =>
 opK Tryd.prog E (xCall (Value.func (.func 12) #[] #[]) [c8m]) r9 fun b5s q8 =>
 opK Tryd.prog E (xV (Instr.extract b5s 0)) q8 fun c8x t7 =>
 opK Tryd.prog E (xV (Instr.extract b5s 1)) t7 fun d1c w4 =>
 opK Tryd.prog E (xV (Instr.alloc 24 true (.tuple #[]))) w4 fun e6c A8 =>
 opK Tryd.prog E (xU (Instr.storeAt 24 e6c c8x)) A8 fun _z_31 w5 =>
 opK Tryd.prog E (xV (Instr.loadAt 27 Z0)) w5 fun g4k z2 =>
 opK Tryd.prog E (xCall (Value.func (.func 13) #[] #[]) [g4k]) z2 fun e0o F1 =>
 opK Tryd.prog E (xV (Instr.extract e0o 0)) F1 fun g4l D3 =>
 opK Tryd.prog E (xV (Instr.extract e0o 1)) D3 fun c8G F5 =>
 opK Tryd.prog E (xV (Instr.alloc 27 true (.tuple #[]))) F5 fun c3G D4 =>
 opK Tryd.prog E (xU (Instr.storeAt 27 c3G g4l)) D4 fun _z_43 D9 =>
 opK Tryd.prog E (xV (Instr.loadAt 27 Z0)) D9 fun g4m M5 =>
 opK Tryd.prog E (xCall (Value.func (.func 14) #[] #[]) [g4m]) M5 fun e0p K5 =>
 opK Tryd.prog E (xV (Instr.extract e0p 0)) K5 fun g4n J6 =>
 opK Tryd.prog E (xV (Instr.extract e0p 1)) J6 fun d1d L3 =>
 opK Tryd.prog E (xV (Instr.alloc 27 true (.tuple #[]))) L3 fun e0q I7 =>
 opK Tryd.prog E (xU (Instr.storeAt 27 e0q g4n)) I7 fun _z_55 M6 =>
 opK Tryd.prog E (xBin .neq 3 (.tmp 35) (.tmp 36) a4d d1c) M6 fun c3H J5 =>
 opK Tryd.prog E (gsem (asB c3H) false (xBin .neq 3 (.tmp 39) (.tmp 40) (gval (asB c3H) false c8G) (gval (asB c3H) false d1d))) J5 fun g4o M2 =>
 opK Tryd.prog E (xPick c3H (Value.bool true) g4o) M2 fun g4p L2 =>
 xcond g4p
 (R (Value.bool false) L2)
 (opK Tryd.prog E (xBin .eql 3 (.tmp 43) (.const (Value.int .i64 0)) d1c (Value.int .i64 0)) L2 fun b9k M3 =>
 opK Tryd.prog E (gsem (asB b9k) true (xV (Instr.loadAt 24 c6T))) M3 fun g4q U0 =>
 opK Tryd.prog E (gsem (asB b9k) true (xV (Instr.loadAt 24 e6c))) U0 fun g4r U7 =>
 opK Tryd.prog E (gsem (asB b9k) true (xCall (Value.func (.func 15) #[] #[]) [g4q, g4r])) U7 fun g4s U1 =>
 opK Tryd.prog E (gsem (asB b9k) true (xV (Op.unary .not g4s))) U1 fun g4t a0r =>
 opK Tryd.prog E (xPick b9k g4t (Value.bool false)) a0r fun a2D a0s =>
 opK Tryd.prog E (gsem (asB a2D) false (xBin .neq 3 (.tmp 52) (.const (Value.int .i64 0)) (gval (asB a2D) false d1c) (Value.int .i64 0))) a0s fun a7K Z3 =>
 opK Tryd.prog E (gsem (asB (gval (asB a2D) false a7K)) true (xV (Instr.fieldAt 24 c6T 0))) Z3 fun g4u W3 =>
 opK Tryd.prog E (gsem (asB (gval (asB a2D) false a7K)) true (xV (Instr.loadAt 3 g4u))) W3 fun g4v X3 =>
 opK Tryd.prog E (gsem (asB (gval (asB a2D) false a7K)) true (xBin .neq 3 (.tmp 56) (.const (Value.int .i64 0)) g4v (Value.int .i64 0))) X3 fun b9l Z1 =>
 opK Tryd.prog E (gsem (asB (gval (asB (gval (asB a2D) false a7K)) true b9l)) false (xV (Instr.fieldAt 24 c6T 3))) Z1 fun g4w a0q =>
 opK Tryd.prog E (gsem (asB (gval (asB (gval (asB a2D) false a7K)) true b9l)) false (xV (Instr.loadAt 22 g4w))) a0q fun g4x a0A =>
 opK Tryd.prog E (gsem (asB (gval (asB (gval (asB a2D) false a7K)) true b9l)) false (xBuiltin .len #[22] 3 [false] [g4x])) a0A fun g4y Z2 =>
 opK Tryd.prog E (gsem (asB (gval (asB (gval (asB a2D) false a7K)) true b9l)) false (xBin .gtr 3 (.tmp 61) (.const (Value.int .i64 0)) g4y (Value.int .i64 0))) Z2 fun g4z a2g =>
 opK Tryd.prog E (gsem (asB (gval (asB a2D) false a7K)) true (xPick (gval (asB (gval (asB a2D) false a7K)) true b9l) (Value.bool true) g4z)) a2g fun g4A a2H =>
 opK Tryd.prog E (gsem (asB a2D) false (xPick (gval (asB a2D) false a7K) g4A (Value.bool false))) a2H fun g4B a1B =>
 opK Tryd.prog E (xPick a2D (Value.bool true) g4B) a1B fun g4C a3l =>
 xcond g4C
 (R (Value.bool false) a3l)
 (opK Tryd.prog E (xBin .eql 3 (.tmp 66) (.const (Value.int .i64 0)) d1d (Value.int .i64 0)) a3l fun c3I a3m =>
 opK Tryd.prog E (gsem (asB c3I) true (xV (Instr.loadAt 27 c3G))) a3m fun g4D a1T =>
 opK Tryd.prog E (gsem (asB c3I) true (xV (Instr.loadAt 27 e0q))) a1T fun f1m a1U =>
 opK Tryd.prog E (gsem (asB c3I) true (xCall (Value.func (.func 16) #[] #[]) [g4D, f1m])) a1U fun f1n a4e =>
 opK Tryd.prog E (xPick c3I f1n (Value.bool false)) a4e fun S5 a5h =>
 opK Tryd.prog E (gsem (asB S5) false (xBin .neq 3 (.tmp 74) (.const (Value.int .i64 0)) (gval (asB S5) false d1d) (Value.int .i64 0))) a5h fun b9Y a6Y =>
 opK Tryd.prog E (gsem (asB (gval (asB S5) false b9Y)) true (xV (Instr.fieldAt 27 c3G 0))) a6Y fun f1o a5e =>
 opK Tryd.prog E (gsem (asB (gval (asB S5) false b9Y)) true (xV (Instr.loadAt 3 f1o))) a5e fun f1p a7Q =>
 opK Tryd.prog E (gsem (asB (gval (asB S5) false b9Y)) true (xBin .eql 3 (.tmp 78) (.const (Value.int .i64 0)) f1p (Value.int .i64 0))) a7Q fun f1q a7b =>
 opK Tryd.prog E (gsem (asB S5) false (xPick (gval (asB S5) false b9Y) f1q (Value.bool false))) a7b fun b5O a7c =>
 opK Tryd.prog E (gsem (asB (gval (asB S5) false b5O)) true (xV (Instr.fieldAt 27 c3G 3))) a7c fun f1r a7d =>
 opK Tryd.prog E (gsem (asB (gval (asB S5) false b5O)) true (xV (Instr.loadAt 25 f1r))) a7d fun f1s a5X =>
 opK Tryd.prog E (gsem (asB (gval (asB S5) false b5O)) true (xBuiltin .len #[25] 3 [false] [f1s])) a5X fun f1t a4f =>
 opK Tryd.prog E (gsem (asB (gval (asB S5) false b5O)) true (xBin .eql 3 (.tmp 84) (.const (Value.int .i64 0)) f1t (Value.int .i64 0))) a4f fun f1u a4F =>
 opK Tryd.prog E (gsem (asB S5) false (xPick (gval (asB S5) false b5O) f1u (Value.bool false))) a4F fun b5P a4G =>
 opK Tryd.prog E (gsem (asB (gval (asB S5) false b5P)) true (xV (Instr.fieldAt 27 c3G 2))) a4G fun f1v a5i =>
 opK Tryd.prog E (gsem (asB (gval (asB S5) false b5P)) true (xV (Instr.loadAt 22 f1v))) a5i fun f1w a3F =>
 opK Tryd.prog E (gsem (asB (gval (asB S5) false b5P)) true (xBuiltin .len #[22] 3 [false] [f1w])) a3F fun f1x a4g =>
 opK Tryd.prog E (gsem (asB (gval (asB S5) false b5P)) true (xBin .eql 3 (.tmp 90) (.const (Value.int .i64 0)) f1x (Value.int .i64 0))) a4g fun f1y a4h =>
 opK Tryd.prog E (gsem (asB S5) false (xPick (gval (asB S5) false b5P) f1y (Value.bool false))) a4h fun f1z a3D =>
 opK Tryd.prog E (xPick S5 (Value.bool true) f1z) a3D fun f1A a7e =>
 R f1A a7e)))
noncomputable def c3 : Code := Tryd.f3.body.getD .skip
def h3 : Hint := (.seq .none (.seq (.seq .none (.cond (.seq .none .none) .none)) (.seq .none (.seq .none (.seq .none (.seq .none (.seq (.seq .none (.cond (.seq .none .none) .none)) (.seq (.seq .none (.cond (.seq .none .none) .none)) (.seq .none .none)))))))))
theorem g9J (x0 x1 : Value) (w : World) (R : Value → World → Prop) (E : Pan) : F3 x0 x1 w R E = callX Tryd.prog [.tmp 4] c3 h3 [x0, x1] w R E := by kernel_rfl
theorem g9K {x0 x1 : Value} {w : World} {R : Value → World → Prop} {E : Pan} (h : F3 x0 x1 w R E) : Cv Tryd.prog 3 #[x0, x1] w R E := by
 refine g7 (args := [x0, x1]) (c := c3) (h := h3) (rs := [.tmp 4]) Tryd.func3 (by kernel_rfl) (by kernel_rfl) (Nat.le_of_ble_eq_true (by kernel_rfl)) (by kernel_rfl) (by kernel_rfl) (by kernel_rfl) ?_
 rw [← g9J]
 exact h
def F10 (w : World) (R : Value → World → Prop) (E : Pan) : Prop :=
 opK Tryd.prog E (xCall (Value.func (.func 36) #[] #[]) [(Value.int .i64 1)]) w fun a7s w_2 =>
 opK Tryd.prog E (xCall (Value.func (.func 36) #[] #[]) [(Value.int .i64 2)]) w_2 fun a9L w_4 =>
 opK Tryd.prog E (xV (Instr.buildSlice 22 2 #[(0, a7s), (1, a9L)])) w_4 fun c8y w_6 =>
 opK Tryd.prog E (xV (Instr.build 24 #[(0, (Value.int .i64 6)), (3, c8y)])) w_6 fun c1i w_8 =>
 opK Tryd.prog E (xV (Instr.build 24 #[(0, (Value.int .i64 2)), (2, (Value.string ⟨#[120]⟩))])) w_8 fun d6d l0 =>
 opK Tryd.prog E (xV (Instr.buildSlice 22 2 #[(0, c1i), (1, d6d)])) l0 fun b2e m6 =>
 opK Tryd.prog E (xV (Instr.build 24 #[(0, (Value.int .i64 8)), (3, b2e)])) m6 fun b8j l8 =>
 opK Tryd.prog E (xCall (Value.func (.func 11) #[] #[]) [b8j]) l8 fun a6q o5 =>
 opK Tryd.prog E (xV (Instr.extract a6q 0)) o5 fun a8E p5 =>
 opK Tryd.prog E (xV (Instr.extract a6q 1)) p5 fun a6r o7 =>
 opK Tryd.prog E (xV (Instr.alloc 24 true (.tuple #[]))) o7 fun c3J r9 =>
 opK Tryd.prog E (xU (Instr.storeAt 24 c3J a8E)) r9 fun _z_23 q8 =>
 opK Tryd.prog E (xCall (Value.func (.func 36) #[] #[]) [(Value.int .i64 1)]) q8 fun a7G t7 =>
 opK Tryd.prog E (xCall (Value.func (.func 36) #[] #[]) [(Value.int .i64 2)]) t7 fun c8Q w4 =>
 opK Tryd.prog E (xV (Instr.buildSlice 22 2 #[(0, a7G), (1, c8Q)])) w4 fun c8R A8 =>
 opK Tryd.prog E (xV (Instr.build 27 #[(0, (Value.int .i64 3)), (1, (Value.int .i64 1)), (2, c8R)])) A8 fun c8S w5 =>
 opK Tryd.prog E (xCall (Value.func (.func 13) #[] #[]) [c8S]) w5 fun b5w z2 =>
 opK Tryd.prog E (xV (Instr.extract b5w 0)) z2 fun b8x F1 =>
 opK Tryd.prog E (xV (Instr.extract b5w 1)) F1 fun b8y D3 =>
 opK Tryd.prog E (xV (Instr.alloc 27 true (.tuple #[]))) D3 fun e6d F5 =>
 opK Tryd.prog E (xU (Instr.storeAt 27 e6d b8x)) F5 fun _z_41 D4 =>
 opK Tryd.prog E (xBin .eql 29 (.tmp 24) (.const (Value.int .i64 0)) a6r (Value.int .i64 0)) D4 fun b2a D9 =>
 opK Tryd.prog E (gsem (asB b2a) true (xBin .eql 29 (.tmp 27) (.const (Value.int .i64 0)) (gval (asB b2a) true b8y) (Value.int .i64 0))) D9 fun g4E M5 =>
 opK Tryd.prog E (xPick b2a g4E (Value.bool false)) M5 fun b5Q K5 =>
 opK Tryd.prog E (gsem (asB b5Q) true (xV (Instr.fieldAt 24 c3J 0))) K5 fun c7Q J6 =>
 opK Tryd.prog E (gsem (asB b5Q) true (xV (Instr.loadAt 3 c7Q))) J6 fun c7R L3 =>
 opK Tryd.prog E (gsem (asB b5Q) true (xBin .eql 3 (.tmp 32) (.const (Value.int .i64 8)) c7R (Value.int .i64 8))) L3 fun c7S I7 =>
 opK Tryd.prog E (xPick b5Q c7S (Value.bool false)) I7 fun b9m M6 =>
 opK Tryd.prog E (gsem (asB b9m) true (xV (Instr.fieldAt 24 c3J 3))) M6 fun c8d J5 =>
 opK Tryd.prog E (gsem (asB b9m) true (xV (Instr.loadAt 22 c8d))) J5 fun g4F M2 =>
 opK Tryd.prog E (gsem (asB b9m) true (xBuiltin .len #[22] 3 [false] [g4F])) M2 fun g4G L2 =>
 opK Tryd.prog E (gsem (asB b9m) true (xBin .eql 3 (.tmp 38) (.const (Value.int .i64 2)) g4G (Value.int .i64 2))) L2 fun g4H M3 =>
 opK Tryd.prog E (xPick b9m g4H (Value.bool false)) M3 fun b3q U0 =>
 opK Tryd.prog E (gsem (asB b3q) true (xV (Instr.fieldAt 24 c3J 3))) U0 fun g4I U7 =>
 opK Tryd.prog E (gsem (asB b3q) true (xV (Instr.loadAt 22 g4I))) U7 fun g4J U1 =>
 opK Tryd.prog E (gsem (asB b3q) true (xV (Instr.indexAt 22 g4J (Value.int .i64 0)))) U1 fun g4K a0r =>
 opK Tryd.prog E (gsem (asB b3q) true (xV (Instr.fieldAt 24 g4K 0))) a0r fun g4L a0s =>
 opK Tryd.prog E (gsem (asB b3q) true (xV (Instr.loadAt 3 g4L))) a0s fun c8U Z3 =>
 opK Tryd.prog E (gsem (asB b3q) true (xBin .eql 3 (.tmp 46) (.const (Value.int .i64 1)) c8U (Value.int .i64 1))) Z3 fun g4M W3 =>
 opK Tryd.prog E (xPick b3q g4M (Value.bool false)) W3 fun b3r X3 =>
 opK Tryd.prog E (gsem (asB b3r) true (xV (Instr.fieldAt 24 c3J 3))) X3 fun d1e Z1 =>
 opK Tryd.prog E (gsem (asB b3r) true (xV (Instr.loadAt 22 d1e))) Z1 fun g4N a0q =>
 opK Tryd.prog E (gsem (asB b3r) true (xV (Instr.indexAt 22 g4N (Value.int .i64 0)))) a0q fun g4O a0A =>
 opK Tryd.prog E (gsem (asB b3r) true (xV (Instr.fieldAt 24 g4O 1))) a0A fun c8J Z2 =>
 opK Tryd.prog E (gsem (asB b3r) true (xV (Instr.loadAt 2 c8J))) Z2 fun c8K a2g =>
 opK Tryd.prog E (gsem (asB b3r) true (xBin .eql 2 (.tmp 54) (.const (Value.int .i64 3)) c8K (Value.int .i64 3))) a2g fun c8L a2H =>
 opK Tryd.prog E (xPick b3r c8L (Value.bool false)) a2H fun c3K a1B =>
 opK Tryd.prog E (gsem (asB c3K) true (xV (Instr.fieldAt 27 e6d 0))) a1B fun g4P a3l =>
 opK Tryd.prog E (gsem (asB c3K) true (xV (Instr.loadAt 3 g4P))) a3l fun g4Q a3m =>
 opK Tryd.prog E (gsem (asB c3K) true (xBin .eql 3 (.tmp 59) (.const (Value.int .i64 1)) g4Q (Value.int .i64 1))) a3m fun g4R a1T =>
 opK Tryd.prog E (xPick c3K g4R (Value.bool false)) a1T fun f1B a1U =>
 R f1B a1U
noncomputable def c10 : Code := Tryd.f10.body.getD .skip
def h10 : Hint := (.seq .none (.seq .none (.seq .none (.seq .none .none))))
theorem g4S (w : World) (R : Value → World → Prop) (E : Pan) : F10  w R E = callX Tryd.prog [.tmp 0] c10 h10 [] w R E := by kernel_rfl
theorem g4T {w : World} {R : Value → World → Prop} {E : Pan} (h : F10  w R E) : Cv Tryd.prog 10 #[] w R E := by
 refine g7 (args := []) (c := c10) (h := h10) (rs := [.tmp 0]) Tryd.func10 (by kernel_rfl) (by kernel_rfl) (Nat.zero_le _) (by kernel_rfl) (by kernel_rfl) (by kernel_rfl) ?_
 rw [← g4S]
 exact h
def F11 (x0 : Value) (w : World) (R : Value → World → Prop) (E : Pan) : Prop :=
 opK Tryd.prog E (xV (Instr.box 24 x0)) w fun o0 w_2 =>
 opK Tryd.prog E (xV (Instr.alloc 24 true (.tuple #[]))) w_2 fun I8 w_4 =>
 opK Tryd.prog E (xV (Instr.loadAt 24 o0)) w_4 fun a9N w_6 =>
 opK Tryd.prog E (xCall (Value.func (.func 37) #[] #[]) [a9N]) w_6 fun a6x w_8 =>
 opK Tryd.prog E (xBin .neq 29 (.tmp 7) (.const (Value.int .i64 0)) a6x (Value.int .i64 0)) w_8 fun a4y l0 =>
 xcond a4y
 (opK Tryd.prog E (xV (Instr.build 24 #[])) l0 fun a2G m6 =>
 opK Tryd.prog E (xU (Instr.storeAt 24 I8 a2G)) m6 fun _z_13 l8 =>
 xcell Tryd.prog 24 I8 l8 fun b3s =>
 R (Value.tuple #[b3s, a6x]) l8)
 (opK Tryd.prog E (xV (Instr.loadAt 24 o0)) l0 fun a6N a1C =>
 opK Tryd.prog E (xCall (Value.func (.func 38) #[] #[]) [a6N]) a1C fun b3t Z4 =>
 opK Tryd.prog E (xU (Instr.storeAt 24 I8 b3t)) Z4 fun _z_20 a2J =>
 xcell Tryd.prog 24 I8 a2J fun c2v =>
 R (Value.tuple #[c2v, (Value.int .i64 0)]) a2J)
noncomputable def c11 : Code := Tryd.f11.body.getD .skip
def h11 : Hint := (.seq .none (.seq (.seq .none (.seq .none (.cond (.seq .none .none) .none))) (.seq .none .none)))
theorem g4U (x0 : Value) (w : World) (R : Value → World → Prop) (E : Pan) : F11 x0 w R E = callX Tryd.prog [.cell 2 24, .tmp 3] c11 h11 [x0] w R E := by kernel_rfl
theorem g4V {x0 : Value} {w : World} {R : Value → World → Prop} {E : Pan} (h : F11 x0 w R E) : Cv Tryd.prog 11 #[x0] w R E := by
 refine g7 (args := [x0]) (c := c11) (h := h11) (rs := [.cell 2 24, .tmp 3]) Tryd.func11 (by kernel_rfl) (by kernel_rfl) (Nat.le_of_ble_eq_true (by kernel_rfl)) (by kernel_rfl) (by kernel_rfl) (by kernel_rfl) ?_
 rw [← g4U]
 exact h
def F12 (x0 : Value) (w : World) (R : Value → World → Prop) (E : Pan) : Prop :=
 opK Tryd.prog E (xV (Instr.box 24 x0)) w fun o0 w_2 =>
 opK Tryd.prog E (xV (Instr.alloc 24 true (.tuple #[]))) w_2 fun I8 w_4 =>
 opK Tryd.prog E (xV (Instr.loadAt 24 o0)) w_4 fun a9N w_6 =>
 opK Tryd.prog E (xCall (Value.func (.func 39) #[] #[]) [a9N]) w_6 fun a6x w_8 =>
 opK Tryd.prog E (xBin .neq 3 (.tmp 7) (.const (Value.int .i64 0)) a6x (Value.int .i64 0)) w_8 fun a4y l0 =>
 xcond a4y
 (opK Tryd.prog E (xV (Instr.build 24 #[])) l0 fun a2G m6 =>
 opK Tryd.prog E (xU (Instr.storeAt 24 I8 a2G)) m6 fun _z_13 l8 =>
 xcell Tryd.prog 24 I8 l8 fun b3s =>
 R (Value.tuple #[b3s, a6x]) l8)
 (opK Tryd.prog E (xV (Instr.loadAt 24 o0)) l0 fun a6N a1C =>
 opK Tryd.prog E (xCall (Value.func (.func 40) #[] #[]) [a6N]) a1C fun b3t Z4 =>
 opK Tryd.prog E (xU (Instr.storeAt 24 I8 b3t)) Z4 fun _z_20 a2J =>
 xcell Tryd.prog 24 I8 a2J fun c2v =>
 R (Value.tuple #[c2v, (Value.int .i64 0)]) a2J)
noncomputable def c12 : Code := Tryd.f12.body.getD .skip
def h12 : Hint := (.seq .none (.seq .none (.seq (.seq .none (.cond (.seq .none .none) .none)) (.seq .none .none))))
theorem g4W (x0 : Value) (w : World) (R : Value → World → Prop) (E : Pan) : F12 x0 w R E = callX Tryd.prog [.cell 2 24, .tmp 3] c12 h12 [x0] w R E := by kernel_rfl
theorem g4X {x0 : Value} {w : World} {R : Value → World → Prop} {E : Pan} (h : F12 x0 w R E) : Cv Tryd.prog 12 #[x0] w R E := by
 refine g7 (args := [x0]) (c := c12) (h := h12) (rs := [.cell 2 24, .tmp 3]) Tryd.func12 (by kernel_rfl) (by kernel_rfl) (Nat.le_of_ble_eq_true (by kernel_rfl)) (by kernel_rfl) (by kernel_rfl) (by kernel_rfl) ?_
 rw [← g4W]
 exact h
def F13 (x0 : Value) (w : World) (R : Value → World → Prop) (E : Pan) : Prop :=
 opK Tryd.prog E (xV (Instr.box 27 x0)) w fun o0 w_2 =>
 opK Tryd.prog E (xV (Instr.alloc 27 true (.tuple #[]))) w_2 fun I8 w_4 =>
 opK Tryd.prog E (xV (Instr.loadAt 27 o0)) w_4 fun a9N w_6 =>
 opK Tryd.prog E (xCall (Value.func (.func 41) #[] #[]) [a9N]) w_6 fun a6x w_8 =>
 opK Tryd.prog E (xBin .neq 29 (.tmp 7) (.const (Value.int .i64 0)) a6x (Value.int .i64 0)) w_8 fun a4y l0 =>
 xcond a4y
 (opK Tryd.prog E (xV (Instr.build 27 #[])) l0 fun a2G m6 =>
 opK Tryd.prog E (xU (Instr.storeAt 27 I8 a2G)) m6 fun _z_13 l8 =>
 xcell Tryd.prog 27 I8 l8 fun b3s =>
 R (Value.tuple #[b3s, a6x]) l8)
 (opK Tryd.prog E (xV (Instr.loadAt 27 o0)) l0 fun a6N a1C =>
 opK Tryd.prog E (xCall (Value.func (.func 42) #[] #[]) [a6N]) a1C fun b3t Z4 =>
 opK Tryd.prog E (xU (Instr.storeAt 27 I8 b3t)) Z4 fun _z_20 a2J =>
 xcell Tryd.prog 27 I8 a2J fun c2v =>
 R (Value.tuple #[c2v, (Value.int .i64 0)]) a2J)
noncomputable def c13 : Code := Tryd.f13.body.getD .skip
def h13 : Hint := (.seq .none (.seq (.seq .none (.seq .none (.cond (.seq .none .none) .none))) (.seq .none .none)))
theorem g4Y (x0 : Value) (w : World) (R : Value → World → Prop) (E : Pan) : F13 x0 w R E = callX Tryd.prog [.cell 2 27, .tmp 3] c13 h13 [x0] w R E := by kernel_rfl
theorem g4Z {x0 : Value} {w : World} {R : Value → World → Prop} {E : Pan} (h : F13 x0 w R E) : Cv Tryd.prog 13 #[x0] w R E := by
 refine g7 (args := [x0]) (c := c13) (h := h13) (rs := [.cell 2 27, .tmp 3]) Tryd.func13 (by kernel_rfl) (by kernel_rfl) (Nat.le_of_ble_eq_true (by kernel_rfl)) (by kernel_rfl) (by kernel_rfl) (by kernel_rfl) ?_
 rw [← g4Y]
 exact h
def F14 (x0 : Value) (w : World) (R : Value → World → Prop) (E : Pan) : Prop :=
 opK Tryd.prog E (xV (Instr.box 27 x0)) w fun o0 w_2 =>
 opK Tryd.prog E (xV (Instr.alloc 27 true (.tuple #[]))) w_2 fun I8 w_4 =>
 opK Tryd.prog E (xV (Instr.loadAt 27 o0)) w_4 fun a9N w_6 =>
 opK Tryd.prog E (xCall (Value.func (.func 43) #[] #[]) [a9N]) w_6 fun a6x w_8 =>
 opK Tryd.prog E (xBin .neq 3 (.tmp 7) (.const (Value.int .i64 0)) a6x (Value.int .i64 0)) w_8 fun a4y l0 =>
 xcond a4y
 (opK Tryd.prog E (xV (Instr.build 27 #[])) l0 fun a2G m6 =>
 opK Tryd.prog E (xU (Instr.storeAt 27 I8 a2G)) m6 fun _z_13 l8 =>
 xcell Tryd.prog 27 I8 l8 fun b3s =>
 R (Value.tuple #[b3s, a6x]) l8)
 (opK Tryd.prog E (xV (Instr.loadAt 27 o0)) l0 fun a6N a1C =>
 opK Tryd.prog E (xCall (Value.func (.func 44) #[] #[]) [a6N]) a1C fun b3t Z4 =>
 opK Tryd.prog E (xU (Instr.storeAt 27 I8 b3t)) Z4 fun _z_20 a2J =>
 xcell Tryd.prog 27 I8 a2J fun c2v =>
 R (Value.tuple #[c2v, (Value.int .i64 0)]) a2J)
noncomputable def c14 : Code := Tryd.f14.body.getD .skip
def h14 : Hint := (.seq .none (.seq .none (.seq (.seq .none (.cond (.seq .none .none) .none)) (.seq .none .none))))
theorem g5a (x0 : Value) (w : World) (R : Value → World → Prop) (E : Pan) : F14 x0 w R E = callX Tryd.prog [.cell 2 27, .tmp 3] c14 h14 [x0] w R E := by kernel_rfl
theorem g5b {x0 : Value} {w : World} {R : Value → World → Prop} {E : Pan} (h : F14 x0 w R E) : Cv Tryd.prog 14 #[x0] w R E := by
 refine g7 (args := [x0]) (c := c14) (h := h14) (rs := [.cell 2 27, .tmp 3]) Tryd.func14 (by kernel_rfl) (by kernel_rfl) (Nat.le_of_ble_eq_true (by kernel_rfl)) (by kernel_rfl) (by kernel_rfl) (by kernel_rfl) ?_
 rw [← g5a]
 exact h
def F36 (x0 : Value) (w : World) (R : Value → World → Prop) (E : Pan) : Prop :=
 opK Tryd.prog E (xV (Instr.alloc 24 true (.tuple #[]))) w fun M4 w_2 =>
 opK Tryd.prog E (xV (Instr.build 24 #[(0, (Value.int .i64 1)), (1, x0)])) w_2 fun a3o w_4 =>
 opK Tryd.prog E (xU (Instr.storeAt 24 M4 a3o)) w_4 fun _z_5 w_6 =>
 xcell Tryd.prog 24 M4 w_6 fun r_7 =>
 R r_7 w_6
noncomputable def c36 : Code := Tryd.f36.body.getD .skip
def h36 : Hint := (.seq .none (.seq .none .none))
theorem g5c (x0 : Value) (w : World) (R : Value → World → Prop) (E : Pan) : F36 x0 w R E = callX Tryd.prog [.cell 2 24] c36 h36 [x0] w R E := by kernel_rfl
theorem g5d {x0 : Value} {w : World} {R : Value → World → Prop} {E : Pan} (h : F36 x0 w R E) : Cv Tryd.prog 36 #[x0] w R E := by
 refine g7 (args := [x0]) (c := c36) (h := h36) (rs := [.cell 2 24]) Tryd.func36 (by kernel_rfl) (by kernel_rfl) (Nat.le_of_ble_eq_true (by kernel_rfl)) (by kernel_rfl) (by kernel_rfl) (by kernel_rfl) ?_
 rw [← g5c]
 exact h
def d1f (x1 x2 : Value) (w : World) (R : Value → World → Prop) (E : Pan) : Prop :=
 ∀ _τ : Fr, (opK Tryd.prog E (xV (Instr.loadAt 24 x1)) w fun g5e D4 =>
 opK Tryd.prog E (xU (Instr.storeAt 24 x2 g5e)) D4 fun _z_43 D9 =>
 xcell Tryd.prog 24 x2 D9 fun h5r =>
 R h5r D9)
def d1g (x1 x2 : Value) (w : World) (j1 : List Value → World → Prop) (R : Value → World → Prop) (E : Pan) : Prop :=
 ∀ _τ : Fr, (opK Tryd.prog E (xV (Instr.fieldAt 24 x1 3)) w fun g5f d4L =>
 opK Tryd.prog E (xV (Instr.loadAt 22 g5f)) d4L fun g5g c5l =>
 opK Tryd.prog E (xV (Instr.indexAt 22 g5g (Value.int .i64 1))) c5l fun g5h c1X =>
 opK Tryd.prog E (xV (Instr.loadAt 24 g5h)) c1X fun g5i e3C =>
 opK Tryd.prog E (xCall (Value.func (.func 65) #[] #[]) [g5i, (Value.int .i64 1)]) e3C fun g5j b8N =>
 xcond g5j
 (opK Tryd.prog E (xV (Instr.fieldAt 24 x1 3)) b8N fun g5k e3D =>
 opK Tryd.prog E (xV (Instr.loadAt 22 g5k)) e3D fun g5l a9I =>
 opK Tryd.prog E (xV (Instr.indexAt 22 g5l (Value.int .i64 0))) a9I fun g5m b4S =>
 opK Tryd.prog E (xV (Instr.loadAt 24 g5m)) b4S fun g5n b1X =>
 opK Tryd.prog E (xU (Instr.storeAt 24 x2 g5n)) b1X fun _z_70 d1h =>
 xcell Tryd.prog 24 x2 d1h fun e3E =>
 R e3E d1h)
 (j1 [] b8N))
def d1i (x1 x2 x7 : Value) (w : World) (j1 : List Value → World → Prop) (R : Value → World → Prop) (E : Pan) : Prop :=
 ∀ _τ : Fr, (opK Tryd.prog E (xV (Instr.fieldAt 24 x1 3)) w fun g5o Z3 =>
 opK Tryd.prog E (xV (Instr.loadAt 22 g5o)) Z3 fun b5x W3 =>
 opK Tryd.prog E (xV (Instr.indexAt 22 b5x (Value.int .i64 1))) W3 fun g5p X3 =>
 opK Tryd.prog E (xV (Instr.loadAt 24 g5p)) X3 fun d1e Z1 =>
 opK Tryd.prog E (xCall (Value.func (.func 65) #[] #[]) [d1e, x7]) Z1 fun c8V a0q =>
 xcond c8V
 (opK Tryd.prog E (xV (Instr.fieldAt 24 x1 3)) a0q fun c8W a0A =>
 opK Tryd.prog E (xV (Instr.loadAt 22 c8W)) a0A fun g5q Z2 =>
 opK Tryd.prog E (xV (Instr.indexAt 22 g5q (Value.int .i64 0))) Z2 fun g5r a2g =>
 opK Tryd.prog E (xV (Instr.loadAt 24 g5r)) a2g fun g5s a2H =>
 opK Tryd.prog E (xU (Instr.storeAt 24 x2 g5s)) a2H fun _z_93 a1B =>
 xcell Tryd.prog 24 x2 a1B fun h5s =>
 R h5s a1B)
 (j1 [] a0q))
def F38 (x0 : Value) (w : World) (R : Value → World → Prop) (E : Pan) : Prop :=
 opK Tryd.prog E (xV (Instr.box 24 x0)) w fun o0 w_2 =>
 opK Tryd.prog E (xV (Instr.alloc 24 true (.tuple #[]))) w_2 fun I8 w_4 =>
 opK Tryd.prog E (xV (Instr.fieldAt 24 o0 3)) w_4 fun c8y w_6 =>
 opK Tryd.prog E (xV (Instr.loadAt 22 c8y)) w_6 fun c1i w_8 =>
 opK Tryd.prog E (xCall (Value.func (.func 61) #[] #[]) [c1i, (Value.func (.func 38) #[] #[])]) w_8 fun d6d l0 =>
 opK Tryd.prog E (xV (Instr.fieldAt 24 o0 3)) l0 fun b2e m6 =>
 opK Tryd.prog E (xU (Instr.storeAt 22 b2e d6d)) m6 fun _z_13 l8 =>
 opK Tryd.prog E (xV (Instr.loadAt 24 o0)) l8 fun a6q o5 =>
 opK Tryd.prog E (xCall (Value.func (.func 62) #[] #[]) [a6q]) o5 fun a8E p5 =>
 opK Tryd.prog E (xV (Instr.extract a8E 0)) p5 fun a6r o7 =>
 opK Tryd.prog E (xV (Instr.extract a8E 1)) o7 fun a8F r9 =>
 xcond a8F
 (opK Tryd.prog E (xCall (Value.func (.func 63) #[] #[]) [a6r]) r9 fun c8A q8 =>
 opK Tryd.prog E (xU (Instr.storeAt 24 I8 c8A)) q8 fun _z_25 t7 =>
 xcell Tryd.prog 24 I8 t7 fun h5t =>
 R h5t t7)
 (opK Tryd.prog E (xV (Instr.loadAt 24 o0)) r9 fun g5t a8b =>
 opK Tryd.prog E (xCall (Value.func (.func 64) #[] #[]) [g5t]) a8b fun e0r b9n =>
 opK Tryd.prog E (xV (Instr.extract e0r 0)) b9n fun g5u c2w =>
 opK Tryd.prog E (xV (Instr.extract e0r 1)) c2w fun g5v c1M =>
 xcond g5v
 (opK Tryd.prog E (xCall (Value.func (.func 63) #[] #[]) [g5u]) c1M fun g5w b4O =>
 opK Tryd.prog E (xU (Instr.storeAt 24 I8 g5w)) b4O fun _z_38 b6I =>
 xcell Tryd.prog 24 I8 b6I fun h5u =>
 R h5u b6I)
 (xcut (fun _ b0L => d1f o0 I8 b0L R E) fun j1 =>
 opK Tryd.prog E (xV (Instr.fieldAt 24 o0 0)) c1M fun g5x c4D =>
 opK Tryd.prog E (xV (Instr.loadAt 3 g5x)) c4D fun c3L d0P =>
 xcut (fun _ a0s => d1g o0 I8 a0s j1 R E) fun j2 =>
 xcut (fun _ c2x => d1i o0 I8 (Value.int .i64 0) c2x j1 R E) fun j3 =>
 opK Tryd.prog E (xBin .eql 3 (.tmp 29) (.const (Value.int .i64 6)) c3L (Value.int .i64 6)) d0P fun g5y c2y =>
 xcond g5y
 (opK Tryd.prog E (xV (Instr.fieldAt 24 o0 3)) c2y fun f1C b9Z =>
 opK Tryd.prog E (xV (Instr.loadAt 22 f1C)) b9Z fun f1D c3M =>
 opK Tryd.prog E (xV (Instr.indexAt 22 f1D (Value.int .i64 0))) c3M fun f1E b1f =>
 opK Tryd.prog E (xV (Instr.loadAt 24 f1E)) b1f fun f1F b7r =>
 opK Tryd.prog E (xCall (Value.func (.func 65) #[] #[]) [f1F, (Value.int .i64 0)]) b7r fun f1G a9j =>
 xcond f1G
 (opK Tryd.prog E (xV (Instr.fieldAt 24 o0 3)) a9j fun f1H b7s =>
 opK Tryd.prog E (xV (Instr.loadAt 22 f1H)) b7s fun f1I b4k =>
 opK Tryd.prog E (xV (Instr.indexAt 22 f1I (Value.int .i64 1))) b4k fun f1J b1y =>
 opK Tryd.prog E (xV (Instr.loadAt 24 f1J)) b1y fun f1K b7t =>
 opK Tryd.prog E (xU (Instr.storeAt 24 I8 f1K)) b7t fun _z_118 c3N =>
 xcell Tryd.prog 24 I8 c3N fun d6e =>
 R d6e c3N)
 (j3 [] a9j))
 (opK Tryd.prog E (xBin .eql 3 (.tmp 29) (.const (Value.int .i64 7)) c3L (Value.int .i64 7)) c2y fun f1L a4f =>
 xcond f1L
 (j3 [] a4f)
 (opK Tryd.prog E (xBin .eql 3 (.tmp 29) (.const (Value.int .i64 8)) c3L (Value.int .i64 8)) a4f fun f1M a4F =>
 xcond f1M
 (opK Tryd.prog E (xV (Instr.fieldAt 24 o0 3)) a4F fun f1N a4G =>
 opK Tryd.prog E (xV (Instr.loadAt 22 f1N)) a4G fun f1O a5i =>
 opK Tryd.prog E (xV (Instr.indexAt 22 f1O (Value.int .i64 0))) a5i fun f1P a3F =>
 opK Tryd.prog E (xV (Instr.loadAt 24 f1P)) a3F fun f1Q a4g =>
 opK Tryd.prog E (xCall (Value.func (.func 65) #[] #[]) [f1Q, (Value.int .i64 1)]) a4g fun b0l a4h =>
 opK Tryd.prog E (gsem (asB b0l) true (xV (Instr.fieldAt 24 o0 3))) a4h fun f1R a3D =>
 opK Tryd.prog E (gsem (asB b0l) true (xV (Instr.loadAt 22 f1R))) a3D fun f1S a7e =>
 opK Tryd.prog E (gsem (asB b0l) true (xV (Instr.indexAt 22 f1S (Value.int .i64 1)))) a7e fun f1T a8O =>
 opK Tryd.prog E (gsem (asB b0l) true (xV (Instr.loadAt 24 f1T))) a8O fun f1U a7f =>
 opK Tryd.prog E (gsem (asB b0l) true (xCall (Value.func (.func 65) #[] #[]) [f1U, (Value.int .i64 1)])) a7f fun f1V a3E =>
 opK Tryd.prog E (gsem (asB b0l) true (xV (Op.unary .not f1V))) a3E fun f1W a5Y =>
 opK Tryd.prog E (xPick b0l f1W (Value.bool false)) a5Y fun f1X b6r =>
 xcond f1X
 (opK Tryd.prog E (xV (Instr.fieldAt 24 o0 3)) b6r fun f1Y c3e =>
 opK Tryd.prog E (xV (Instr.loadAt 22 f1Y)) c3e fun f1Z b9y =>
 opK Tryd.prog E (xV (Instr.indexAt 22 f1Z (Value.int .i64 1))) b9y fun f2a c3h =>
 opK Tryd.prog E (xV (Instr.loadAt 24 f2a)) c3h fun f2b c6L =>
 opK Tryd.prog E (xU (Instr.storeAt 24 I8 f2b)) c6L fun _z_157 c3i =>
 xcell Tryd.prog 24 I8 c3i fun g9L =>
 R g9L c3i)
 (j2 [] b6r))
 (opK Tryd.prog E (xBin .eql 3 (.tmp 29) (.const (Value.int .i64 9)) c3L (Value.int .i64 9)) a4F fun f2c b7u =>
 xcond f2c
 (j2 [] b7u)
 (j1 [] b7u))))))
noncomputable def c38 : Code := Tryd.f38.body.getD .skip
def h38 : Hint := (.seq .none (.seq .none (.seq (.seq .none (.seq .none (.cond (.seq .none .none) .none))) (.seq (.seq .none (.seq .none (.cond (.seq .none .none) .none))) (.seq .none (.cut [] (.seq .none (.block (.cut [] (.block (.seq (.block (.cut [] (.block (.seq (.block (.seq (.seq (.seq .none (.cond .none .none)) (.seq (.seq .none (.cond .none .none)) (.seq (.seq .none (.cond .none .none)) (.seq .none (.cond .none .none))))) .none)) (.seq .none (.cond (.seq .none .none) .none)))) (.seq (.seq .none (.cond (.seq .none .none) .none)) .none))) (.seq .none (.cond (.seq .none .none) .none)))) (.seq (.seq .none (.cond (.seq .none .none) .none)) .none)))) (.seq .none .none)))))))
theorem g5z (x0 : Value) (w : World) (R : Value → World → Prop) (E : Pan) : F38 x0 w R E = callX Tryd.prog [.cell 2 24] c38 h38 [x0] w R E := by kernel_rfl
theorem g5A {x0 : Value} {w : World} {R : Value → World → Prop} {E : Pan} (h : F38 x0 w R E) : Cv Tryd.prog 38 #[x0] w R E := by
 refine g7 (args := [x0]) (c := c38) (h := h38) (rs := [.cell 2 24]) Tryd.func38 (by kernel_rfl) (by kernel_rfl) (Nat.le_of_ble_eq_true (by kernel_rfl)) (by kernel_rfl) (by kernel_rfl) (by kernel_rfl) ?_
 rw [← g5z]
 exact h
def d1j (x2 x3 : Value) (w : World) (R : Value → World → Prop) (E : Pan) : Prop :=
 ∀ _τ : Fr, (opK Tryd.prog E (xV (Instr.fieldAt 24 x3 0)) w fun g5B L2 =>
 opK Tryd.prog E (xV (Instr.loadAt 3 g5B)) L2 fun g5C M3 =>
 opK Tryd.prog E (xBin .eql 3 (.tmp 95) (.const (Value.int .i64 6)) g5C (Value.int .i64 6)) M3 fun b5R U0 =>
 opK Tryd.prog E (gsem (asB b5R) true (xV (Instr.fieldAt 24 x3 3))) U0 fun g5D U7 =>
 opK Tryd.prog E (gsem (asB b5R) true (xV (Instr.loadAt 22 g5D))) U7 fun g5E U1 =>
 opK Tryd.prog E (gsem (asB b5R) true (xV (Instr.indexAt 22 g5E (Value.int .i64 1)))) U1 fun f2d a0r =>
 opK Tryd.prog E (gsem (asB b5R) true (xV (Instr.loadAt 24 f2d))) a0r fun f2e a0s =>
 opK Tryd.prog E (gsem (asB b5R) true (xCall (Value.func (.func 72) #[] #[]) [f2e, (Value.int .i64 0)])) a0s fun f2f Z3 =>
 opK Tryd.prog E (xPick b5R f2f (Value.bool false)) Z3 fun f2g W3 =>
 xcond f2g
 (opK Tryd.prog E (xV (Instr.fieldAt 24 x3 3)) W3 fun f2h X3 =>
 opK Tryd.prog E (xV (Instr.loadAt 22 f2h)) X3 fun f2i Z1 =>
 opK Tryd.prog E (xV (Instr.indexAt 22 f2i (Value.int .i64 0))) Z1 fun f2j a0q =>
 opK Tryd.prog E (xV (Instr.loadAt 24 f2j)) a0q fun f2k a0A =>
 opK Tryd.prog E (xU (Instr.storeAt 24 x2 f2k)) a0A fun _z_87 Z2 =>
 xcell Tryd.prog 24 x2 Z2 fun h5v =>
 R h5v Z2)
 (opK Tryd.prog E (xV (Instr.fieldAt 24 x3 0)) W3 fun f2l c5O =>
 opK Tryd.prog E (xV (Instr.loadAt 3 f2l)) c5O fun f2m e3F =>
 opK Tryd.prog E (xBin .eql 3 (.tmp 110) (.const (Value.int .i64 6)) f2m (Value.int .i64 6)) e3F fun b1Q b4F =>
 opK Tryd.prog E (gsem (asB b1Q) true (xV (Instr.fieldAt 24 x3 3))) b4F fun f2n c2x =>
 opK Tryd.prog E (gsem (asB b1Q) true (xV (Instr.loadAt 22 f2n))) c2x fun f2o c2y =>
 opK Tryd.prog E (gsem (asB b1Q) true (xV (Instr.indexAt 22 f2o (Value.int .i64 0)))) c2y fun e3G b9Z =>
 opK Tryd.prog E (gsem (asB b1Q) true (xV (Instr.loadAt 24 e3G))) b9Z fun e3H c3M =>
 opK Tryd.prog E (gsem (asB b1Q) true (xCall (Value.func (.func 72) #[] #[]) [e3H, (Value.int .i64 0)])) c3M fun e3I b1f =>
 opK Tryd.prog E (xPick b1Q e3I (Value.bool false)) b1f fun e3J b7r =>
 xcond e3J
 (opK Tryd.prog E (xV (Instr.fieldAt 24 x3 3)) b7r fun e3K a9j =>
 opK Tryd.prog E (xV (Instr.loadAt 22 e3K)) a9j fun e3L b7s =>
 opK Tryd.prog E (xV (Instr.indexAt 22 e3L (Value.int .i64 1))) b7s fun e3M b4k =>
 opK Tryd.prog E (xV (Instr.loadAt 24 e3M)) b4k fun e3N b1y =>
 opK Tryd.prog E (xU (Instr.storeAt 24 x2 e3N)) b1y fun _z_116 b7t =>
 xcell Tryd.prog 24 x2 b7t fun g9M =>
 R g9M b7t)
 (opK Tryd.prog E (xV (Instr.fieldAt 24 x3 0)) b7r fun e3O a5X =>
 opK Tryd.prog E (xV (Instr.loadAt 3 e3O)) a5X fun e3P a4f =>
 opK Tryd.prog E (xBin .eql 3 (.tmp 125) (.const (Value.int .i64 7)) e3P (Value.int .i64 7)) a4f fun b0m a4F =>
 opK Tryd.prog E (gsem (asB b0m) true (xV (Instr.fieldAt 24 x3 3))) a4F fun e3Q a4G =>
 opK Tryd.prog E (gsem (asB b0m) true (xV (Instr.loadAt 22 e3Q))) a4G fun e3R a5i =>
 opK Tryd.prog E (gsem (asB b0m) true (xV (Instr.indexAt 22 e3R (Value.int .i64 1)))) a5i fun e3S a3F =>
 opK Tryd.prog E (gsem (asB b0m) true (xV (Instr.loadAt 24 e3S))) a3F fun e3T a4g =>
 opK Tryd.prog E (gsem (asB b0m) true (xCall (Value.func (.func 72) #[] #[]) [e3T, (Value.int .i64 0)])) a4g fun e3U a4h =>
 opK Tryd.prog E (xPick b0m e3U (Value.bool false)) a4h fun e3V a3D =>
 xcond e3V
 (opK Tryd.prog E (xV (Instr.fieldAt 24 x3 3)) a3D fun e3W a7e =>
 opK Tryd.prog E (xV (Instr.loadAt 22 e3W)) a7e fun e3X a8O =>
 opK Tryd.prog E (xV (Instr.indexAt 22 e3X (Value.int .i64 0))) a8O fun e3Y a7f =>
 opK Tryd.prog E (xV (Instr.loadAt 24 e3Y)) a7f fun e3Z a3E =>
 opK Tryd.prog E (xU (Instr.storeAt 24 x2 e3Z)) a3E fun _z_145 a5Y =>
 xcell Tryd.prog 24 x2 a5Y fun g9N =>
 R g9N a5Y)
 (opK Tryd.prog E (xV (Instr.fieldAt 24 x3 0)) a3D fun e4a d6f =>
 opK Tryd.prog E (xV (Instr.loadAt 3 e4a)) d6f fun e4b d6g =>
 opK Tryd.prog E (xBin .eql 3 (.tmp 140) (.const (Value.int .i64 8)) e4b (Value.int .i64 8)) d6g fun b7v d6h =>
 opK Tryd.prog E (gsem (asB b7v) false (xV (Instr.fieldAt 24 x3 0))) d6h fun e4c c6U =>
 opK Tryd.prog E (gsem (asB b7v) false (xV (Instr.loadAt 3 e4c))) c6U fun e4d d6i =>
 opK Tryd.prog E (gsem (asB b7v) false (xBin .eql 3 (.tmp 144) (.const (Value.int .i64 9)) e4d (Value.int .i64 9))) d6i fun e4e c6V =>
 opK Tryd.prog E (xPick b7v (Value.bool true) e4e) c6V fun b0n b7u =>
 opK Tryd.prog E (gsem (asB b0n) true (xV (Instr.fieldAt 24 x3 3))) b7u fun e4f d6j =>
 opK Tryd.prog E (gsem (asB b0n) true (xV (Instr.loadAt 22 e4f))) d6j fun e4g c6W =>
 opK Tryd.prog E (gsem (asB b0n) true (xV (Instr.indexAt 22 e4g (Value.int .i64 1)))) c6W fun e4h g9O =>
 opK Tryd.prog E (gsem (asB b0n) true (xV (Instr.loadAt 24 e4h))) g9O fun e4i g9P =>
 opK Tryd.prog E (gsem (asB b0n) true (xCall (Value.func (.func 72) #[] #[]) [e4i, (Value.int .i64 1)])) g9P fun e4j g9Q =>
 opK Tryd.prog E (xPick b0n e4j (Value.bool false)) g9Q fun e4k e6e =>
 xcond e4k
 (opK Tryd.prog E (xV (Instr.fieldAt 24 x3 3)) e6e fun e4l g9R =>
 opK Tryd.prog E (xV (Instr.loadAt 22 e4l)) g9R fun e4m g9S =>
 opK Tryd.prog E (xV (Instr.indexAt 22 e4m (Value.int .i64 0))) g9S fun e4n g9T =>
 opK Tryd.prog E (xV (Instr.loadAt 24 e4n)) g9T fun e4o g9U =>
 opK Tryd.prog E (xU (Instr.storeAt 24 x2 e4o)) g9U fun _z_182 e6f =>
 xcell Tryd.prog 24 x2 e6f fun g9V =>
 R g9V e6f)
 (opK Tryd.prog E (xV (Instr.fieldAt 24 x3 0)) e6e fun e4p d6k =>
 opK Tryd.prog E (xV (Instr.loadAt 3 e4p)) d6k fun e4q d6l =>
 opK Tryd.prog E (xBin .eql 3 (.tmp 160) (.const (Value.int .i64 8)) e4q (Value.int .i64 8)) d6l fun b0o c3O =>
 opK Tryd.prog E (gsem (asB b0o) true (xV (Instr.fieldAt 24 x3 3))) c3O fun e4r g9W =>
 opK Tryd.prog E (gsem (asB b0o) true (xV (Instr.loadAt 22 e4r))) g9W fun e4s g9X =>
 opK Tryd.prog E (gsem (asB b0o) true (xV (Instr.indexAt 22 e4s (Value.int .i64 0)))) g9X fun e4t b4l =>
 opK Tryd.prog E (gsem (asB b0o) true (xV (Instr.loadAt 24 e4t))) b4l fun e4u g9Y =>
 opK Tryd.prog E (gsem (asB b0o) true (xCall (Value.func (.func 72) #[] #[]) [e4u, (Value.int .i64 1)])) g9Y fun e4v g9Z =>
 opK Tryd.prog E (xPick b0o e4v (Value.bool false)) g9Z fun e4w e6g =>
 xcond e4w
 (opK Tryd.prog E (xV (Instr.fieldAt 24 x3 3)) e6g fun e4x h0a =>
 opK Tryd.prog E (xV (Instr.loadAt 22 e4x)) h0a fun e4y c6X =>
 opK Tryd.prog E (xV (Instr.indexAt 22 e4y (Value.int .i64 1))) c6X fun e4z d6m =>
 opK Tryd.prog E (xV (Instr.loadAt 24 e4z)) d6m fun e4A d6n =>
 opK Tryd.prog E (xU (Instr.storeAt 24 x2 e4A)) d6n fun _z_211 c6Y =>
 xcell Tryd.prog 24 x2 c6Y fun h0b =>
 R h0b c6Y)
 (opK Tryd.prog E (xV (Instr.loadAt 24 x3)) e6g fun e4B h0c =>
 opK Tryd.prog E (xU (Instr.storeAt 24 x2 e4B)) h0c fun _z_216 e6h =>
 xcell Tryd.prog 24 x2 e6h fun h0d =>
 R h0d e6h))))))
def d1k (x2 x3 x7 x8 x9 : Value) (w : World) (R : Value → World → Prop) (E : Pan) : Prop :=
 ∀ _τ : Fr, (xcut (fun _ c6Z => d1j x2 x3 c6Z R E) fun j3 =>
 xcond x8
 (opK Tryd.prog E (xV (Instr.fieldAt 24 x3 0)) w fun f2p b4m =>
 opK Tryd.prog E (xV (Instr.loadAt 3 f2p)) b4m fun f2q e6i =>
 opK Tryd.prog E (xCall (Value.func (.func 71) #[] #[]) [f2q, x7, x9]) e6i fun d2U h0e =>
 opK Tryd.prog E (xV (Instr.extract d2U 0)) h0e fun d2V h0f =>
 opK Tryd.prog E (xV (Instr.extract d2U 1)) h0f fun f2r h0g =>
 opK Tryd.prog E (xBin .eql 3 (.tmp 85) (.const (Value.int .i64 0)) f2r (Value.int .i64 0)) h0g fun c5P h0h =>
 opK Tryd.prog E (gsem (asB c5P) true (xBin .neq 2 (.tmp 88) (.const (Value.int .i64 (-9223372036854775808))) (gval (asB c5P) true d2V) (Value.int .i64 (-9223372036854775808)))) h0h fun f2s h0i =>
 opK Tryd.prog E (xPick c5P f2s (Value.bool false)) h0i fun f2t c3P =>
 xcond f2t
 (opK Tryd.prog E (xCall (Value.func (.func 70) #[] #[]) [d2V]) c3P fun f2u d6o =>
 opK Tryd.prog E (xU (Instr.storeAt 24 x2 f2u)) d6o fun _z_239 c7a =>
 xcell Tryd.prog 24 x2 c7a fun h0j =>
 R h0j c7a)
 (j3 [] c3P))
 (j3 [] w))
def d1l (x2 x3 : Value) (w : World) (R : Value → World → Prop) (E : Pan) : Prop :=
 ∀ _τ : Fr, (opK Tryd.prog E (xV (Instr.loadAt 24 x3)) w fun g5F q8 =>
 opK Tryd.prog E (xCall (Value.func (.func 69) #[] #[]) [g5F]) q8 fun e0s t7 =>
 opK Tryd.prog E (xV (Instr.extract e0s 0)) t7 fun g5G w4 =>
 opK Tryd.prog E (xV (Instr.extract e0s 1)) w4 fun g5H A8 =>
 xcond g5H
 (opK Tryd.prog E (xCall (Value.func (.func 70) #[] #[]) [g5G]) A8 fun g5I w5 =>
 opK Tryd.prog E (xU (Instr.storeAt 24 x2 g5I)) w5 fun _z_33 z2 =>
 xcell Tryd.prog 24 x2 z2 fun h5w =>
 R h5w z2)
 (opK Tryd.prog E (xV (Instr.fieldAt 24 x3 0)) A8 fun g5J b4O =>
 opK Tryd.prog E (xV (Instr.loadAt 3 g5J)) b4O fun g5K b6I =>
 opK Tryd.prog E (xBin .lss 3 (.tmp 48) (.const (Value.int .i64 5)) g5K (Value.int .i64 5)) b6I fun g5L b2f =>
 xcond g5L
 (opK Tryd.prog E (xV (Instr.loadAt 24 x3)) b2f fun g5M c4C =>
 opK Tryd.prog E (xU (Instr.storeAt 24 x2 g5M)) c4C fun _z_44 b6n =>
 xcell Tryd.prog 24 x2 b6n fun h5x =>
 R h5x b6n)
 (opK Tryd.prog E (xV (Instr.fieldAt 24 x3 3)) b2f fun d0H K5 =>
 opK Tryd.prog E (xV (Instr.loadAt 22 d0H)) K5 fun g5N J6 =>
 opK Tryd.prog E (xV (Instr.indexAt 22 g5N (Value.int .i64 0))) J6 fun g5O L3 =>
 opK Tryd.prog E (xV (Instr.loadAt 24 g5O)) L3 fun g5P I7 =>
 opK Tryd.prog E (xCall (Value.func (.func 69) #[] #[]) [g5P]) I7 fun e0t M6 =>
 opK Tryd.prog E (xV (Instr.extract e0t 0)) M6 fun g5Q J5 =>
 opK Tryd.prog E (xV (Instr.extract e0t 1)) J5 fun d1m M2 =>
 xcut (fun e6j h0k => d1k x2 x3 g5Q (nth e6j 0) (nth e6j.tail 0) h0k R E) fun j2 =>
 opK Tryd.prog E (xV (Instr.fieldAt 24 x3 3)) M2 fun f2v h0l =>
 opK Tryd.prog E (xV (Instr.loadAt 22 f2v)) h0l fun f2w h0m =>
 opK Tryd.prog E (xBuiltin .len #[22] 3 [false] [f2w]) h0m fun f2x h0n =>
 opK Tryd.prog E (xBin .eql 3 (.tmp 61) (.const (Value.int .i64 2)) f2x (Value.int .i64 2)) h0n fun f2y e6k =>
 xcond f2y
 (opK Tryd.prog E (xV (Instr.fieldAt 24 x3 3)) e6k fun f2z h0o =>
 opK Tryd.prog E (xV (Instr.loadAt 22 f2z)) h0o fun f2A h0p =>
 opK Tryd.prog E (xV (Instr.indexAt 22 f2A (Value.int .i64 1))) h0p fun f2B h0q =>
 opK Tryd.prog E (xV (Instr.loadAt 24 f2B)) h0q fun f2C h0r =>
 opK Tryd.prog E (xCall (Value.func (.func 69) #[] #[]) [f2C]) h0r fun d2W h0t =>
 opK Tryd.prog E (xV (Instr.extract d2W 0)) h0t fun f2D e6l =>
 opK Tryd.prog E (xV (Instr.extract d2W 1)) e6l fun f2E e6m =>
 opK Tryd.prog E (xPick d1m (gval (asB d1m) true f2E) (Value.bool false)) e6m fun f2F h0u =>
 j2 [f2F, f2D] h0u)
 (j2 [d1m, (Value.int .i64 0)] e6k))))
def e0u (x1 _x2 x3 x4 : Value) (w : World) (next4 : List Value → World → Prop) (j1 : List Value → World → Prop) (_R : Value → World → Prop) (E : Pan) : Prop :=
 opK Tryd.prog E (xV (Instr.fieldAt 24 x1 3)) w fun f2G e6n =>
 opK Tryd.prog E (xV (Instr.loadAt 22 f2G)) e6n fun f2H h0v =>
 opK Tryd.prog E (xBuiltin .len #[22] 3 [false] [f2H]) h0v fun f2I h0w =>
 opK Tryd.prog E (xBin .lss 3 (.tmp 21) (.tmp 24) x4 f2I) h0w fun f2J e6o =>
 xcond f2J
 (dX e6o fun c3Q =>
 qP Tryd.prog (xV (Instr.fieldAt 24 x3 3)) fun c0a =>
 qP Tryd.prog (xV (Instr.fieldAt 24 x1 3)) fun d2X =>
 qL Tryd.prog c3Q (blk c0a) (xV (Instr.loadAt 22 c0a)) fun f2K =>
 qL Tryd.prog c3Q (blk d2X) (xV (Instr.loadAt 22 d2X)) fun f2L =>
 qP Tryd.prog (xV (Instr.indexAt 22 f2L x4)) fun d2Y =>
 qL Tryd.prog c3Q (blk d2Y) (xV (Instr.loadAt 24 d2Y)) fun f2M =>
 opK Tryd.prog E (xCall (Value.func (.func 40) #[] #[]) [f2M]) c3Q fun f2N d6p =>
 keepX [(blk c0a)] c3Q d6p (opK Tryd.prog E (xV (Instr.buildSlice 22 1 #[(0, f2N)])) d6p fun f2O d6q =>
 keepX [(blk c0a)] d6p d6q (opK Tryd.prog E (xBuiltin .append #[22, 22] 22 [false, false] [f2K, f2O]) d6q fun f2P d6r =>
 keepX [] d6q d6r (qP Tryd.prog (xV (Instr.fieldAt 24 x3 3)) fun f2Q =>
 opK Tryd.prog E (xU (Instr.storeAt 22 f2Q f2P)) d6r fun _z_292 d6s =>
 keepX [] d6r d6s (opK Tryd.prog E (xBin .add 3 (.tmp 26) (.const (Value.int .i64 1)) x4 (Value.int .i64 1)) d6s fun f2R h0x =>
 next4 [f2R] h0x)))))
 (j1 [] e6o)
def F40 (x0 : Value) (w : World) (R : Value → World → Prop) (E : Pan) : Prop :=
 opK Tryd.prog E (xV (Instr.box 24 x0)) w fun o0 w_2 =>
 opK Tryd.prog E (xV (Instr.alloc 24 true (.tuple #[]))) w_2 fun I8 w_4 =>
 opK Tryd.prog E (xV (Instr.fieldAt 24 o0 0)) w_4 fun b0u w_6 =>
 opK Tryd.prog E (xV (Instr.loadAt 3 b0u)) w_6 fun b7e w_8 =>
 opK Tryd.prog E (xV (Instr.fieldAt 24 o0 1)) w_8 fun a1g l0 =>
 opK Tryd.prog E (xV (Instr.loadAt 2 a1g)) l0 fun b5J m6 =>
 opK Tryd.prog E (xV (Instr.fieldAt 24 o0 2)) m6 fun a4U l8 =>
 opK Tryd.prog E (xV (Instr.loadAt 9 a4U)) l8 fun a4d o5 =>
 opK Tryd.prog E (xV (Instr.build 24 #[(0, b7e), (1, b5J), (2, a4d)])) o5 fun g5R p5 =>
 opK Tryd.prog E (xV (Instr.alloc 24 true (.tuple #[]))) p5 fun d6t o7 =>
 opK Tryd.prog E (xU (Instr.storeAt 24 d6t g5R)) o7 fun _z_21 r9 =>
 xcut (fun _ h0y => d1l I8 d6t h0y R E) fun j1 =>
 xloop [4] [(Value.int .i64 0)] r9 fun τ_296 e6p next4 =>
 e0u o0 I8 d6t (τ_296 4) e6p next4 j1 R E
noncomputable def c40 : Code := Tryd.f40.body.getD .skip
def h40 : Hint := (.seq .none (.seq .none (.cut [] (.seq .none (.block (.loop [4] (.seq (.seq .none (.cond .none .none)) (.seq (.block (.reg [(0, 268435456, 8), (1, 536870912, 268435456), (0, 1073741824, 2), (4, 2147483648, 1073741824), (0, 4294967296, 16), (24, 8589934592, 6442450944), (32, 17179869184, 8589934592), (64, 34359738368, 17179869184), (128, 68719476736, 34359738368), (386, 137438953472, 69256347648), (1023, 274877906944, 8), (2047, 0, 412316860416)] [74, 72, 74, 66, 74, 74, 10, 2, 2, 0, 74, 0] (.early 0 (.early 2 (.early 4 (.load 1 (.load 3 (.early 5 (.load 6 (.step 7 (.step 8 (.step 9 (.early 10 (.step 11 .done)))))))))))))) .none))))) (.seq .none (.seq (.seq .none (.cond (.seq .none .none) .none)) (.seq (.seq .none (.cond (.seq .none .none) .none)) (.seq .none (.seq .none (.cut [8, 9] (.seq .none (.cond (.seq .none (.seq .none .none)) .none)) (.cut [] (.seq .none (.cond (.seq .none (.seq .none (.cond (.seq .none .none) .none))) .none)) (.seq (.block (.seq .none (.cond (.seq .none .none) (.seq .none (.cond (.seq .none .none) (.seq .none (.cond (.seq .none .none) (.seq .none (.cond (.seq .none .none) (.seq .none (.cond (.seq .none .none) .none))))))))))) (.seq .none .none))))))))))))
theorem g5S (x0 : Value) (w : World) (R : Value → World → Prop) (E : Pan) : F40 x0 w R E = callX Tryd.prog [.cell 2 24] c40 h40 [x0] w R E := by kernel_rfl
theorem g5T {x0 : Value} {w : World} {R : Value → World → Prop} {E : Pan} (h : F40 x0 w R E) : Cv Tryd.prog 40 #[x0] w R E := by
 refine g7 (args := [x0]) (c := c40) (h := h40) (rs := [.cell 2 24]) Tryd.func40 (by kernel_rfl) (by kernel_rfl) (Nat.le_of_ble_eq_true (by kernel_rfl)) (by kernel_rfl) (by kernel_rfl) (by kernel_rfl) ?_
 rw [← g5S]
 exact h
def d1n (x1 x2 : Value) (w : World) (R : Value → World → Prop) (E : Pan) : Prop :=
 ∀ _τ : Fr, (opK Tryd.prog E (xV (Instr.loadAt 27 x1)) w fun g5U a2J =>
 opK Tryd.prog E (xU (Instr.storeAt 27 x2 g5U)) a2J fun _z_22 b4H =>
 xcell Tryd.prog 27 x2 b4H fun h5y =>
 R h5y b4H)
def F42 (x0 : Value) (w : World) (R : Value → World → Prop) (E : Pan) : Prop :=
 opK Tryd.prog E (xV (Instr.box 27 x0)) w fun o0 w_2 =>
 opK Tryd.prog E (xV (Instr.alloc 27 true (.tuple #[]))) w_2 fun I8 w_4 =>
 dX w_4 fun w_5 =>
 qP Tryd.prog (xV (Instr.fieldAt 27 o0 2)) fun g5V =>
 qP Tryd.prog (xV (Instr.fieldAt 27 o0 3)) fun b1h =>
 qL Tryd.prog w_5 (blk g5V) (xV (Instr.loadAt 22 g5V)) fun h5z =>
 qL Tryd.prog w_5 (blk b1h) (xV (Instr.loadAt 25 b1h)) fun b9B =>
 opK Tryd.prog E (xCall (Value.func (.func 61) #[] #[]) [h5z, (Value.func (.func 38) #[] #[])]) w_5 fun g5W K6 =>
 keepX [(blk b1h)] w_5 K6 (qP Tryd.prog (xV (Instr.fieldAt 27 o0 2)) fun g5X =>
 opK Tryd.prog E (xCall (Value.func (.func 73) #[] #[]) [b9B, (Value.func (.func 42) #[] #[])]) K6 fun c8z l8 =>
 keepX [] K6 l8 (opK Tryd.prog E (xU (Instr.storeAt 22 g5X g5W)) l8 fun _z_15 o5 =>
 keepX [] l8 o5 (qP Tryd.prog (xV (Instr.fieldAt 27 o0 3)) fun g5Y =>
 opK Tryd.prog E (xU (Instr.storeAt 25 g5Y c8z)) o5 fun _z_18 Z4 =>
 keepX [] o5 Z4 (xcut (fun _ t7 => d1n o0 I8 t7 R E) fun j1 =>
 opK Tryd.prog E (xV (Instr.fieldAt 27 o0 0)) Z4 fun g5Z w4 =>
 opK Tryd.prog E (xV (Instr.loadAt 3 g5Z)) w4 fun c3R A8 =>
 opK Tryd.prog E (xBin .eql 3 (.tmp 17) (.const (Value.int .i64 3)) c3R (Value.int .i64 3)) A8 fun b8d w5 =>
 xcond b8d
 (opK Tryd.prog E (xV (Instr.fieldAt 27 o0 2)) w5 fun b5w z2 =>
 opK Tryd.prog E (xV (Instr.loadAt 22 b5w)) z2 fun b8x F1 =>
 opK Tryd.prog E (xV (Instr.indexAt 22 b8x (Value.int .i64 0))) F1 fun b8y D3 =>
 opK Tryd.prog E (xV (Instr.loadAt 24 b8y)) D3 fun c8T F5 =>
 opK Tryd.prog E (xCall (Value.func (.func 62) #[] #[]) [c8T]) F5 fun e0v D4 =>
 opK Tryd.prog E (xV (Instr.extract e0v 0)) D4 fun g6a D9 =>
 opK Tryd.prog E (xV (Instr.extract e0v 1)) D9 fun e0w M5 =>
 opK Tryd.prog E (xV (Instr.fieldAt 27 o0 2)) M5 fun b5Q K5 =>
 opK Tryd.prog E (xV (Instr.loadAt 22 b5Q)) K5 fun g6b J6 =>
 opK Tryd.prog E (xV (Instr.indexAt 22 g6b (Value.int .i64 1))) J6 fun g6c L3 =>
 opK Tryd.prog E (xV (Instr.loadAt 24 g6c)) L3 fun g6d I7 =>
 opK Tryd.prog E (xCall (Value.func (.func 62) #[] #[]) [g6d]) I7 fun e0x M6 =>
 opK Tryd.prog E (xV (Instr.extract e0x 0)) M6 fun g6e J5 =>
 opK Tryd.prog E (xV (Instr.extract e0x 1)) J5 fun g6f M2 =>
 opK Tryd.prog E (xPick e0w (gval (asB e0w) true g6f) (Value.bool false)) M2 fun g6g L2 =>
 xcond g6g
 (opK Tryd.prog E (xV (Instr.fieldAt 27 o0 1)) L2 fun g6h M3 =>
 opK Tryd.prog E (xV (Instr.loadAt 3 g6h)) M3 fun g6i U0 =>
 opK Tryd.prog E (xCall (Value.func (.func 75) #[] #[]) [g6i, g6a, g6e]) U0 fun b8s U7 =>
 opK Tryd.prog E (xCall (Value.func (.func 74) #[] #[]) [b8s]) U7 fun g6j U1 =>
 opK Tryd.prog E (xU (Instr.storeAt 27 I8 g6j)) U1 fun _z_71 a0r =>
 xcell Tryd.prog 27 I8 a0r fun h5A =>
 R h5A a0r)
 (j1 [] L2))
 (opK Tryd.prog E (xBin .eql 3 (.tmp 17) (.const (Value.int .i64 4)) c3R (Value.int .i64 4)) w5 fun g6k c4z =>
 xcond g6k
 (opK Tryd.prog E (xV (Instr.fieldAt 27 o0 3)) c4z fun g6l g6m =>
 opK Tryd.prog E (xV (Instr.loadAt 25 g6l)) g6m fun g6n b1Y =>
 opK Tryd.prog E (xV (Instr.indexAt 25 g6n (Value.int .i64 0))) b1Y fun g6o g6p =>
 opK Tryd.prog E (xV (Instr.fieldAt 27 g6o 0)) g6p fun g6q g6r =>
 opK Tryd.prog E (xV (Instr.loadAt 3 g6q)) g6r fun d1o d6u =>
 opK Tryd.prog E (xBin .eql 3 (.tmp 53) (.const (Value.int .i64 1)) d1o (Value.int .i64 1)) d6u fun d1p g6s =>
 opK Tryd.prog E (gsem (asB d1p) false (xBin .eql 3 (.tmp 56) (.const (Value.int .i64 2)) (gval (asB d1p) false d1o) (Value.int .i64 2))) g6s fun g6t b9o =>
 opK Tryd.prog E (xPick d1p (Value.bool true) g6t) b9o fun g6u c5O =>
 xcond g6u
 (opK Tryd.prog E (xBin .eql 3 (.tmp 59) (.const (Value.int .i64 2)) d1o (Value.int .i64 2)) c5O fun g6v e3F =>
 opK Tryd.prog E (xCall (Value.func (.func 74) #[] #[]) [g6v]) e3F fun g6w b4F =>
 opK Tryd.prog E (xU (Instr.storeAt 27 I8 g6w)) b4F fun _z_96 c2x =>
 xcell Tryd.prog 27 I8 c2x fun h5B =>
 R h5B c2x)
 (j1 [] c5O))
 (opK Tryd.prog E (xBin .eql 3 (.tmp 17) (.const (Value.int .i64 5)) c3R (Value.int .i64 5)) c4z fun g6x a1T =>
 xcond g6x
 (opK Tryd.prog E (xV (Instr.loadAt 27 o0)) a1T fun f2S a1U =>
 opK Tryd.prog E (xCall (Value.func (.func 76) #[] #[]) [f2S, (Value.int .i64 1), (Value.int .i64 2)]) a1U fun f2T a4e =>
 opK Tryd.prog E (xU (Instr.storeAt 27 I8 f2T)) a4e fun _z_105 a5h =>
 xcell Tryd.prog 27 I8 a5h fun h0z =>
 R h0z a5h)
 (opK Tryd.prog E (xBin .eql 3 (.tmp 17) (.const (Value.int .i64 6)) c3R (Value.int .i64 6)) a1T fun f2U a9j =>
 xcond f2U
 (opK Tryd.prog E (xV (Instr.loadAt 27 o0)) a9j fun f2V b7s =>
 opK Tryd.prog E (xCall (Value.func (.func 76) #[] #[]) [f2V, (Value.int .i64 2), (Value.int .i64 1)]) b7s fun f2W b4k =>
 opK Tryd.prog E (xU (Instr.storeAt 27 I8 f2W)) b4k fun _z_114 b1y =>
 xcell Tryd.prog 27 I8 b1y fun h0A =>
 R h0A b1y)
 (j1 [] a9j))))))))
noncomputable def c42 : Code := Tryd.f42.body.getD .skip
def h42 : Hint := (.seq .none (.seq (.reg [(0, 256, 2), (1, 512, 256), (2, 1024, 512), (0, 2048, 2), (8, 4096, 2048), (20, 8192, 4096), (31, 16384, 2), (127, 0, 17408), (255, 32768, 2), (511, 0, 40960)] [18, 16, 16, 18, 2, 0, 18, 0, 18, 0] (.early 0 (.early 3 (.load 1 (.load 4 (.step 2 (.early 6 (.step 5 (.step 7 (.early 8 (.step 9 .done))))))))))) (.cut [] (.seq .none (.block (.seq .none (.cond (.seq .none (.seq .none (.seq .none (.cond (.seq .none .none) .none)))) (.seq .none (.cond (.seq .none (.seq .none (.cond (.seq .none .none) .none))) (.seq .none (.cond (.seq .none .none) (.seq .none (.cond (.seq .none .none) .none)))))))))) (.seq .none .none))))
theorem g6y (x0 : Value) (w : World) (R : Value → World → Prop) (E : Pan) : F42 x0 w R E = callX Tryd.prog [.cell 2 27] c42 h42 [x0] w R E := by kernel_rfl
theorem g6z {x0 : Value} {w : World} {R : Value → World → Prop} {E : Pan} (h : F42 x0 w R E) : Cv Tryd.prog 42 #[x0] w R E := by
 refine g7 (args := [x0]) (c := c42) (h := h42) (rs := [.cell 2 27]) Tryd.func42 (by kernel_rfl) (by kernel_rfl) (Nat.le_of_ble_eq_true (by kernel_rfl)) (by kernel_rfl) (by kernel_rfl) (by kernel_rfl) ?_
 rw [← g6y]
 exact h
def d1q (x2 x3 : Value) (w : World) (R : Value → World → Prop) (E : Pan) : Prop :=
 ∀ _τ : Fr, (opK Tryd.prog E (xV (Instr.loadAt 27 x3)) w fun f2X o7 =>
 opK Tryd.prog E (xU (Instr.storeAt 27 x2 f2X)) o7 fun _z_21 r9 =>
 xcell Tryd.prog 27 x2 r9 fun h5C =>
 R h5C r9)
def d1r (x2 x3 x11 x12 : Value) (w : World) (j3 : List Value → World → Prop) (R : Value → World → Prop) (E : Pan) : Prop :=
 ∀ _τ : Fr, (opK Tryd.prog E (xV (Instr.fieldAt 27 x3 3)) w fun f2Y c2y =>
 opK Tryd.prog E (xV (Instr.loadAt 25 f2Y)) c2y fun e4C b9Z =>
 opK Tryd.prog E (xV (Instr.indexAt 25 e4C (Value.int .i64 0))) b9Z fun e4D c3M =>
 opK Tryd.prog E (xV (Instr.fieldAt 27 e4D 0)) c3M fun e4E b1f =>
 opK Tryd.prog E (xV (Instr.loadAt 3 e4E)) b1f fun e4F b7r =>
 opK Tryd.prog E (xBin .eql 3 (.tmp 111) (.tmp 112) e4F x11) b7r fun e4G a9j =>
 xcond e4G
 (opK Tryd.prog E (xV (Instr.fieldAt 27 x3 3)) a9j fun e4H b7s =>
 opK Tryd.prog E (xV (Instr.loadAt 25 e4H)) b7s fun e4I b4k =>
 opK Tryd.prog E (xV (Instr.indexAt 25 e4I (Value.int .i64 1))) b4k fun e4J b1y =>
 opK Tryd.prog E (xV (Instr.loadAt 27 e4J)) b1y fun e4K b7t =>
 opK Tryd.prog E (xU (Instr.storeAt 27 x2 e4K)) b7t fun _z_118 c3N =>
 xcell Tryd.prog 27 x2 c3N fun d6e =>
 R d6e c3N)
 (opK Tryd.prog E (xV (Instr.fieldAt 27 x3 3)) a9j fun e4L a4f =>
 opK Tryd.prog E (xV (Instr.loadAt 25 e4L)) a4f fun e4M a4F =>
 opK Tryd.prog E (xV (Instr.indexAt 25 e4M (Value.int .i64 0))) a4F fun e4N a4G =>
 opK Tryd.prog E (xV (Instr.fieldAt 27 e4N 0)) a4G fun e4O a5i =>
 opK Tryd.prog E (xV (Instr.loadAt 3 e4O)) a5i fun e4P a3F =>
 opK Tryd.prog E (xBin .eql 3 (.tmp 123) (.tmp 124) e4P x12) a3F fun e4Q a4g =>
 xcond e4Q
 (opK Tryd.prog E (xV (Instr.fieldAt 27 x3 3)) a4g fun e4R a4h =>
 opK Tryd.prog E (xV (Instr.loadAt 25 e4R)) a4h fun e4S a3D =>
 opK Tryd.prog E (xV (Instr.indexAt 25 e4S (Value.int .i64 0))) a3D fun e4T a7e =>
 opK Tryd.prog E (xV (Instr.loadAt 27 e4T)) a7e fun e4U a8O =>
 opK Tryd.prog E (xU (Instr.storeAt 27 x2 e4U)) a8O fun _z_141 a7f =>
 xcell Tryd.prog 27 x2 a7f fun h0B =>
 R h0B a7f)
 (opK Tryd.prog E (xV (Instr.fieldAt 27 x3 3)) a4g fun e4V h0C =>
 opK Tryd.prog E (xV (Instr.loadAt 25 e4V)) h0C fun e4W h0D =>
 opK Tryd.prog E (xV (Instr.indexAt 25 e4W (Value.int .i64 1))) h0D fun e4X d6f =>
 opK Tryd.prog E (xV (Instr.fieldAt 27 e4X 0)) d6f fun e4Y d6g =>
 opK Tryd.prog E (xV (Instr.loadAt 3 e4Y)) d6g fun e4Z d6h =>
 opK Tryd.prog E (xBin .eql 3 (.tmp 135) (.tmp 136) e4Z x11) d6h fun e5a c6U =>
 xcond e5a
 (opK Tryd.prog E (xV (Instr.fieldAt 27 x3 3)) c6U fun e5b d6i =>
 opK Tryd.prog E (xV (Instr.loadAt 25 e5b)) d6i fun e5c c6V =>
 opK Tryd.prog E (xV (Instr.indexAt 25 e5c (Value.int .i64 0))) c6V fun e5d b7u =>
 opK Tryd.prog E (xV (Instr.loadAt 27 e5d)) b7u fun e5e d6j =>
 opK Tryd.prog E (xU (Instr.storeAt 27 x2 e5e)) d6j fun _z_164 c6W =>
 xcell Tryd.prog 27 x2 c6W fun h0E =>
 R h0E c6W)
 (j3 [] c6U))))
def d1s (x2 x3 x100 : Value) (w : World) (j3 : List Value → World → Prop) (R : Value → World → Prop) (E : Pan) : Prop :=
 ∀ _τ : Fr, (xcond x100
 (xcut (fun e6q h0F => d1r x2 x3 (nth e6q 0) (nth e6q.tail 0) h0F j3 R E) fun j5 =>
 opK Tryd.prog E (xV (Instr.fieldAt 27 x3 0)) w fun e5f b4n =>
 opK Tryd.prog E (xV (Instr.loadAt 3 e5f)) b4n fun e5g d6v =>
 opK Tryd.prog E (xBin .eql 3 (.tmp 104) (.const (Value.int .i64 6)) e5g (Value.int .i64 6)) d6v fun e5h e6r =>
 xcond e5h
 (j5 [(Value.int .i64 2), (Value.int .i64 1)] e6r)
 (j5 [(Value.int .i64 1), (Value.int .i64 2)] e6r))
 (j3 [] w))
def d1t (x2 x3 : Value) (w : World) (R : Value → World → Prop) (E : Pan) : Prop :=
 ∀ _τ : Fr, (xcut (fun _ b6m => d1q x2 x3 b6m R E) fun j3 =>
 opK Tryd.prog E (xV (Instr.fieldAt 27 x3 0)) w fun g6A a7V =>
 opK Tryd.prog E (xV (Instr.loadAt 3 g6A)) a7V fun c3S a8b =>
 opK Tryd.prog E (xBin .eql 3 (.tmp 55) (.const (Value.int .i64 3)) c3S (Value.int .i64 3)) a8b fun g6B b9n =>
 xcond g6B
 (opK Tryd.prog E (xV (Instr.fieldAt 27 x3 2)) b9n fun g6C c2w =>
 opK Tryd.prog E (xV (Instr.loadAt 22 g6C)) c2w fun g6D c1M =>
 opK Tryd.prog E (xV (Instr.indexAt 22 g6D (Value.int .i64 0))) c1M fun g6E b4O =>
 opK Tryd.prog E (xV (Instr.loadAt 24 g6E)) b4O fun g6F b6I =>
 opK Tryd.prog E (xCall (Value.func (.func 69) #[] #[]) [g6F]) b6I fun e0y b2f =>
 opK Tryd.prog E (xV (Instr.extract e0y 0)) b2f fun g6G c4C =>
 opK Tryd.prog E (xV (Instr.extract e0y 1)) c4C fun e0z b6n =>
 opK Tryd.prog E (xV (Instr.fieldAt 27 x3 2)) b6n fun g6H b0L =>
 opK Tryd.prog E (xV (Instr.loadAt 22 g6H)) b0L fun g6I c4D =>
 opK Tryd.prog E (xV (Instr.indexAt 22 g6I (Value.int .i64 1))) c4D fun g6J d0P =>
 opK Tryd.prog E (xV (Instr.loadAt 24 g6J)) d0P fun g6K d4L =>
 opK Tryd.prog E (xCall (Value.func (.func 69) #[] #[]) [g6K]) d4L fun e0A c5l =>
 opK Tryd.prog E (xV (Instr.extract e0A 0)) c5l fun g6L c1X =>
 opK Tryd.prog E (xV (Instr.extract e0A 1)) c1X fun g6M e3C =>
 opK Tryd.prog E (xPick e0z (gval (asB e0z) true g6M) (Value.bool false)) e3C fun g6N b8N =>
 xcond g6N
 (opK Tryd.prog E (xV (Instr.fieldAt 27 x3 1)) b8N fun g6O e3D =>
 opK Tryd.prog E (xV (Instr.loadAt 3 g6O)) e3D fun g6P a9I =>
 opK Tryd.prog E (xCall (Value.func (.func 80) #[] #[]) [g6P, g6G, g6L]) a9I fun g6Q b4S =>
 opK Tryd.prog E (xCall (Value.func (.func 79) #[] #[]) [g6Q]) b4S fun g6R b1X =>
 opK Tryd.prog E (xU (Instr.storeAt 27 x2 g6R)) b1X fun _z_70 d1h =>
 xcell Tryd.prog 27 x2 d1h fun e3E =>
 R e3E d1h)
 (j3 [] b8N))
 (opK Tryd.prog E (xBin .eql 3 (.tmp 55) (.const (Value.int .i64 4)) c3S (Value.int .i64 4)) b9n fun g6S a0s =>
 xcond g6S
 (opK Tryd.prog E (xV (Instr.fieldAt 27 x3 3)) a0s fun g6T Z3 =>
 opK Tryd.prog E (xV (Instr.loadAt 25 g6T)) Z3 fun g6U W3 =>
 opK Tryd.prog E (xV (Instr.indexAt 25 g6U (Value.int .i64 0))) W3 fun g6V X3 =>
 opK Tryd.prog E (xV (Instr.fieldAt 27 g6V 0)) X3 fun g6W Z1 =>
 opK Tryd.prog E (xV (Instr.loadAt 3 g6W)) Z1 fun d1u a0q =>
 opK Tryd.prog E (xBin .eql 3 (.tmp 91) (.const (Value.int .i64 1)) d1u (Value.int .i64 1)) a0q fun d1v a0A =>
 opK Tryd.prog E (gsem (asB d1v) false (xBin .eql 3 (.tmp 94) (.const (Value.int .i64 2)) (gval (asB d1v) false d1u) (Value.int .i64 2))) a0A fun g6X Z2 =>
 opK Tryd.prog E (xPick d1v (Value.bool true) g6X) Z2 fun g6Y a2g =>
 xcond g6Y
 (opK Tryd.prog E (xBin .eql 3 (.tmp 97) (.const (Value.int .i64 2)) d1u (Value.int .i64 2)) a2g fun g6Z a2H =>
 opK Tryd.prog E (xCall (Value.func (.func 79) #[] #[]) [g6Z]) a2H fun g7a a1B =>
 opK Tryd.prog E (xU (Instr.storeAt 27 x2 g7a)) a1B fun _z_95 a3l =>
 xcell Tryd.prog 27 x2 a3l fun h5D =>
 R h5D a3l)
 (j3 [] a2g))
 (xcut (fun h0G h0H => d1s x2 x3 (nth h0G 0) h0H j3 R E) fun j4 =>
 opK Tryd.prog E (xBin .eql 3 (.tmp 55) (.const (Value.int .i64 5)) c3S (Value.int .i64 5)) a0s fun d1w e6s =>
 xcond d1w
 (j4 [d1w] e6s)
 (opK Tryd.prog E (xBin .eql 3 (.tmp 55) (.const (Value.int .i64 6)) c3S (Value.int .i64 6)) e6s fun e5i h0I =>
 j4 [e5i] h0I))))
def e0B (x1 _x2 x3 x5 : Value) (w : World) (next6 : List Value → World → Prop) (j2 : List Value → World → Prop) (_R : Value → World → Prop) (E : Pan) : Prop :=
 opK Tryd.prog E (xV (Instr.fieldAt 27 x1 3)) w fun f2Z h0J =>
 opK Tryd.prog E (xV (Instr.loadAt 25 f2Z)) h0J fun f3a d6k =>
 opK Tryd.prog E (xBuiltin .len #[25] 3 [false] [f3a]) d6k fun f3b d6l =>
 opK Tryd.prog E (xBin .lss 3 (.tmp 36) (.tmp 39) x5 f3b) d6l fun f3c c3O =>
 xcond f3c
 (dX c3O fun c3T =>
 qP Tryd.prog (xV (Instr.fieldAt 27 x3 3)) fun c0b =>
 qP Tryd.prog (xV (Instr.fieldAt 27 x1 3)) fun d2Z =>
 qL Tryd.prog c3T (blk c0b) (xV (Instr.loadAt 25 c0b)) fun f3d =>
 qL Tryd.prog c3T (blk d2Z) (xV (Instr.loadAt 25 d2Z)) fun f3e =>
 qP Tryd.prog (xV (Instr.indexAt 25 f3e x5)) fun d3a =>
 qL Tryd.prog c3T (blk d3a) (xV (Instr.loadAt 27 d3a)) fun f3f =>
 opK Tryd.prog E (xCall (Value.func (.func 44) #[] #[]) [f3f]) c3T fun f3g d6w =>
 keepX [(blk c0b)] c3T d6w (opK Tryd.prog E (xV (Instr.buildSlice 25 1 #[(0, f3g)])) d6w fun f3h d6x =>
 keepX [(blk c0b)] d6w d6x (opK Tryd.prog E (xBuiltin .append #[25, 25] 25 [false, false] [f3d, f3h]) d6x fun f3i d6y =>
 keepX [] d6x d6y (qP Tryd.prog (xV (Instr.fieldAt 27 x3 3)) fun f3j =>
 opK Tryd.prog E (xU (Instr.storeAt 25 f3j f3i)) d6y fun _z_205 c6X =>
 keepX [] d6y c6X (opK Tryd.prog E (xBin .add 3 (.tmp 41) (.const (Value.int .i64 1)) x5 (Value.int .i64 1)) c6X fun f3k d6m =>
 next6 [f3k] d6m)))))
 (j2 [] c3O)
def d1x (x1 x2 x3 : Value) (w : World) (R : Value → World → Prop) (E : Pan) : Prop :=
 ∀ _τ : Fr, (xcut (fun _ h0K => d1t x2 x3 h0K R E) fun j2 =>
 xloop [5] [(Value.int .i64 0)] w fun τ_209 d6n next6 =>
 e0B x1 x2 x3 (τ_209 5) d6n next6 j2 R E)
def e0C (x1 _x2 x3 x4 : Value) (w : World) (next7 : List Value → World → Prop) (j1 : List Value → World → Prop) (_R : Value → World → Prop) (E : Pan) : Prop :=
 opK Tryd.prog E (xV (Instr.fieldAt 27 x1 2)) w fun f3l h0L =>
 opK Tryd.prog E (xV (Instr.loadAt 22 f3l)) h0L fun f3m h0M =>
 opK Tryd.prog E (xBuiltin .len #[22] 3 [false] [f3m]) h0M fun f3n h0N =>
 opK Tryd.prog E (xBin .lss 3 (.tmp 18) (.tmp 21) x4 f3n) h0N fun f3o c6Z =>
 xcond f3o
 (dX c6Z fun c3U =>
 qP Tryd.prog (xV (Instr.fieldAt 27 x3 2)) fun c0c =>
 qP Tryd.prog (xV (Instr.fieldAt 27 x1 2)) fun d3b =>
 qL Tryd.prog c3U (blk c0c) (xV (Instr.loadAt 22 c0c)) fun f3p =>
 qL Tryd.prog c3U (blk d3b) (xV (Instr.loadAt 22 d3b)) fun f3q =>
 qP Tryd.prog (xV (Instr.indexAt 22 f3q x4)) fun d3c =>
 qL Tryd.prog c3U (blk d3c) (xV (Instr.loadAt 24 d3c)) fun f3r =>
 opK Tryd.prog E (xCall (Value.func (.func 40) #[] #[]) [f3r]) c3U fun f3s d6z =>
 keepX [(blk c0c)] c3U d6z (opK Tryd.prog E (xV (Instr.buildSlice 22 1 #[(0, f3s)])) d6z fun f3t d6A =>
 keepX [(blk c0c)] d6z d6A (opK Tryd.prog E (xBuiltin .append #[22, 22] 22 [false, false] [f3p, f3t]) d6A fun f3u d6B =>
 keepX [] d6A d6B (qP Tryd.prog (xV (Instr.fieldAt 27 x3 2)) fun f3v =>
 opK Tryd.prog E (xU (Instr.storeAt 22 f3v f3u)) d6B fun _z_235 c3P =>
 keepX [] d6B c3P (opK Tryd.prog E (xBin .add 3 (.tmp 23) (.const (Value.int .i64 1)) x4 (Value.int .i64 1)) c3P fun f3w d6o =>
 next7 [f3w] d6o)))))
 (j1 [] c6Z)
def F44 (x0 : Value) (w : World) (R : Value → World → Prop) (E : Pan) : Prop :=
 opK Tryd.prog E (xV (Instr.box 27 x0)) w fun o0 w_2 =>
 opK Tryd.prog E (xV (Instr.alloc 27 true (.tuple #[]))) w_2 fun I8 w_4 =>
 opK Tryd.prog E (xV (Instr.fieldAt 27 o0 0)) w_4 fun a9g w_6 =>
 opK Tryd.prog E (xV (Instr.loadAt 3 a9g)) w_6 fun Y1 w_8 =>
 opK Tryd.prog E (xV (Instr.fieldAt 27 o0 1)) w_8 fun b6o l0 =>
 opK Tryd.prog E (xV (Instr.loadAt 3 b6o)) l0 fun a0B m6 =>
 opK Tryd.prog E (xV (Instr.build 27 #[(0, Y1), (1, a0B)])) m6 fun b2R l8 =>
 opK Tryd.prog E (xV (Instr.alloc 27 true (.tuple #[]))) l8 fun d6C o5 =>
 opK Tryd.prog E (xU (Instr.storeAt 27 d6C b2R)) o5 fun _z_17 p5 =>
 xcut (fun _ c6Y => d1x o0 I8 d6C c6Y R E) fun j1 =>
 xloop [4] [(Value.int .i64 0)] p5 fun τ_239 c7a next7 =>
 e0C o0 I8 d6C (τ_239 4) c7a next7 j1 R E
noncomputable def c44 : Code := Tryd.f44.body.getD .skip
def h44 : Hint := (.seq .none (.seq .none (.cut [] (.seq .none (.block (.loop [4] (.seq (.seq .none (.cond .none .none)) (.seq (.block (.reg [(0, 33554432, 8), (1, 67108864, 33554432), (0, 134217728, 2), (4, 268435456, 134217728), (0, 536870912, 16), (24, 1073741824, 805306368), (32, 2147483648, 1073741824), (64, 4294967296, 2147483648), (128, 8589934592, 4294967296), (386, 17179869184, 8657043456), (1023, 34359738368, 8), (2047, 0, 51539607552)] [74, 72, 74, 66, 74, 74, 10, 2, 2, 0, 74, 0] (.early 0 (.early 2 (.early 4 (.load 1 (.load 3 (.early 5 (.load 6 (.step 7 (.step 8 (.step 9 (.early 10 (.step 11 .done)))))))))))))) .none))))) (.cut [] (.seq .none (.block (.loop [5] (.seq (.seq .none (.cond .none .none)) (.seq (.block (.reg [(0, 8796093022208, 8), (1, 17592186044416, 8796093022208), (0, 35184372088832, 2), (4, 70368744177664, 35184372088832), (0, 140737488355328, 32), (24, 281474976710656, 211106232532992), (32, 562949953421312, 281474976710656), (64, 1125899906842624, 562949953421312), (128, 2251799813685248, 1125899906842624), (386, 4503599627370496, 2269391999729664), (1023, 9007199254740992, 8), (2047, 0, 13510798882111488)] [74, 72, 74, 66, 74, 74, 10, 2, 2, 0, 74, 0] (.early 0 (.early 2 (.early 4 (.load 1 (.load 3 (.early 5 (.load 6 (.step 7 (.step 8 (.step 9 (.early 10 (.step 11 .done)))))))))))))) .none))))) (.cut [] (.seq .none (.block (.seq .none (.cond (.seq .none (.seq .none (.seq .none (.cond (.seq .none .none) .none)))) (.seq .none (.cond (.seq .none (.seq .none (.cond (.seq .none .none) .none))) (.cut [100] (.seq .none (.cond .none .none)) (.cond (.seq .none (.cut [11, 12] (.seq .none (.cond .none .none)) (.block (.seq .none (.cond (.seq .none .none) (.seq .none (.cond (.seq .none .none) (.seq .none (.cond (.seq .none .none) .none))))))))) .none)))))))) (.seq .none .none))))))
theorem g7b (x0 : Value) (w : World) (R : Value → World → Prop) (E : Pan) : F44 x0 w R E = callX Tryd.prog [.cell 2 27] c44 h44 [x0] w R E := by kernel_rfl
theorem g7c {x0 : Value} {w : World} {R : Value → World → Prop} {E : Pan} (h : F44 x0 w R E) : Cv Tryd.prog 44 #[x0] w R E := by
 refine g7 (args := [x0]) (c := c44) (h := h44) (rs := [.cell 2 27]) Tryd.func44 (by kernel_rfl) (by kernel_rfl) (Nat.le_of_ble_eq_true (by kernel_rfl)) (by kernel_rfl) (by kernel_rfl) (by kernel_rfl) ?_
 rw [← g7b]
 exact h
def d1y (x5 : Value) (w : World) (R : Value → World → Prop) (_E : Pan) : Prop :=
 ∀ _τ : Fr, (R x5 w)
def e0D (x1 x5 x8 x9 x10 : Value) (w : World) (next2 : List Value → World → Prop) (j1 : List Value → World → Prop) (_R : Value → World → Prop) (E : Pan) : Prop :=
 opK Tryd.prog E (xBin .lss 3 (.tmp 10) (.tmp 9) x10 x9) w fun a5g w_6 =>
 xcond a5g
 (opK Tryd.prog E (xV (Instr.indexAt 22 x8 x10)) w_6 fun a2I w_8 =>
 opK Tryd.prog E (xV (Instr.loadAt 24 a2I)) w_8 fun a6Z l0 =>
 opK Tryd.prog E (xV (Instr.alloc 24 true (.tuple #[]))) l0 fun a2k m6 =>
 opK Tryd.prog E (xU (Instr.storeAt 24 a2k a6Z)) m6 fun _z_13 l8 =>
 opK Tryd.prog E (xV (Instr.loadAt 24 a2k)) l8 fun a8H o5 =>
 opK Tryd.prog E (xCall x1 [a8H]) o5 fun a8I p5 =>
 opK Tryd.prog E (xV (Instr.buildSlice 22 1 #[(0, a8I)])) p5 fun a8J o7 =>
 opK Tryd.prog E (xBuiltin .append #[22, 22] 22 [false, false] [x5, a8J]) o7 fun a8K r9 =>
 opK Tryd.prog E (xBin .add 3 (.tmp 10) (.const (Value.int .i64 1)) x10 (Value.int .i64 1)) r9 fun a6w q8 =>
 next2 [a8K, a6w] q8)
 (j1 [x5] w_6)
def F61 (x0 x1 : Value) (w : World) (R : Value → World → Prop) (E : Pan) : Prop :=
 xcut (fun l_1 w_2 => d1y (nth l_1 0) w_2 R E) fun j1 =>
 opK Tryd.prog E (xBuiltin .len #[22] 3 [false] [x0]) w fun a6v w_4 =>
 xloop [5, 10] [(Value.slice none 0 0), (Value.int .i64 0)] w_4 fun τ_25 t7 next2 =>
 e0D x1 (τ_25 5) x0 a6v (τ_25 10) t7 next2 j1 R E
noncomputable def c61 : Code := Tryd.f61.body.getD .skip
def h61 : Hint := (.seq .none (.seq .none (.cut [5] (.seq .none (.block (.loop [5, 10] (.seq .none (.seq (.cond .none .none) (.seq (.block (.seq .none .none)) .none)))))) (.seq .none .none))))
theorem g7d (x0 x1 : Value) (w : World) (R : Value → World → Prop) (E : Pan) : F61 x0 x1 w R E = callX Tryd.prog [.tmp 4] c61 h61 [x0, x1] w R E := by kernel_rfl
theorem g7e {x0 x1 : Value} {w : World} {R : Value → World → Prop} {E : Pan} (h : F61 x0 x1 w R E) : Cv Tryd.prog 61 #[x0, x1] w R E := by
 refine g7 (args := [x0, x1]) (c := c61) (h := h61) (rs := [.tmp 4]) Tryd.func61 (by kernel_rfl) (by kernel_rfl) (Nat.le_of_ble_eq_true (by kernel_rfl)) (by kernel_rfl) (by kernel_rfl) (by kernel_rfl) ?_
 rw [← g7d]
 exact h
def F62 (x0 : Value) (w : World) (R : Value → World → Prop) (E : Pan) : Prop :=
 opK Tryd.prog E (xV (Instr.box 24 x0)) w fun o0 w_2 =>
 opK Tryd.prog E (xV (Instr.fieldAt 24 o0 0)) w_2 fun a9M w_4 =>
 opK Tryd.prog E (xV (Instr.loadAt 3 a9M)) w_4 fun a9J w_6 =>
 opK Tryd.prog E (xBin .eql 3 (.tmp 6) (.const (Value.int .i64 1)) a9J (Value.int .i64 1)) w_6 fun b1W w_8 =>
 xcond b1W
 (opK Tryd.prog E (xV (Instr.fieldAt 24 o0 1)) w_8 fun a4y l0 =>
 opK Tryd.prog E (xV (Instr.loadAt 2 a4y)) l0 fun a2G m6 =>
 R (Value.tuple #[a2G, (Value.bool true)]) m6)
 (opK Tryd.prog E (xV (Instr.fieldAt 24 o0 0)) w_8 fun a7I l8 =>
 opK Tryd.prog E (xV (Instr.loadAt 3 a7I)) l8 fun b7Y o5 =>
 opK Tryd.prog E (xBin .eql 3 (.tmp 12) (.const (Value.int .i64 5)) b7Y (Value.int .i64 5)) o5 fun a6p p5 =>
 opK Tryd.prog E (gsem (asB a6p) true (xV (Instr.fieldAt 24 o0 3))) p5 fun a6r o7 =>
 opK Tryd.prog E (gsem (asB a6p) true (xV (Instr.loadAt 22 a6r))) o7 fun a8F r9 =>
 opK Tryd.prog E (gsem (asB a6p) true (xV (Instr.indexAt 22 a8F (Value.int .i64 0)))) r9 fun b8c q8 =>
 opK Tryd.prog E (gsem (asB a6p) true (xV (Instr.fieldAt 24 b8c 0))) q8 fun a5N t7 =>
 opK Tryd.prog E (gsem (asB a6p) true (xV (Instr.loadAt 3 a5N))) t7 fun a8C w4 =>
 opK Tryd.prog E (gsem (asB a6p) true (xBin .eql 3 (.tmp 19) (.const (Value.int .i64 1)) a8C (Value.int .i64 1))) w4 fun c7N A8 =>
 opK Tryd.prog E (xPick a6p c7N (Value.bool false)) A8 fun b5p w5 =>
 xcond b5p
 (opK Tryd.prog E (xV (Instr.fieldAt 24 o0 3)) w5 fun b8a z2 =>
 opK Tryd.prog E (xV (Instr.loadAt 22 b8a)) z2 fun c7O F1 =>
 opK Tryd.prog E (xV (Instr.indexAt 22 c7O (Value.int .i64 0))) F1 fun a5M D3 =>
 opK Tryd.prog E (xV (Instr.fieldAt 24 a5M 1)) D3 fun g7f F5 =>
 opK Tryd.prog E (xV (Instr.loadAt 2 g7f)) F5 fun g7g D4 =>
 opK Tryd.prog E (xV (Op.unary .neg g7g)) D4 fun g7h D9 =>
 R (Value.tuple #[g7h, (Value.bool true)]) D9)
 (R (Value.tuple #[(Value.int .i64 0), (Value.bool false)]) w5))
noncomputable def c62 : Code := Tryd.f62.body.getD .skip
def h62 : Hint := (.seq .none (.seq (.block (.seq .none (.cond (.seq .none .none) (.seq .none (.cond (.seq .none .none) .none))))) (.seq .none .none)))
theorem g7i (x0 : Value) (w : World) (R : Value → World → Prop) (E : Pan) : F62 x0 w R E = callX Tryd.prog [.tmp 2, .tmp 3] c62 h62 [x0] w R E := by kernel_rfl
theorem g7j {x0 : Value} {w : World} {R : Value → World → Prop} {E : Pan} (h : F62 x0 w R E) : Cv Tryd.prog 62 #[x0] w R E := by
 refine g7 (args := [x0]) (c := c62) (h := h62) (rs := [.tmp 2, .tmp 3]) Tryd.func62 (by kernel_rfl) (by kernel_rfl) (Nat.le_of_ble_eq_true (by kernel_rfl)) (by kernel_rfl) (by kernel_rfl) (by kernel_rfl) ?_
 rw [← g7i]
 exact h
def F63 (x0 : Value) (w : World) (R : Value → World → Prop) (E : Pan) : Prop :=
 opK Tryd.prog E (xV (Instr.alloc 24 true (.tuple #[]))) w fun M4 w_2 =>
 opK Tryd.prog E (xBin .lss 2 (.tmp 3) (.const (Value.int .i64 0)) x0 (Value.int .i64 0)) w_2 fun a3o w_4 =>
 xcond a3o
 (opK Tryd.prog E (xV (Op.unary .neg x0)) w_4 fun a9J w_6 =>
 opK Tryd.prog E (xV (Instr.build 24 #[(0, (Value.int .i64 1)), (1, a9J)])) w_6 fun b1W w_8 =>
 opK Tryd.prog E (xV (Instr.buildSlice 22 1 #[(0, b1W)])) w_8 fun a4y l0 =>
 opK Tryd.prog E (xV (Instr.build 24 #[(0, (Value.int .i64 5)), (3, a4y)])) l0 fun a2G m6 =>
 opK Tryd.prog E (xU (Instr.storeAt 24 M4 a2G)) m6 fun _z_13 l8 =>
 xcell Tryd.prog 24 M4 l8 fun b3s =>
 R b3s l8)
 (opK Tryd.prog E (xV (Instr.build 24 #[(0, (Value.int .i64 1)), (1, x0)])) w_4 fun a6N a1C =>
 opK Tryd.prog E (xU (Instr.storeAt 24 M4 a6N)) a1C fun _z_18 Z4 =>
 xcell Tryd.prog 24 M4 Z4 fun d1z =>
 R d1z Z4)
noncomputable def c63 : Code := Tryd.f63.body.getD .skip
def h63 : Hint := (.seq .none (.seq (.seq .none (.cond (.seq .none .none) .none)) (.seq .none .none)))
theorem g7k (x0 : Value) (w : World) (R : Value → World → Prop) (E : Pan) : F63 x0 w R E = callX Tryd.prog [.cell 2 24] c63 h63 [x0] w R E := by kernel_rfl
theorem g7l {x0 : Value} {w : World} {R : Value → World → Prop} {E : Pan} (h : F63 x0 w R E) : Cv Tryd.prog 63 #[x0] w R E := by
 refine g7 (args := [x0]) (c := c63) (h := h63) (rs := [.cell 2 24]) Tryd.func63 (by kernel_rfl) (by kernel_rfl) (Nat.le_of_ble_eq_true (by kernel_rfl)) (by kernel_rfl) (by kernel_rfl) (by kernel_rfl) ?_
 rw [← g7k]
 exact h
def d1A (x9 x10 : Value) (w : World) (R : Value → World → Prop) (E : Pan) : Prop :=
 ∀ _τ : Fr, (opK Tryd.prog E (xBin .eql 3 (.tmp 91) (.const (Value.int .i64 0)) x10 (Value.int .i64 0)) w fun d6D w_6 =>
 opK Tryd.prog E (gsem (asB d6D) true (xBin .neq 2 (.tmp 94) (.const (Value.int .i64 (-9223372036854775808))) (gval (asB d6D) true x9) (Value.int .i64 (-9223372036854775808)))) w_6 fun h0O w_8 =>
 opK Tryd.prog E (xPick d6D h0O (Value.bool false)) w_8 fun h0P l0 =>
 R (Value.tuple #[x9, h0P]) l0)
def d1B (x1 x4 : Value) (w : World) (R : Value → World → Prop) (E : Pan) : Prop :=
 ∀ _τ : Fr, (xcut (fun c1k m6 => d1A (nth c1k 0) (nth c1k.tail 0) m6 R E) fun j2 =>
 opK Tryd.prog E (xV (Instr.fieldAt 24 x1 0)) w fun g7m l8 =>
 opK Tryd.prog E (xV (Instr.loadAt 3 g7m)) l8 fun b0z o5 =>
 opK Tryd.prog E (xBin .eql 3 (.tmp 31) (.const (Value.int .i64 5)) b0z (Value.int .i64 5)) o5 fun b8X p5 =>
 xcond b8X
 (opK Tryd.prog E (xV (Instr.indexAt 164 x4 (Value.int .i64 0))) p5 fun g7n o7 =>
 opK Tryd.prog E (xV (Instr.loadAt 2 g7n)) o7 fun g7o r9 =>
 opK Tryd.prog E (xCall (Value.func (.func 101) #[] #[]) [g7o]) r9 fun c3D q8 =>
 opK Tryd.prog E (xV (Instr.extract c3D 0)) q8 fun g7p t7 =>
 opK Tryd.prog E (xV (Instr.extract c3D 1)) t7 fun g7q w4 =>
 j2 [g7p, g7q] w4)
 (opK Tryd.prog E (xBin .eql 3 (.tmp 31) (.const (Value.int .i64 6)) b0z (Value.int .i64 6)) p5 fun g7r A8 =>
 xcond g7r
 (opK Tryd.prog E (xV (Instr.indexAt 164 x4 (Value.int .i64 0))) A8 fun d0i w5 =>
 opK Tryd.prog E (xV (Instr.loadAt 2 d0i)) w5 fun d0j z2 =>
 opK Tryd.prog E (xV (Instr.indexAt 164 x4 (Value.int .i64 1))) z2 fun g7s F1 =>
 opK Tryd.prog E (xV (Instr.loadAt 2 g7s)) F1 fun g7t D3 =>
 opK Tryd.prog E (xCall (Value.func (.func 26) #[] #[]) [d0j, g7t]) D3 fun e0E F5 =>
 opK Tryd.prog E (xV (Instr.extract e0E 0)) F5 fun g7u D4 =>
 opK Tryd.prog E (xV (Instr.extract e0E 1)) D4 fun g7v D9 =>
 j2 [g7u, g7v] D9)
 (opK Tryd.prog E (xBin .eql 3 (.tmp 31) (.const (Value.int .i64 7)) b0z (Value.int .i64 7)) A8 fun d0G M5 =>
 xcond d0G
 (opK Tryd.prog E (xV (Instr.indexAt 164 x4 (Value.int .i64 0))) M5 fun g7w K5 =>
 opK Tryd.prog E (xV (Instr.loadAt 2 g7w)) K5 fun g7x J6 =>
 opK Tryd.prog E (xV (Instr.indexAt 164 x4 (Value.int .i64 1))) J6 fun d0B L3 =>
 opK Tryd.prog E (xV (Instr.loadAt 2 d0B)) L3 fun d0C I7 =>
 opK Tryd.prog E (xCall (Value.func (.func 27) #[] #[]) [g7x, d0C]) I7 fun e0F M6 =>
 opK Tryd.prog E (xV (Instr.extract e0F 0)) M6 fun g7y J5 =>
 opK Tryd.prog E (xV (Instr.extract e0F 1)) J5 fun g7z M2 =>
 j2 [g7y, g7z] M2)
 (opK Tryd.prog E (xBin .eql 3 (.tmp 31) (.const (Value.int .i64 8)) b0z (Value.int .i64 8)) M5 fun g7A L2 =>
 xcond g7A
 (opK Tryd.prog E (xV (Instr.indexAt 164 x4 (Value.int .i64 0))) L2 fun d0k M3 =>
 opK Tryd.prog E (xV (Instr.loadAt 2 d0k)) M3 fun d0l U0 =>
 opK Tryd.prog E (xV (Instr.indexAt 164 x4 (Value.int .i64 1))) U0 fun g7B U7 =>
 opK Tryd.prog E (xV (Instr.loadAt 2 g7B)) U7 fun d0b U1 =>
 opK Tryd.prog E (xCall (Value.func (.func 28) #[] #[]) [d0l, d0b]) U1 fun c3s a0r =>
 opK Tryd.prog E (xV (Instr.extract c3s 0)) a0r fun d0c a0s =>
 opK Tryd.prog E (xV (Instr.extract c3s 1)) a0s fun a8D Z3 =>
 j2 [d0c, a8D] Z3)
 (opK Tryd.prog E (xBin .eql 3 (.tmp 31) (.const (Value.int .i64 9)) b0z (Value.int .i64 9)) L2 fun g7C W3 =>
 xcond g7C
 (opK Tryd.prog E (xV (Instr.indexAt 164 x4 (Value.int .i64 0))) W3 fun d0d X3 =>
 opK Tryd.prog E (xV (Instr.loadAt 2 d0d)) X3 fun d0e Z1 =>
 opK Tryd.prog E (xV (Instr.indexAt 164 x4 (Value.int .i64 1))) Z1 fun d0f a0q =>
 opK Tryd.prog E (xV (Instr.loadAt 2 d0f)) a0q fun g7D a0A =>
 opK Tryd.prog E (xCall (Value.func (.func 29) #[] #[]) [d0e, g7D]) a0A fun e0G Z2 =>
 opK Tryd.prog E (xV (Instr.extract e0G 0)) Z2 fun g7E a2g =>
 opK Tryd.prog E (xV (Instr.extract e0G 1)) a2g fun g7F a2H =>
 j2 [g7E, g7F] a2H)
 (opK Tryd.prog E (xBin .eql 3 (.tmp 31) (.const (Value.int .i64 10)) b0z (Value.int .i64 10)) W3 fun g7G a1B =>
 xcond g7G
 (opK Tryd.prog E (xV (Instr.indexAt 164 x4 (Value.int .i64 0))) a1B fun g7H a3l =>
 opK Tryd.prog E (xV (Instr.loadAt 2 g7H)) a3l fun g7I a3m =>
 opK Tryd.prog E (xV (Instr.indexAt 164 x4 (Value.int .i64 1))) a3m fun g7J a1T =>
 opK Tryd.prog E (xV (Instr.loadAt 2 g7J)) a1T fun f3x a1U =>
 opK Tryd.prog E (xCall (Value.func (.func 30) #[] #[]) [g7I, f3x]) a1U fun d3d a4e =>
 opK Tryd.prog E (xV (Instr.extract d3d 0)) a4e fun f3y a5h =>
 opK Tryd.prog E (xV (Instr.extract d3d 1)) a5h fun f3z a6Y =>
 j2 [f3y, f3z] a6Y)
 (j2 [(Value.int .i64 0), (Value.int .i64 2)] a1B)))))))
def e0H (_x1 x4 x12 x13 x14 : Value) (w : World) (next3 : List Value → World → Prop) (j1 : List Value → World → Prop) (R : Value → World → Prop) (E : Pan) : Prop :=
 opK Tryd.prog E (xBin .lss 3 (.tmp 14) (.tmp 13) x14 x13) w fun f3A a7d =>
 xcond f3A
 (opK Tryd.prog E (xV (Instr.indexAt 22 x12 x14)) a7d fun f3B a5X =>
 opK Tryd.prog E (xV (Instr.loadAt 24 f3B)) a5X fun f3C a4f =>
 opK Tryd.prog E (xV (Instr.alloc 24 true (.tuple #[]))) a4f fun e0I a4F =>
 opK Tryd.prog E (xU (Instr.storeAt 24 e0I f3C)) a4F fun _z_125 a4G =>
 opK Tryd.prog E (xV (Instr.loadAt 24 e0I)) a4G fun f3D a5i =>
 opK Tryd.prog E (xCall (Value.func (.func 62) #[] #[]) [f3D]) a5i fun d3e a3F =>
 opK Tryd.prog E (xV (Instr.extract d3e 0)) a3F fun f3E a4g =>
 opK Tryd.prog E (xV (Instr.extract d3e 1)) a4g fun f3F a4h =>
 opK Tryd.prog E (xV (Op.unary .not f3F)) a4h fun f3G a3D =>
 xcond f3G
 (R (Value.tuple #[(Value.int .i64 0), (Value.bool false)]) a3D)
 (opK Tryd.prog E (xV (Instr.indexAt 164 x4 x14)) a3D fun f3H a7e =>
 opK Tryd.prog E (xU (Instr.storeAt 2 f3H f3E)) a7e fun _z_139 a8O =>
 opK Tryd.prog E (xBin .add 3 (.tmp 14) (.const (Value.int .i64 1)) x14 (Value.int .i64 1)) a8O fun f3I a7f =>
 next3 [f3I] a7f))
 (j1 [] a7d)
def F64 (x0 : Value) (w : World) (R : Value → World → Prop) (E : Pan) : Prop :=
 opK Tryd.prog E (xV (Instr.box 24 x0)) w fun o0 w_2 =>
 opK Tryd.prog E (xV (Instr.alloc 164 true (.tuple #[]))) w_2 fun a3o w_4 =>
 xcut (fun _ a5e => d1B o0 a3o a5e R E) fun j1 =>
 opK Tryd.prog E (xV (Instr.fieldAt 24 o0 3)) w_4 fun f3J a7Q =>
 opK Tryd.prog E (xV (Instr.loadAt 22 f3J)) a7Q fun d3f a7b =>
 opK Tryd.prog E (xBuiltin .len #[22] 3 [false] [d3f]) a7b fun f3K a7c =>
 xloop [14] [(Value.int .i64 0)] a7c fun τ_143 a3E next3 =>
 e0H o0 a3o d3f f3K (τ_143 14) a3E next3 j1 R E
noncomputable def c64 : Code := Tryd.f64.body.getD .skip
def h64 : Hint := (.seq .none (.seq .none (.cut [] (.seq .none (.block (.loop [14] (.seq .none (.seq (.cond .none .none) (.seq (.block (.seq .none (.seq .none (.seq (.seq .none (.cond (.seq .none .none) .none)) .none)))) .none)))))) (.seq .none (.cut [9, 10] (.seq .none (.block (.seq .none (.cond .none (.seq .none (.cond .none (.seq .none (.cond .none (.seq .none (.cond .none (.seq .none (.cond .none (.seq .none (.cond .none .none)))))))))))))) (.seq .none .none))))))
theorem g7K (x0 : Value) (w : World) (R : Value → World → Prop) (E : Pan) : F64 x0 w R E = callX Tryd.prog [.tmp 2, .tmp 3] c64 h64 [x0] w R E := by kernel_rfl
theorem g7L {x0 : Value} {w : World} {R : Value → World → Prop} {E : Pan} (h : F64 x0 w R E) : Cv Tryd.prog 64 #[x0] w R E := by
 refine g7 (args := [x0]) (c := c64) (h := h64) (rs := [.tmp 2, .tmp 3]) Tryd.func64 (by kernel_rfl) (by kernel_rfl) (Nat.le_of_ble_eq_true (by kernel_rfl)) (by kernel_rfl) (by kernel_rfl) (by kernel_rfl) ?_
 rw [← g7K]
 exact h
def F65 (x0 x1 : Value) (w : World) (R : Value → World → Prop) (E : Pan) : Prop :=
 opK Tryd.prog E (xV (Instr.box 24 x0)) w fun M4 w_2 =>
 opK Tryd.prog E (xV (Instr.loadAt 24 M4)) w_2 fun a8N w_4 =>
 opK Tryd.prog E (xCall (Value.func (.func 62) #[] #[]) [a8N]) w_4 fun c1m w_6 =>
 opK Tryd.prog E (xV (Instr.extract c1m 0)) w_6 fun d6E w_8 =>
 opK Tryd.prog E (xV (Instr.extract c1m 1)) w_8 fun a8M l0 =>
 opK Tryd.prog E (gsem (asB a8M) true (xBin .eql 2 (.tmp 14) (.tmp 15) (gval (asB a8M) true d6E) (gval (asB a8M) true x1))) l0 fun a0B m6 =>
 opK Tryd.prog E (xPick a8M a0B (Value.bool false)) m6 fun b2R l8 =>
 R b2R l8
noncomputable def c65 : Code := Tryd.f65.body.getD .skip
def h65 : Hint := (.seq .none (.seq .none (.seq .none .none)))
theorem g7M (x0 x1 : Value) (w : World) (R : Value → World → Prop) (E : Pan) : F65 x0 x1 w R E = callX Tryd.prog [.tmp 4] c65 h65 [x0, x1] w R E := by kernel_rfl
theorem g7N {x0 x1 : Value} {w : World} {R : Value → World → Prop} {E : Pan} (h : F65 x0 x1 w R E) : Cv Tryd.prog 65 #[x0, x1] w R E := by
 refine g7 (args := [x0, x1]) (c := c65) (h := h65) (rs := [.tmp 4]) Tryd.func65 (by kernel_rfl) (by kernel_rfl) (Nat.le_of_ble_eq_true (by kernel_rfl)) (by kernel_rfl) (by kernel_rfl) (by kernel_rfl) ?_
 rw [← g7M]
 exact h
def F69 (x0 : Value) (w : World) (R : Value → World → Prop) (E : Pan) : Prop :=
 opK Tryd.prog E (xV (Instr.box 24 x0)) w fun o0 w_2 =>
 opK Tryd.prog E (xV (Instr.fieldAt 24 o0 0)) w_2 fun a3o w_4 =>
 opK Tryd.prog E (xV (Instr.loadAt 3 a3o)) w_4 fun a9N w_6 =>
 opK Tryd.prog E (xBin .eql 3 (.tmp 5) (.const (Value.int .i64 1)) a9N (Value.int .i64 1)) w_6 fun a6x w_8 =>
 xcond a6x
 (opK Tryd.prog E (xV (Instr.fieldAt 24 o0 1)) w_8 fun e1m l0 =>
 opK Tryd.prog E (xV (Instr.loadAt 2 e1m)) l0 fun b6l m6 =>
 R (Value.tuple #[b6l, (Value.bool true)]) m6)
 (opK Tryd.prog E (xV (Instr.fieldAt 24 o0 0)) w_8 fun b6q l8 =>
 opK Tryd.prog E (xV (Instr.loadAt 3 b6q)) l8 fun b8t o5 =>
 opK Tryd.prog E (xBin .eql 3 (.tmp 10) (.const (Value.int .i64 5)) b8t (Value.int .i64 5)) o5 fun a6y p5 =>
 opK Tryd.prog E (gsem (asB a6y) true (xV (Instr.fieldAt 24 o0 3))) p5 fun b2g o7 =>
 opK Tryd.prog E (gsem (asB a6y) true (xV (Instr.loadAt 22 b2g))) o7 fun b2h r9 =>
 opK Tryd.prog E (gsem (asB a6y) true (xV (Instr.indexAt 22 b2h (Value.int .i64 0)))) r9 fun b8q q8 =>
 opK Tryd.prog E (gsem (asB a6y) true (xV (Instr.fieldAt 24 b8q 0))) q8 fun c8f t7 =>
 opK Tryd.prog E (gsem (asB a6y) true (xV (Instr.loadAt 3 c8f))) t7 fun c8g w4 =>
 opK Tryd.prog E (gsem (asB a6y) true (xBin .eql 3 (.tmp 17) (.const (Value.int .i64 1)) c8g (Value.int .i64 1))) w4 fun b5q A8 =>
 opK Tryd.prog E (xPick a6y b5q (Value.bool false)) A8 fun b8d w5 =>
 xcond b8d
 (opK Tryd.prog E (xV (Instr.fieldAt 24 o0 3)) w5 fun c8h z2 =>
 opK Tryd.prog E (xV (Instr.loadAt 22 c8h)) z2 fun c8i F1 =>
 opK Tryd.prog E (xV (Instr.indexAt 22 c8i (Value.int .i64 0))) F1 fun c8j D3 =>
 opK Tryd.prog E (xV (Instr.fieldAt 24 c8j 1)) D3 fun g7O F5 =>
 opK Tryd.prog E (xV (Instr.loadAt 2 g7O)) F5 fun c8k D4 =>
 opK Tryd.prog E (xV (Op.unary .neg c8k)) D4 fun b2a D9 =>
 R (Value.tuple #[b2a, (Value.bool true)]) D9)
 (R (Value.tuple #[(Value.int .i64 0), (Value.bool false)]) w5))
noncomputable def c69 : Code := Tryd.f69.body.getD .skip
def h69 : Hint := (.seq .none (.seq (.seq .none (.cond (.seq .none .none) .none)) (.seq (.seq .none (.cond (.seq .none .none) .none)) (.seq .none .none))))
theorem g7P (x0 : Value) (w : World) (R : Value → World → Prop) (E : Pan) : F69 x0 w R E = callX Tryd.prog [.tmp 2, .tmp 3] c69 h69 [x0] w R E := by kernel_rfl
theorem g7Q {x0 : Value} {w : World} {R : Value → World → Prop} {E : Pan} (h : F69 x0 w R E) : Cv Tryd.prog 69 #[x0] w R E := by
 refine g7 (args := [x0]) (c := c69) (h := h69) (rs := [.tmp 2, .tmp 3]) Tryd.func69 (by kernel_rfl) (by kernel_rfl) (Nat.le_of_ble_eq_true (by kernel_rfl)) (by kernel_rfl) (by kernel_rfl) (by kernel_rfl) ?_
 rw [← g7P]
 exact h
def F70 (x0 : Value) (w : World) (R : Value → World → Prop) (E : Pan) : Prop :=
 opK Tryd.prog E (xV (Instr.alloc 24 true (.tuple #[]))) w fun M4 w_2 =>
 opK Tryd.prog E (xBin .geq 2 (.tmp 3) (.const (Value.int .i64 0)) x0 (Value.int .i64 0)) w_2 fun a3o w_4 =>
 xcond a3o
 (opK Tryd.prog E (xV (Instr.build 24 #[(0, (Value.int .i64 1)), (1, x0)])) w_4 fun a9J w_6 =>
 opK Tryd.prog E (xU (Instr.storeAt 24 M4 a9J)) w_6 fun _z_7 w_8 =>
 xcell Tryd.prog 24 M4 w_8 fun r_9 =>
 R r_9 w_8)
 (opK Tryd.prog E (xV (Op.unary .neg x0)) w_4 fun h0Q K6 =>
 opK Tryd.prog E (xV (Instr.build 24 #[(0, (Value.int .i64 1)), (1, h0Q)])) K6 fun h0R a2w =>
 opK Tryd.prog E (xV (Instr.buildSlice 22 1 #[(0, h0R)])) a2w fun g7R b8w =>
 opK Tryd.prog E (xV (Instr.build 24 #[(0, (Value.int .i64 5)), (3, g7R)])) b8w fun a6N a1C =>
 opK Tryd.prog E (xU (Instr.storeAt 24 M4 a6N)) a1C fun _z_18 Z4 =>
 xcell Tryd.prog 24 M4 Z4 fun d1z =>
 R d1z Z4)
noncomputable def c70 : Code := Tryd.f70.body.getD .skip
def h70 : Hint := (.seq .none (.seq (.seq .none (.cond (.seq .none .none) .none)) (.seq .none .none)))
theorem g7S (x0 : Value) (w : World) (R : Value → World → Prop) (E : Pan) : F70 x0 w R E = callX Tryd.prog [.cell 2 24] c70 h70 [x0] w R E := by kernel_rfl
theorem g7T {x0 : Value} {w : World} {R : Value → World → Prop} {E : Pan} (h : F70 x0 w R E) : Cv Tryd.prog 70 #[x0] w R E := by
 refine g7 (args := [x0]) (c := c70) (h := h70) (rs := [.cell 2 24]) Tryd.func70 (by kernel_rfl) (by kernel_rfl) (Nat.le_of_ble_eq_true (by kernel_rfl)) (by kernel_rfl) (by kernel_rfl) (by kernel_rfl) ?_
 rw [← g7S]
 exact h
def F72 (x0 x1 : Value) (w : World) (R : Value → World → Prop) (E : Pan) : Prop :=
 opK Tryd.prog E (xV (Instr.box 24 x0)) w fun M4 w_2 =>
 opK Tryd.prog E (xV (Instr.loadAt 24 M4)) w_2 fun a8N w_4 =>
 opK Tryd.prog E (xCall (Value.func (.func 69) #[] #[]) [a8N]) w_4 fun c1m w_6 =>
 opK Tryd.prog E (xV (Instr.extract c1m 0)) w_6 fun d6E w_8 =>
 opK Tryd.prog E (xV (Instr.extract c1m 1)) w_8 fun a8M l0 =>
 opK Tryd.prog E (gsem (asB a8M) true (xBin .eql 2 (.tmp 14) (.tmp 15) (gval (asB a8M) true d6E) (gval (asB a8M) true x1))) l0 fun a0B m6 =>
 opK Tryd.prog E (xPick a8M a0B (Value.bool false)) m6 fun b2R l8 =>
 R b2R l8
noncomputable def c72 : Code := Tryd.f72.body.getD .skip
def h72 : Hint := (.seq .none (.seq .none (.seq .none .none)))
theorem g7U (x0 x1 : Value) (w : World) (R : Value → World → Prop) (E : Pan) : F72 x0 x1 w R E = callX Tryd.prog [.tmp 4] c72 h72 [x0, x1] w R E := by kernel_rfl
theorem g7V {x0 x1 : Value} {w : World} {R : Value → World → Prop} {E : Pan} (h : F72 x0 x1 w R E) : Cv Tryd.prog 72 #[x0, x1] w R E := by
 refine g7 (args := [x0, x1]) (c := c72) (h := h72) (rs := [.tmp 4]) Tryd.func72 (by kernel_rfl) (by kernel_rfl) (Nat.le_of_ble_eq_true (by kernel_rfl)) (by kernel_rfl) (by kernel_rfl) (by kernel_rfl) ?_
 rw [← g7U]
 exact h
def d1C (x5 : Value) (w : World) (R : Value → World → Prop) (_E : Pan) : Prop :=
 ∀ _τ : Fr, (R x5 w)
def e0J (x1 x5 x8 x9 x10 : Value) (w : World) (next2 : List Value → World → Prop) (j1 : List Value → World → Prop) (_R : Value → World → Prop) (E : Pan) : Prop :=
 opK Tryd.prog E (xBin .lss 3 (.tmp 10) (.tmp 9) x10 x9) w fun a5g w_6 =>
 xcond a5g
 (opK Tryd.prog E (xV (Instr.indexAt 25 x8 x10)) w_6 fun a2I w_8 =>
 opK Tryd.prog E (xV (Instr.loadAt 27 a2I)) w_8 fun a6Z l0 =>
 opK Tryd.prog E (xV (Instr.alloc 27 true (.tuple #[]))) l0 fun a2k m6 =>
 opK Tryd.prog E (xU (Instr.storeAt 27 a2k a6Z)) m6 fun _z_13 l8 =>
 opK Tryd.prog E (xV (Instr.loadAt 27 a2k)) l8 fun a8H o5 =>
 opK Tryd.prog E (xCall x1 [a8H]) o5 fun a8I p5 =>
 opK Tryd.prog E (xV (Instr.buildSlice 25 1 #[(0, a8I)])) p5 fun a8J o7 =>
 opK Tryd.prog E (xBuiltin .append #[25, 25] 25 [false, false] [x5, a8J]) o7 fun a8K r9 =>
 opK Tryd.prog E (xBin .add 3 (.tmp 10) (.const (Value.int .i64 1)) x10 (Value.int .i64 1)) r9 fun a6w q8 =>
 next2 [a8K, a6w] q8)
 (j1 [x5] w_6)
def F73 (x0 x1 : Value) (w : World) (R : Value → World → Prop) (E : Pan) : Prop :=
 xcut (fun l_1 w_2 => d1C (nth l_1 0) w_2 R E) fun j1 =>
 opK Tryd.prog E (xBuiltin .len #[25] 3 [false] [x0]) w fun a6v w_4 =>
 xloop [5, 10] [(Value.slice none 0 0), (Value.int .i64 0)] w_4 fun τ_25 t7 next2 =>
 e0J x1 (τ_25 5) x0 a6v (τ_25 10) t7 next2 j1 R E
noncomputable def c73 : Code := Tryd.f73.body.getD .skip
def h73 : Hint := (.seq .none (.seq .none (.cut [5] (.seq .none (.block (.loop [5, 10] (.seq .none (.seq (.cond .none .none) (.seq (.block (.seq .none .none)) .none)))))) (.seq .none .none))))
theorem g7W (x0 x1 : Value) (w : World) (R : Value → World → Prop) (E : Pan) : F73 x0 x1 w R E = callX Tryd.prog [.tmp 4] c73 h73 [x0, x1] w R E := by kernel_rfl
theorem g7X {x0 x1 : Value} {w : World} {R : Value → World → Prop} {E : Pan} (h : F73 x0 x1 w R E) : Cv Tryd.prog 73 #[x0, x1] w R E := by
 refine g7 (args := [x0, x1]) (c := c73) (h := h73) (rs := [.tmp 4]) Tryd.func73 (by kernel_rfl) (by kernel_rfl) (Nat.le_of_ble_eq_true (by kernel_rfl)) (by kernel_rfl) (by kernel_rfl) (by kernel_rfl) ?_
 rw [← g7W]
 exact h
def F74 (x0 : Value) (w : World) (R : Value → World → Prop) (E : Pan) : Prop :=
 opK Tryd.prog E (xV (Instr.alloc 27 true (.tuple #[]))) w fun M4 w_2 =>
 xcond x0
 (opK Tryd.prog E (xV (Instr.build 27 #[(0, (Value.int .i64 1))])) w_2 fun a3o w_4 =>
 opK Tryd.prog E (xU (Instr.storeAt 27 M4 a3o)) w_4 fun _z_5 w_6 =>
 xcell Tryd.prog 27 M4 w_6 fun r_7 =>
 R r_7 w_6)
 (opK Tryd.prog E (xV (Instr.build 27 #[(0, (Value.int .i64 2))])) w_2 fun c8P w_9 =>
 opK Tryd.prog E (xU (Instr.storeAt 27 M4 c8P)) w_9 fun _z_10 K6 =>
 xcell Tryd.prog 27 M4 K6 fun e5j =>
 R e5j K6)
noncomputable def c74 : Code := Tryd.f74.body.getD .skip
def h74 : Hint := (.seq .none (.seq (.seq .none (.cond (.seq .none .none) .none)) (.seq .none .none)))
theorem g7Y (x0 : Value) (w : World) (R : Value → World → Prop) (E : Pan) : F74 x0 w R E = callX Tryd.prog [.cell 2 27] c74 h74 [x0] w R E := by kernel_rfl
theorem g7Z {x0 : Value} {w : World} {R : Value → World → Prop} {E : Pan} (h : F74 x0 w R E) : Cv Tryd.prog 74 #[x0] w R E := by
 refine g7 (args := [x0]) (c := c74) (h := h74) (rs := [.cell 2 27]) Tryd.func74 (by kernel_rfl) (by kernel_rfl) (Nat.le_of_ble_eq_true (by kernel_rfl)) (by kernel_rfl) (by kernel_rfl) (by kernel_rfl) ?_
 rw [← g7Y]
 exact h
def d1D (x3 x6 x7 x23 : Value) (w : World) (R : Value → World → Prop) (E : Pan) : Prop :=
 ∀ _τ : Fr, (xcond x23
 (opK Tryd.prog E (xV (Instr.loadAt 27 x7)) w fun g8a a1C =>
 opK Tryd.prog E (xU (Instr.storeAt 27 x6 g8a)) a1C fun _z_18 Z4 =>
 xcell Tryd.prog 27 x6 Z4 fun d1z =>
 R d1z Z4)
 (opK Tryd.prog E (xV (Instr.loadAt 27 x3)) w fun g8b r9 =>
 opK Tryd.prog E (xU (Instr.storeAt 27 x6 g8b)) r9 fun _z_23 q8 =>
 xcell Tryd.prog 27 x6 q8 fun h5E =>
 R h5E q8))
def d1E (x1 x2 x3 x6 x7 x8 : Value) (w : World) (R : Value → World → Prop) (E : Pan) : Prop :=
 ∀ _τ : Fr, (opK Tryd.prog E (xV (Instr.fieldAt 27 x7 0)) w fun h0S w_6 =>
 opK Tryd.prog E (xV (Instr.loadAt 3 h0S)) w_6 fun h0T w_8 =>
 opK Tryd.prog E (xBin .eql 3 (.tmp 19) (.tmp 20) h0T x1) w_8 fun h0U l0 =>
 xcond h0U
 (opK Tryd.prog E (xV (Instr.loadAt 27 x8)) l0 fun d0Y m6 =>
 opK Tryd.prog E (xU (Instr.storeAt 27 x6 d0Y)) m6 fun _z_13 l8 =>
 xcell Tryd.prog 27 x6 l8 fun b3s =>
 R b3s l8)
 (xcut (fun b4L a7V => d1D x3 x6 x7 (nth b4L 0) a7V R E) fun j2 =>
 opK Tryd.prog E (xV (Instr.fieldAt 27 x7 0)) l0 fun g8c a8b =>
 opK Tryd.prog E (xV (Instr.loadAt 3 g8c)) a8b fun g8d b9n =>
 opK Tryd.prog E (xBin .eql 3 (.tmp 25) (.tmp 26) g8d x2) b9n fun e0K c2w =>
 xcond e0K
 (j2 [e0K] c2w)
 (opK Tryd.prog E (xV (Instr.fieldAt 27 x8 0)) c2w fun g8e c1M =>
 opK Tryd.prog E (xV (Instr.loadAt 3 g8e)) c1M fun g8f b4O =>
 opK Tryd.prog E (xBin .eql 3 (.tmp 29) (.tmp 30) g8f x1) b4O fun g8g b6I =>
 j2 [g8g] b6I)))
def F76 (x0 x1 x2 : Value) (w : World) (R : Value → World → Prop) (E : Pan) : Prop :=
 opK Tryd.prog E (xV (Instr.box 27 x0)) w fun b2Q w_2 =>
 opK Tryd.prog E (xV (Instr.alloc 27 true (.tuple #[]))) w_2 fun b6p w_4 =>
 xcut (fun d6F b2f => d1E x1 x2 b2Q b6p (nth d6F 0) (nth d6F.tail 0) b2f R E) fun j1 =>
 dX w_4 fun D4 =>
 qP Tryd.prog (xV (Instr.fieldAt 27 b2Q 3)) fun c0d =>
 qP Tryd.prog (xV (Instr.fieldAt 27 b2Q 3)) fun b0F =>
 qL Tryd.prog D4 (blk c0d) (xV (Instr.loadAt 25 c0d)) fun g8h =>
 qP Tryd.prog (xV (Instr.indexAt 25 g8h (Value.int .i64 0))) fun b5S =>
 qL Tryd.prog D4 (blk b5S) (xV (Instr.loadAt 27 b5S)) fun e0L =>
 qL Tryd.prog D4 (blk b0F) (xV (Instr.loadAt 25 b0F)) fun g8i =>
 qP Tryd.prog (xV (Instr.indexAt 25 g8i (Value.int .i64 1))) fun b0G =>
 qL Tryd.prog D4 (blk b0G) (xV (Instr.loadAt 27 b0G)) fun e0M =>
 (opK Tryd.prog E (xV (Instr.alloc 27 true (.tuple #[]))) D4 fun e6t L3 =>
 keepX [(blk b0G), (blk b0F), (blk b5S), (blk c0d)] D4 L3 (opK Tryd.prog E (xV (Instr.alloc 27 true (.tuple #[]))) L3 fun e6u I7 =>
 keepX [(blk b0G), (blk b0F), (blk b5S), (blk c0d)] L3 I7 (opK Tryd.prog E (xU (Instr.storeAt 27 e6t e0L)) I7 fun _z_55 M6 =>
 keepX [(blk b0G), (blk b0F)] I7 M6 (opK Tryd.prog E (xU (Instr.storeAt 27 e6u e0M)) M6 fun _z_57 J5 =>
 keepX [] M6 J5 (j1 [e6t, e6u] J5))))) ∧
 (opK Tryd.prog E (xV (Instr.alloc 27 true (.tuple #[]))) D4 fun e6v M2 =>
 keepX [(blk b0G), (blk b0F), (blk b5S), (blk c0d)] D4 M2 (opK Tryd.prog E (xV (Instr.alloc 27 true (.tuple #[]))) M2 fun e6w L2 =>
 keepX [(blk b0G), (blk b0F), (blk b5S), (blk c0d)] M2 L2 (opK Tryd.prog E (xU (Instr.storeAt 27 e6w e0L)) L2 fun _z_63 M3 =>
 keepX [(blk b0G), (blk b0F)] L2 M3 (opK Tryd.prog E (xU (Instr.storeAt 27 e6v e0M)) M3 fun _z_65 U0 =>
 keepX [] M3 U0 (j1 [e6w, e6v] U0)))))
noncomputable def c76 : Code := Tryd.f76.body.getD .skip
def h76 : Hint := (.seq .none (.cut [7, 8] (.reg [(0, 512, 8), (1, 1024, 512), (2, 2048, 1024), (4, 4096, 2048), (0, 8192, 8), (16, 16384, 8192), (32, 32768, 16384), (64, 65536, 32768), (0, 128, 0), (0, 256, 0), (783, 0, 4224), (2047, 0, 65792)] [170, 168, 170, 162, 170, 138, 170, 42, 170, 170, 160, 0] (.early 0 (.early 4 (.load 1 (.early 2 (.load 3 (.load 5 (.early 6 (.load 7 (.alt 8 (.step 9 (.step 10 (.step 11 .done))) (.step 9 (.step 8 (.step 10 (.step 11 .done)))))))))))))) (.seq (.block (.seq .none (.cond (.seq .none .none) (.cut [23] (.seq .none (.cond .none .none)) (.cond (.seq .none .none) .none))))) (.seq .none .none))))
theorem g8j (x0 x1 x2 : Value) (w : World) (R : Value → World → Prop) (E : Pan) : F76 x0 x1 x2 w R E = callX Tryd.prog [.cell 6 27] c76 h76 [x0, x1, x2] w R E := by kernel_rfl
theorem g8k {x0 x1 x2 : Value} {w : World} {R : Value → World → Prop} {E : Pan} (h : F76 x0 x1 x2 w R E) : Cv Tryd.prog 76 #[x0, x1, x2] w R E := by
 refine g7 (args := [x0, x1, x2]) (c := c76) (h := h76) (rs := [.cell 6 27]) Tryd.func76 (by kernel_rfl) (by kernel_rfl) (Nat.le_of_ble_eq_true (by kernel_rfl)) (by kernel_rfl) (by kernel_rfl) (by kernel_rfl) ?_
 rw [← g8j]
 exact h
def F79 (x0 : Value) (w : World) (R : Value → World → Prop) (E : Pan) : Prop :=
 opK Tryd.prog E (xV (Instr.alloc 27 true (.tuple #[]))) w fun M4 w_2 =>
 xcond x0
 (opK Tryd.prog E (xV (Instr.build 27 #[(0, (Value.int .i64 1))])) w_2 fun a3o w_4 =>
 opK Tryd.prog E (xU (Instr.storeAt 27 M4 a3o)) w_4 fun _z_5 w_6 =>
 xcell Tryd.prog 27 M4 w_6 fun r_7 =>
 R r_7 w_6)
 (opK Tryd.prog E (xV (Instr.build 27 #[(0, (Value.int .i64 2))])) w_2 fun c8P w_9 =>
 opK Tryd.prog E (xU (Instr.storeAt 27 M4 c8P)) w_9 fun _z_10 K6 =>
 xcell Tryd.prog 27 M4 K6 fun e5j =>
 R e5j K6)
noncomputable def c79 : Code := Tryd.f79.body.getD .skip
def h79 : Hint := (.seq .none (.seq (.seq .none (.cond (.seq .none .none) .none)) (.seq .none .none)))
theorem g8l (x0 : Value) (w : World) (R : Value → World → Prop) (E : Pan) : F79 x0 w R E = callX Tryd.prog [.cell 2 27] c79 h79 [x0] w R E := by kernel_rfl
theorem g8m {x0 : Value} {w : World} {R : Value → World → Prop} {E : Pan} (h : F79 x0 w R E) : Cv Tryd.prog 79 #[x0] w R E := by
 refine g7 (args := [x0]) (c := c79) (h := h79) (rs := [.cell 2 27]) Tryd.func79 (by kernel_rfl) (by kernel_rfl) (Nat.le_of_ble_eq_true (by kernel_rfl)) (by kernel_rfl) (by kernel_rfl) (by kernel_rfl) ?_
 rw [← g8l]
 exact h
end Go.Proofs.YtnhkdkcgdcgmdaaDoor
